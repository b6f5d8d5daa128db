/-
  Words of my own for memory: a reading that lies from a block on ('FlatF'): it bears stores below that block. No program of Go's is named here.
-/
import Derived.Test.YtkcfkcgclljncaaKitApp
namespace Go.Proofs.Ytkcfkcgclljncaa
open Go.ChangeShapes Go.WideShapes Go.RowKit
set_option linter.unusedVariables false
namespace Kit

/-- From A on the cells stand in memory, all in one block that is 'lo' or later. -/
def FlatF (lo : Nat) (w : World) (A : Option Addr) (cells : List Value) : Prop :=
  cells ≠ [] → ∃ b off, A = some ⟨b, off, none⟩ ∧ lo ≤ b ∧ b < w.heap.size ∧ ∀ j u, cells[j]? = some u → w.cell? ⟨b, off + j, none⟩ = some u
theorem FlatF.nil (lo : Nat) (w : World) (A : Option Addr) : FlatF lo w A [] := fun h => absurd rfl h
theorem FlatF.flat {lo : Nat} {w : World} {A : Option Addr} {cells : List Value} (h : FlatF lo w A cells) : Flat w w.heap.size A cells := fun hn => by
  obtain ⟨b, off, e, _, hb, hc⟩ := h hn
  exact ⟨b, off, e, hb, hc⟩
theorem FlatF.of_own {w : World} {base size n : Nat} {e : TypeId} {A : Option Addr} {c : Nat} {xs : List Value} (h : w.ownsRow base e size (.slice A n c) n xs) : FlatF base w A xs := fun hn => by
  rcases h.2 with ⟨hv, h0⟩ | ⟨g, cap, cur, hv, hbg, hg, _⟩
  · have : xs = [] := List.eq_nil_of_length_eq_zero (by rw [h.1, h0, Nat.zero_mul])
    exact absurd this hn
  · obtain ⟨b, off, e, hb, hc⟩ := (Flat.of_own h) hn
    injection hv with hA
    rw [hA] at e
    injection e with e
    injection e with e1 e2
    subst e1
    exact ⟨_, off, by rw [hA, ← e2], hbg, hb, hc⟩
theorem FlatF.keep {lo : Nat} {w w' : World} {A : Option Addr} {cells : List Value} (h : FlatF lo w A cells) (hk : Kept w.heap.size w w') (hs : w.heap.size ≤ w'.heap.size) : FlatF lo w' A cells := fun hn => by
  obtain ⟨b, off, e, hl, hb, hc⟩ := h hn
  exact ⟨b, off, e, hl, by omega, fun j u hu => (hk ⟨b, off + j, none⟩ hb).trans (hc j u hu)⟩
theorem FlatF.below {lo : Nat} {w w' : World} {A : Option Addr} {cells : List Value} (h : FlatF lo w A cells) (hb : Below w.heap.size w w') : FlatF lo w' A cells := h.keep (kept_of_below hb) hb.size
theorem FlatF.alloc {lo : Nat} {w : World} {A : Option Addr} {cells : List Value} (h : FlatF lo w A cells) (o : Obj) : FlatF lo (w.alloc o) A cells := h.keep (kept_alloc (Nat.le_refl _) o) (by simp)
theorem FlatF.drew {lo : Nat} {w : World} {A : Option Addr} {cells : List Value} (h : FlatF lo w A cells) : FlatF lo w.drew A cells := h
theorem FlatF.drewN {lo : Nat} {w : World} {A : Option Addr} {cells : List Value} (h : FlatF lo w A cells) (n : Nat) : FlatF lo (w.drewN n) A cells := h
theorem FlatF.setCell {lo : Nat} {w : World} {A : Option Addr} {cells : List Value} (h : FlatF lo w A cells) {p : Addr} (hp : p.block < lo) (u : Value) : FlatF lo (w.setCell p u) A cells := fun hn => by
  obtain ⟨b, off, e, hl, hb, hc⟩ := h hn
  refine ⟨b, off, e, hl, by simpa using hb, fun j v hv => ?_⟩
  rw [← hc j v hv]
  exact World.cell?_setCell_other w p _ u (fun e => by subst e; simp at hp; omega)
theorem FlatF.mono {lo lo' : Nat} {w : World} {A : Option Addr} {cells : List Value} (h : FlatF lo w A cells) (hl : lo' ≤ lo) : FlatF lo' w A cells := fun hn => by
  obtain ⟨b, off, e, h1, hb, hc⟩ := h hn
  exact ⟨b, off, e, by omega, hb, hc⟩
/-- nil, as a row of the call's own. -/
theorem own_nil (w : World) (base : Nat) (e : TypeId) (size : Nat) : w.ownsRow base e size (.slice none 0 0) 0 [] := ⟨by simp, .inl ⟨rfl, rfl⟩⟩

theorem Flat.up {w w' : World} {A : Option Addr} {cs : List Value} (h : Flat w w.heap.size A cs) (hb : Below w.heap.size w w') : Flat w' w'.heap.size A cs := (h.below hb).more hb.size


end Kit
end Go.Proofs.Ytkcfkcgclljncaa
