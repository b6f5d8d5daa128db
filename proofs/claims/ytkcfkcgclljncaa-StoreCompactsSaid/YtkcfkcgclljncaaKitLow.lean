/-
  Words of my own for memory: a reading that lies from a block on ('FlatF'): it bears stores below that block. No program of Go's is named here.
-/
import Derived.Test.YtkcfkcgclljncaaKitApp
namespace Go.Proofs.Ytkcfkcgclljncaa
open Go.ChangeShapes Go.WideShapes Go.RowKit
set_option linter.unusedVariables false
namespace Kit

/-- From A on the cells stand in memory, all in one block that is 'lo' or later. -/
def FlatF (lo : Nat) (w : World) (A : Option Addr) (cells : List Value) : Prop :=
  cells ≠ [] → ∃ b off, A = some ⟨b, off, none⟩ ∧ lo ≤ b ∧ b < w.heap.size ∧ ∀ j u, cells[j]? = some u → w.cell? ⟨b, off + j, none⟩ = some u
theorem FlatF.nil (lo : Nat) (w : World) (A : Option Addr) : FlatF lo w A [] := fun h => absurd rfl h
theorem FlatF.flat {lo : Nat} {w : World} {A : Option Addr} {cells : List Value} (h : FlatF lo w A cells) : Flat w w.heap.size A cells := fun hn => by
  obtain ⟨b, off, e, _, hb, hc⟩ := h hn
  exact ⟨b, off, e, hb, hc⟩
theorem FlatF.of_own {w : World} {base size n : Nat} {e : TypeId} {A : Option Addr} {c : Nat} {xs : List Value} (h : w.ownsRow base e size (.slice A n c) n xs) : FlatF base w A xs := fun hn => by
  rcases h.2 with ⟨hv, h0⟩ | ⟨g, cap, cur, hv, hbg, hg, _⟩
  · have : xs = [] := List.eq_nil_of_length_eq_zero (by rw [h.1, h0, Nat.zero_mul])
    exact absurd this hn
  · obtain ⟨b, off, e, hb, hc⟩ := (Flat.of_own h) hn
    injection hv with hA
    rw [hA] at e
    injection e with e
    injection e with e1 e2
    subst e1
    exact ⟨_, off, by rw [hA, ← e2], hbg, hb, hc⟩
theorem FlatF.keep {lo : Nat} {w w' : World} {A : Option Addr} {cells : List Value} (h : FlatF lo w A cells) (hk : Kept w.heap.size w w') (hs : w.heap.size ≤ w'.heap.size) : FlatF lo w' A cells := fun hn => by
  obtain ⟨b, off, e, hl, hb, hc⟩ := h hn
  exact ⟨b, off, e, hl, by omega, fun j u hu => (hk ⟨b, off + j, none⟩ hb).trans (hc j u hu)⟩
theorem FlatF.below {lo : Nat} {w w' : World} {A : Option Addr} {cells : List Value} (h : FlatF lo w A cells) (hb : Below w.heap.size w w') : FlatF lo w' A cells := h.keep (kept_of_below hb) hb.size
theorem FlatF.alloc {lo : Nat} {w : World} {A : Option Addr} {cells : List Value} (h : FlatF lo w A cells) (o : Obj) : FlatF lo (w.alloc o) A cells := h.keep (kept_alloc (Nat.le_refl _) o) (by simp)
theorem FlatF.drew {lo : Nat} {w : World} {A : Option Addr} {cells : List Value} (h : FlatF lo w A cells) : FlatF lo w.drew A cells := h
theorem FlatF.drewN {lo : Nat} {w : World} {A : Option Addr} {cells : List Value} (h : FlatF lo w A cells) (n : Nat) : FlatF lo (w.drewN n) A cells := h
theorem FlatF.setCell {lo : Nat} {w : World} {A : Option Addr} {cells : List Value} (h : FlatF lo w A cells) {p : Addr} (hp : p.block < lo) (u : Value) : FlatF lo (w.setCell p u) A cells := fun hn => by
  obtain ⟨b, off, e, hl, hb, hc⟩ := h hn
  refine ⟨b, off, e, hl, by simpa using hb, fun j v hv => ?_⟩
  rw [← hc j v hv]
  exact World.cell?_setCell_other w p _ u (fun e => by subst e; simp at hp; omega)
theorem FlatF.mono {lo lo' : Nat} {w : World} {A : Option Addr} {cells : List Value} (h : FlatF lo w A cells) (hl : lo' ≤ lo) : FlatF lo' w A cells := fun hn => by
  obtain ⟨b, off, e, h1, hb, hc⟩ := h hn
  exact ⟨b, off, e, by omega, hb, hc⟩
theorem FlatF.setCells6 {lo : Nat} {w : World} {A : Option Addr} {cells : List Value} (h : FlatF lo w A cells) {g : Nat} (hp : g < lo) (u0 u1 u2 u3 u4 u5 : Value) :
    FlatF lo ((((((w.setCell ⟨g, 0, none⟩ u0).setCell ⟨g, 1, none⟩ u1).setCell ⟨g, 2, none⟩ u2).setCell ⟨g, 3, none⟩ u3).setCell ⟨g, 4, none⟩ u4).setCell ⟨g, 5, none⟩ u5) A cells :=
  ((((((h.setCell hp u0).setCell hp u1).setCell hp u2).setCell hp u3).setCell hp u4).setCell hp u5)
/-- nil, as a row of the call's own. -/
theorem own_nil (w : World) (base : Nat) (e : TypeId) (size : Nat) : w.ownsRow base e size (.slice none 0 0) 0 [] := ⟨by simp, .inl ⟨rfl, rfl⟩⟩
/-- What an append gives, in these words. -/
theorem own_low {w : World} {base : Nat} {e : TypeId} {size n : Nat} {v : Value} {xs : List Value} (h : w.ownsRow base e size v n xs) : ∃ A c, v = .slice A n c ∧ n ≤ c ∧ c ≤ maxLen ∧ FlatF base w A xs := by
  rcases h.2 with ⟨rfl, rfl⟩ | ⟨g, cap, cur, rfl, hbg, hg, h1, h2, _⟩
  · exact ⟨none, 0, rfl, Nat.le_refl _, by unfold maxLen; decide, FlatF.of_own h⟩
  · exact ⟨_, cap, rfl, h1, h2, FlatF.of_own h⟩

theorem heap_second (w : World) (o o' : Obj) : ((w.alloc o).alloc o').heap[w.heap.size + 1]? = some o' := by
  have h := heap_alloc_new (w.alloc o) o'
  rwa [show (w.alloc o).heap.size = w.heap.size + 1 by simp] at h
theorem heap_first (w : World) (o o' : Obj) : ((w.alloc o).alloc o').heap[w.heap.size]? = some o := by
  rw [Below.heap_alloc (w.alloc o) o' w.heap.size (by simp)]
  exact heap_alloc_new w o
theorem heap_third (w : World) (o o' o'' : Obj) : (((w.alloc o).alloc o').alloc o'').heap[w.heap.size + 2]? = some o'' := by
  have h := heap_second (w.alloc o) o' o''
  rwa [show (w.alloc o).heap.size + 1 = w.heap.size + 2 by simp] at h
theorem kept_drewN (B : Nat) (w : World) (n : Nat) : Kept B w (w.drewN n) := fun _ _ => rfl
theorem Flat.up {w w' : World} {A : Option Addr} {cs : List Value} (h : Flat w w.heap.size A cs) (hb : Below w.heap.size w w') : Flat w' w'.heap.size A cs := (h.below hb).more hb.size
theorem Flat.up2 {w w' : World} {A : Option Addr} {cs : List Value} {B : Nat} (h : Flat w B A cs) (hb : Below w.heap.size w w') (hB : B ≤ w.heap.size) : Flat w' w'.heap.size A cs := (h.more hB).up hb

def calleeIs (o : Oper) (f : FuncId) : Bool :=
  match o.op with
  | .call c => (match c.callee with | .value (.func g) => g == f | _ => false)
  | _ => false
/-- A call of a Go function, at a step of a region that draws its order: for go_region_law. -/
theorem step_call {P : Program} {w : World} {ops : Array Oper} {o : Oper} {a : Act} {K : Act → World → Prop} {Q : Exit → Act → World → Prop} {X : Prop} (f : FuncId) (hat : calleeIs o f = true) (vs : Array Value) (hgd : o.guard = none)
    (hx : (execOp a.eval o).run P w = .ok (.enter f vs) w) (R : Value → World → Prop) (hc : Calls P f vs w fun e w' => ∃ v, e = .returned v ∧ R v w') (h : ∀ v w', R v w' → K (a.put o.dst v) w') :
    if Region.wanted o (yielded ops a.tmps) = true then Oper.wp P o a w K Q else X := by
  have hw : Region.wanted o (yielded ops a.tmps) = true := by simp [Region.wanted, hgd]
  rw [if_pos hw]
  unfold Oper.wp
  rw [hx, Oper.upon_enter]
  exact hc.mono (fun e w' ⟨v, he, hR⟩ => by subst he; exact h v w' hR)

end Kit
end Go.Proofs.Ytkcfkcgclljncaa
