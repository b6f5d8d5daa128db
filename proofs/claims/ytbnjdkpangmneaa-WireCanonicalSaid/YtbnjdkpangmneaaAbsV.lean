/-
  A reading of Go's memory by values, twenty-second part: arguments that come from outside; from a contract to a law. No program of Go's is named here.
-/
import Derived.Test.YtbnjdkpangmneaaAbsS
import Derived.Test.YtbnjdkpangmneaaKit
namespace Go.Proofs.Ytbnjdkpangmneaa
open Go.ChangeShapes Go.WideShapes Go.RowKit
set_option linter.unusedVariables false
set_option linter.unusedSimpArgs false
namespace Abs
abbrev NoA : Nat → Prop := fun _ => False
/-- What came in reads as f says. -/
def rC {α : Type} (f : α → List CV) : Kit.Rel α := fun w _ x cs => All2 (RepC NoA w) (f x) cs
theorem opens_c_byte {P : Program} {t : TypeId} (ht : P.underlying t = some (.int .u8)) (hc : P.cellsOf t = 1) : Kit.Opens P t 1 (rC byC) :=
  ⟨hc, fun H enc w base spare held fuel cs x h => by
    obtain ⟨b, hb⟩ := (Kit.opens_byte ht hc).2 H enc w base spare held fuel cs x h
    have hb2 : cs = [.int .u8 (b.toNat : Int)] := hb
    exact ⟨b, by rw [hb2]; exact .cons (.val _ rfl) .nil⟩⟩
theorem opens_c_slice {α : Type} [Inhabited α] {P : Program} {t e : TypeId} {size : Nat} {f : α → List CV} (h0 : 0 < size) (hs : ∀ x, (f x).length = size) (ht : P.underlying t = some (.slice e)) (hc : P.cellsOf t = 1) (ho : Kit.Opens P e size (rC f)) : Kit.Opens P t 1 (rC fun l => [CV.ls f l]) := by
  refine ⟨hc, fun H enc w base spare held fuel cs x h => ?_⟩
  rcases Deep.open_slice ht h with ⟨e, _⟩ | ⟨a, len, cap, m, n, D, Pl, e, hb, hl, hm, hmm, hx, hel⟩
  · exact ⟨[], by rw [e]; exact .cons (.nil _) .nil⟩
  · have hml : len ≤ m := by rw [hmm]; split <;> omega
    rw [ho.1] at hel hx
    have key : ∀ k, k ≤ len → ∃ xs : List α, xs.length = k ∧ ∀ (i : Nat) (y : α), xs[i]? = some y → ∀ (j : Nat) (c : CV), (f y)[j]? = some c → ∃ u, w.cell? (a.add (i * size + j)) = some u ∧ RepC NoA w c u := by
      intro k
      induction k with
      | zero => exact fun _ => ⟨[], rfl, fun i y hy => by simp at hy⟩
      | succ k ih =>
        intro hk
        obtain ⟨xs, hxl, hcell⟩ := ih (by omega)
        obtain ⟨cs', hcs, htr⟩ := hel k (by omega)
        obtain ⟨_, hcl, hat⟩ := World.cells?_some hcs
        obtain ⟨y, hy⟩ := ho.2 _ _ _ _ _ _ _ _ _ htr
        have hy' : All2 (RepC NoA w) (f y) cs' := hy
        refine ⟨xs ++ [y], by simp [hxl], fun i z hz j c hj => ?_⟩
        by_cases hi : i < xs.length
        · rw [List.getElem?_append_left hi] at hz
          exact hcell i z hz j c hj
        · rw [List.getElem?_append_right (by omega)] at hz
          have hi0 : i = k := by
            have := (List.getElem?_eq_some_iff.1 hz).1
            simp at this
            omega
          subst hi0
          have hzy : y = z := by rw [hxl, Nat.sub_self] at hz; simpa using hz
          subst hzy
          obtain ⟨u, hu, hr⟩ := hy'.get hj
          have hj2 : j < size := by
            have := (List.getElem?_eq_some_iff.1 hj).1
            rw [hs] at this
            exact this
          have h3 := hat j hj2
          rw [Deep.add_add, hu] at h3
          exact ⟨u, h3, hr⟩
    obtain ⟨xs, hxl, hcell⟩ := key len (Nat.le_refl _)
    refine ⟨xs, ?_⟩
    rw [e]
    refine .cons ?_ .nil
    show RepC NoA w (.slc xs.length (lsEl f xs)) (.slice (some a) len cap)
    rw [hxl]
    have hget : ∀ i, i < len → xs[i]? = some (xs.getD i default) := fun i hi => by
      have : i < xs.length := by omega
      simp [List.getD, this]
    rcases Nat.eq_zero_or_pos len with hl0 | hl0
    · rw [hl0]; exact .emp _ a cap hm
    · have hf0 : ∃ c, (f (xs.getD 0 default))[0]? = some c := ⟨_, List.getElem?_eq_getElem (by rw [hs]; exact h0)⟩
      obtain ⟨c0, hc0⟩ := hf0
      obtain ⟨u0, hu0, _⟩ := hcell 0 _ (hget 0 hl0) 0 c0 hc0
      have hblk : a.block < w.heap.size := by
        have := World.block_lt_of_cell? w _ hu0
        rwa [show (a.add (0 * size + 0)).block = a.block from by unfold Addr.add; split <;> simp_all] at this
      obtain ⟨b, off, spot⟩ := a
      have hsp : spot = none := by
        have := World.cell?_spot hu0
        unfold Addr.add at this
        split at this <;> simp_all
      subst hsp
      have hadd : ∀ j, (⟨b, off, none⟩ : Addr).add j = ⟨b, off + j, none⟩ := fun j => by unfold Addr.add; split <;> simp_all
      refine RepC.slc len _ size b off cap (fun i j => (w.cell? ⟨b, off + (i * size + j), none⟩).getD undef) hblk (fun h => h) hl hm (fun i _ => hs _) (fun i j c hi hj => ?_) (fun i j c hi hj => ?_)
      · obtain ⟨u, hu, _⟩ := hcell i _ (hget i hi) j c hj
        rw [hadd] at hu
        rw [hu]; rfl
      · obtain ⟨u, hu, hr⟩ := hcell i _ (hget i hi) j c hj
        rw [hadd] at hu
        rw [hu]; exact hr
section
variable {P : Program} {w : World}
theorem no_mine {hv : Nat → Value} {b : Nat} (h : mine [] hv b) : False := by
  obtain ⟨_, _, h1, _⟩ := h
  cases h1
abbrev InV (w : World) (x : AV) (v : Value) : Prop := RepV [] (fun _ => undef) (fun b => NoA b ∨ mine [] (fun _ => undef) b) w x v
theorem in_c {c : CV} {v : Value} (h : RepC NoA w c v) : InV w (.one c) v := rep_of_c (h.keep (Fr.refl (fun _ => False) w) (fun _ e => e.elim) fun _ _ e => e.elim (fun x => x) no_mine)
theorem in_v {v : Value} (h : v.oneCell' = true) : InV w (.one (.val v)) v := rep_of_c (.val v h)
/-- A contract that answers 'true' of arguments from outside, as a law's walk. -/
theorem fnc_law {f : FuncId} {xs : List AV} {vs : Array Value} (hfn : FnC P f xs [] (Det (.one (.val (.bool true))) [])) (hargs : All2 (InV w) xs vs.toList) : Calls P f vs w fun e w' => e = .returned (.bool true) ∧ Below w.heap.size w w' := by
  refine (hfn NoA NoA w vs (fun _ => undef) hargs ⟨fun id b hb => (by cases hb), fun id id' x y b h1 => (by cases h1), fun b hb => (no_mine hb).elim, fun b hb => False.elim hb⟩ fun b hb => (no_mine hb).elim).mono ?_
  rintro e' w' ⟨r, h', hv', v, rfl, ⟨rfl, rfl⟩, hr, _, hf, _, _⟩
  exact ⟨by rw [rep_val hr], hf.below⟩
end
end Abs
end Go.Proofs.Ytbnjdkpangmneaa
