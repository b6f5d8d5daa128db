/-
  An element of an array of plain elements, at a place that is not a constant. No condition of its own.
-/
import Derived.Test.YtjpiiejdaiaocaaDoorAbsX
namespace Go.Proofs.YtjpiiejdaiaocaaDoor
open Go.ChangeShapes Go.WideShapes Go.RowKit
set_option linter.unusedVariables false
set_option linter.unusedSimpArgs false
namespace Abs
section
variable {P : Program} {s : ASt} {d : Option Nat} {ty t e : TypeId} {pos : String} {af : Array Edge} {g : Option (Nat × Bool)} {x y : Operand} {k : IntKind} {i : Int} {len sz : Nat} {cs ds : List CV}
theorem ev_index_get1 {c : CV} (hx : s.ev x = .agg cs) (hy : s.ev y = .one (.val (.int k i))) (hg : ∃ j : Nat, i = (j : Int) ∧ Nat.blt j len = true ∧ (cs.drop (j * sz)).take sz = [c] ∧ Nat.ble (j * sz + sz) cs.length = true) (hd : dOk s d = true) [h : TArr P t len e sz false] :
    Ev P [] s ⟨d, .index t x y, ty, pos, af, g⟩ (· = s.put d (.one c)) := by
  obtain ⟨j, hi, hj, hds, hl⟩ := hg
  refine ev_of_run hd fun U a w hv M => ?_
  have hr := M.ev x
  rw [hx] at hr
  obtain ⟨vs, h1, h2⟩ := hr
  obtain ⟨h4, h5⟩ := TArr.parts (P := P) (t := t) (len := len) (e := e) (sz := sz) (agg := false)
  have hj' := Nat.le_of_ble_eq_true hj
  have hl' := Nat.le_of_ble_eq_true hl
  have h6 : (0 : Int) ≤ i ∧ i < (len : Int) := by omega
  have h7 : i.toNat = j := by omega
  have h8 := (h2.drop (j * sz)).take sz
  rw [hds] at h8
  have h9 := h8.get (j := 0) (x := c) rfl
  obtain ⟨u, h10, h11⟩ := h9
  have hsz : 0 < sz := by
    rcases Nat.eq_zero_or_pos sz with h0 | h0
    · rw [h0] at hds; simp at hds
    · exact h0
  have h12 : vs[j * sz]? = some u := by
    rw [List.getElem?_take, if_pos hsz, List.getElem?_drop] at h10
    simpa using h10
  have hpart : (part e vs.toArray (j * sz)).run P w = .ok u w := by
    simp [part, run_isAgg (P := P) (t := e) (agg := false) (n := sz), h12]
  refine ⟨u, w, ?_, Fr.refl _ _, h11⟩
  simp [execOp, Instr.index, h1, M.val hy, asIntOf, run_underlying h4, h6.1, h6.2, h7, run_size (P := P) (t := e) (agg := false) (n := sz), hpart]
end
end Abs
end Go.Proofs.YtjpiiejdaiaocaaDoor
