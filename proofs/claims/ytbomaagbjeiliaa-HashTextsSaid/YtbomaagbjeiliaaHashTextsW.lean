/-
  HashTexts: its walk: for every two words and every string the law returns true, and nothing that was there is written. Conditions: none.
-/
import Derived.Test.YtbomaagbjeiliaaHashWc
namespace Go.Proofs.Ytbomaagbjeiliaa.HashTextsW
set_option linter.unusedVariables false
open Hash HashW
open Go.ChangeShapes Go.WideShapes Go.RowKit

set_option maxHeartbeats 1000000 in
theorem walk (w : World) (a0 : Int) (w0 : (Lit.int .u64 a0).wf = true) (a1 : Int) (w1 : (Lit.int .u64 a1).wf = true) (a2 : ByteArray) (w2 : a2.size ≤ maxLen) :
    Calls Try.prog 4 #[.int .u64 a0, .int .u64 a1, .string a2] w fun e w' => e = .returned (.bool true) ∧ Below w.heap.size w w' := by
  by_cases hl : 1000 < a2.size
  · go_enter Try.func4, Try.ntmps4
    have hb0 := Below.refl w.heap.size w
    go_wp2_with fail
    refine (awake_any _).mono ?_
    rintro e wd1 ⟨rfl, hb1⟩
    replace hb1 := below_step (w := w) (by repeat' (first | (with_reducible exact Below.refl _ _) | (with_reducible assumption) | (with_reducible refine Below.alloc ?_ ?_ _) | (with_reducible refine Below.drew ?_) | (with_reducible refine below_drewN ?_ _) | (with_reducible refine Below.setCell ?_ ?_ _) | go_size)) hb1
    go_wp2_with fail
    go_ret
    exact ⟨rfl, hb1⟩
  · go_enter Try.func4, Try.ntmps4
    have hb0 := Below.refl w.heap.size w
    go_wp2_with fail
    refine (awake_any _).mono ?_
    rintro e wd1 ⟨rfl, hb1⟩
    replace hb1 := below_step (w := w) (by repeat' (first | (with_reducible exact Below.refl _ _) | (with_reducible assumption) | (with_reducible refine Below.alloc ?_ ?_ _) | (with_reducible refine Below.drew ?_) | (with_reducible refine below_drewN ?_ _) | (with_reducible refine Below.setCell ?_ ?_ _) | go_size)) hb1
    go_wp2_with fail
    refine (combine_any _ _ _).mono ?_
    rintro e wd2 ⟨rfl, hb2⟩
    replace hb2 := below_step (w := w) (by repeat' (first | (with_reducible exact Below.refl _ _) | (with_reducible assumption) | (with_reducible refine Below.alloc ?_ ?_ _) | (with_reducible refine Below.drew ?_) | (with_reducible refine below_drewN ?_ _) | (with_reducible refine Below.setCell ?_ ?_ _) | go_size)) hb2
    go_wp2_with fail
    refine (combine_ref _ _ _).mono ?_
    rintro e w' ⟨rfl, rfl⟩
    go_wp2_with fail
    refine (text_any _ w2 _).mono ?_
    rintro e wd3 ⟨rfl, hb3⟩
    replace hb3 := below_step (w := w) (by repeat' (first | (with_reducible exact Below.refl _ _) | (with_reducible assumption) | (with_reducible refine Below.alloc ?_ ?_ _) | (with_reducible refine Below.drew ?_) | (with_reducible refine below_drewN ?_ _) | (with_reducible refine Below.setCell ?_ ?_ _) | go_size)) hb3
    go_wp2_with fail
    refine (text_ref _ w2 _).mono ?_
    rintro e w' ⟨rfl, rfl⟩
    go_wp2_with fail
    go_ret
    exact ⟨rfl, hb3⟩
end Go.Proofs.Ytbomaagbjeiliaa.HashTextsW
