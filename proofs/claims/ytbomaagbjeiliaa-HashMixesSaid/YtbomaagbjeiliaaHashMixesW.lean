/-
  HashMixes: its walk: for every word the law returns true, and nothing that was there is written. Conditions: none.
-/
import Derived.Test.YtbomaagbjeiliaaHashWc
namespace Go.Proofs.Ytbomaagbjeiliaa.HashMixesW
set_option linter.unusedVariables false
open Hash HashW
open Go.ChangeShapes Go.WideShapes Go.RowKit

set_option maxHeartbeats 1000000 in
theorem walk (w : World) (a0 : Int) (w0 : (Lit.int .u64 a0).wf = true) :
    Calls Try.prog 3 #[.int .u64 a0] w fun e w' => e = .returned (.bool true) ∧ Below w.heap.size w w' := by
  have hx := u64_wf w0
  have e1 : (unmixI (mixI a0) == a0) = true := by rw [unmixI_mixI hx]; simp
  have e2 : (mixI (unmixI a0) == a0) = true := by rw [mixI_unmixI hx]; simp
  go_enter Try.func3, Try.ntmps3
  have hb0 := Below.refl w.heap.size w
  go_wp2_with fail
  refine (awake_any _).mono ?_
  rintro e wd1 ⟨rfl, hb1⟩
  replace hb1 := below_step (w := w) (by repeat' (first | (with_reducible exact Below.refl _ _) | (with_reducible assumption) | (with_reducible refine Below.alloc ?_ ?_ _) | (with_reducible refine Below.drew ?_) | (with_reducible refine below_drewN ?_ _) | (with_reducible refine Below.setCell ?_ ?_ _) | go_size)) hb1
  go_wp2_with fail
  refine (mix_any _ hx _).mono ?_
  rintro e wd2 ⟨rfl, hb2⟩
  replace hb2 := below_step (w := w) (by repeat' (first | (with_reducible exact Below.refl _ _) | (with_reducible assumption) | (with_reducible refine Below.alloc ?_ ?_ _) | (with_reducible refine Below.drew ?_) | (with_reducible refine below_drewN ?_ _) | (with_reducible refine Below.setCell ?_ ?_ _) | go_size)) hb2
  go_wp2_with fail
  refine (mix_ref _ hx _).mono ?_
  rintro e w' ⟨rfl, rfl⟩
  go_wp2_with fail
  refine (mix_any _ hx _).mono ?_
  rintro e wd3 ⟨rfl, hb3⟩
  replace hb3 := below_step (w := w) (by repeat' (first | (with_reducible exact Below.refl _ _) | (with_reducible assumption) | (with_reducible refine Below.alloc ?_ ?_ _) | (with_reducible refine Below.drew ?_) | (with_reducible refine below_drewN ?_ _) | (with_reducible refine Below.setCell ?_ ?_ _) | go_size)) hb3
  go_wp2_with fail
  refine (unmix_any _ (mixI_u64 hx) _).mono ?_
  rintro e wd4 ⟨rfl, hb4⟩
  replace hb4 := below_step (w := w) (by repeat' (first | (with_reducible exact Below.refl _ _) | (with_reducible assumption) | (with_reducible refine Below.alloc ?_ ?_ _) | (with_reducible refine Below.drew ?_) | (with_reducible refine below_drewN ?_ _) | (with_reducible refine Below.setCell ?_ ?_ _) | go_size)) hb4
  go_wp2_with fail
  refine (unmix_any _ hx _).mono ?_
  rintro e wd5 ⟨rfl, hb5⟩
  replace hb5 := below_step (w := w) (by repeat' (first | (with_reducible exact Below.refl _ _) | (with_reducible assumption) | (with_reducible refine Below.alloc ?_ ?_ _) | (with_reducible refine Below.drew ?_) | (with_reducible refine below_drewN ?_ _) | (with_reducible refine Below.setCell ?_ ?_ _) | go_size)) hb5
  go_wp2_with fail
  refine (mix_any _ (unmixI_u64 hx) _).mono ?_
  rintro e wd6 ⟨rfl, hb6⟩
  replace hb6 := below_step (w := w) (by repeat' (first | (with_reducible exact Below.refl _ _) | (with_reducible assumption) | (with_reducible refine Below.alloc ?_ ?_ _) | (with_reducible refine Below.drew ?_) | (with_reducible refine below_drewN ?_ _) | (with_reducible refine Below.setCell ?_ ?_ _) | go_size)) hb6
  go_wp2_with fail
  go_ret
  exact ⟨rfl, hb6⟩
end Go.Proofs.Ytbomaagbjeiliaa.HashMixesW
