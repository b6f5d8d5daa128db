/-
  HashBijective: its walk: for every two words the law returns true, and nothing that was there is written. Conditions: none.
-/
import Derived.Test.YtbomaagbjeiliaaHashWc
namespace Go.Proofs.Ytbomaagbjeiliaa.HashBijectiveW
set_option linter.unusedVariables false
open Hash HashW
open Go.ChangeShapes Go.WideShapes Go.RowKit

set_option maxHeartbeats 1000000 in
theorem walk (w : World) (a0 : Int) (w0 : (Lit.int .u64 a0).wf = true) (a1 : Int) (w1 : (Lit.int .u64 a1).wf = true) :
    Calls Try.prog 5 #[.int .u64 a0, .int .u64 a1] w fun e w' => e = .returned (.bool true) ∧ Below w.heap.size w w' := by
  have hx := u64_wf w0
  have hy := u64_wf w1
  have e1 : (mixI a0 == mixI a1) = (a0 == a1) := same_of (fun h => mixI_inj hx hy h) (fun h => by rw [h])
  have e2 : (unmixI a0 == unmixI a1) = (a0 == a1) := same_of (fun h => unmixI_inj hx hy h) (fun h => by rw [h])
  go_enter Try.func5, Try.ntmps5
  have hb0 := Below.refl w.heap.size w
  go_wp2_with fail
  refine (awake_any _).mono ?_
  rintro e wd1 ⟨rfl, hb1⟩
  replace hb1 := below_step (w := w) (by repeat' (first | (with_reducible exact Below.refl _ _) | (with_reducible assumption) | (with_reducible refine Below.alloc ?_ ?_ _) | (with_reducible refine Below.drew ?_) | (with_reducible refine below_drewN ?_ _) | (with_reducible refine Below.setCell ?_ ?_ _) | go_size)) hb1
  go_wp2_with fail
  refine (mix_any _ hx _).mono ?_
  rintro e wd2 ⟨rfl, hb2⟩
  replace hb2 := below_step (w := w) (by repeat' (first | (with_reducible exact Below.refl _ _) | (with_reducible assumption) | (with_reducible refine Below.alloc ?_ ?_ _) | (with_reducible refine Below.drew ?_) | (with_reducible refine below_drewN ?_ _) | (with_reducible refine Below.setCell ?_ ?_ _) | go_size)) hb2
  go_wp2_with fail
  refine (mix_any _ hy _).mono ?_
  rintro e wd3 ⟨rfl, hb3⟩
  replace hb3 := below_step (w := w) (by repeat' (first | (with_reducible exact Below.refl _ _) | (with_reducible assumption) | (with_reducible refine Below.alloc ?_ ?_ _) | (with_reducible refine Below.drew ?_) | (with_reducible refine below_drewN ?_ _) | (with_reducible refine Below.setCell ?_ ?_ _) | go_size)) hb3
  go_wp2_with fail
  refine (unmix_any _ hx _).mono ?_
  rintro e wd4 ⟨rfl, hb4⟩
  replace hb4 := below_step (w := w) (by repeat' (first | (with_reducible exact Below.refl _ _) | (with_reducible assumption) | (with_reducible refine Below.alloc ?_ ?_ _) | (with_reducible refine Below.drew ?_) | (with_reducible refine below_drewN ?_ _) | (with_reducible refine Below.setCell ?_ ?_ _) | go_size)) hb4
  go_wp2_with fail
  refine (unmix_any _ hy _).mono ?_
  rintro e wd5 ⟨rfl, hb5⟩
  replace hb5 := below_step (w := w) (by repeat' (first | (with_reducible exact Below.refl _ _) | (with_reducible assumption) | (with_reducible refine Below.alloc ?_ ?_ _) | (with_reducible refine Below.drew ?_) | (with_reducible refine below_drewN ?_ _) | (with_reducible refine Below.setCell ?_ ?_ _) | go_size)) hb5
  go_wp2_with fail
  go_ret
  exact ⟨rfl, hb5⟩
end Go.Proofs.Ytbomaagbjeiliaa.HashBijectiveW
