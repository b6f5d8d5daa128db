/-
  HashInjective: its walk: for every three words and three numbers the law returns true, and nothing that was there is written. Conditions: none.
-/
import Derived.Test.YtbomaagbjeiliaaHashWc
namespace Go.Proofs.Ytbomaagbjeiliaa.HashInjectiveW
set_option linter.unusedVariables false
open Hash HashW
open Go.ChangeShapes Go.WideShapes Go.RowKit

set_option maxHeartbeats 2000000 in
theorem walk (w : World) (a0 : Int) (w0 : (Lit.int .u64 a0).wf = true) (a1 : Int) (w1 : (Lit.int .u64 a1).wf = true) (a2 : Int) (w2 : (Lit.int .u64 a2).wf = true) (a3 : Int) (w3 : (Lit.int .i64 a3).wf = true) (a4 : Int) (w4 : (Lit.int .i64 a4).wf = true) (a5 : Int) (w5 : (Lit.int .i64 a5).wf = true) :
    Calls Try.prog 6 #[.int .u64 a0, .int .u64 a1, .int .u64 a2, .int .i64 a3, .int .i64 a4, .int .i64 a5] w fun e w' => e = .returned (.bool true) ∧ Below w.heap.size w w' := by
  have hx := u64_wf w1
  have hy := u64_wf w2
  have ci := fun {a b : Int} (h : IntKind.u64.wrap a = IntKind.u64.wrap b) (ha : (Lit.int .i64 a).wf = true) (hb : (Lit.int .i64 b).wf = true) => wrap_inj ha hb h
  have e1 : (combineI a0 a1 == combineI a0 a2) = (a1 == a2) := same_of (fun h => combineI_right hx hy h) (fun h => by rw [h])
  have e2 : (combineI a1 a0 == combineI a2 a0) = (a1 == a2) := same_of (fun h => combineI_left hx hy h) (fun h => by rw [h])
  have e3 : (positionI a3 a4 == positionI a3 a5) = (a4 == a5) := same_of (fun h => ci (combineI_right (U64.wrap _) (U64.wrap _) h) w4 w5) (fun h => by rw [h])
  have e4 : (tokenI a3 a4 == tokenI a3 a5) = (a4 == a5) := same_of (fun h => ci (combineI_right (U64.wrap _) (U64.wrap _) h) w4 w5) (fun h => by rw [h])
  have e5 : (tokenI a4 a3 == tokenI a5 a3) = (a4 == a5) := same_of (fun h => ci (combineI_right (U64.wrap _) (U64.wrap _) (combineI_left (combineI_u64 _ _) (combineI_u64 _ _) h)) w4 w5) (fun h => by rw [h])
  clear ci
  go_enter Try.func6, Try.ntmps6
  have hb0 := Below.refl w.heap.size w
  go_wp2_with fail
  refine (awake_any _).mono ?_
  rintro e wd1 ⟨rfl, hb1⟩
  replace hb1 := below_step (w := w) (by repeat' (first | (with_reducible exact Below.refl _ _) | (with_reducible assumption) | (with_reducible refine Below.alloc ?_ ?_ _) | (with_reducible refine Below.drew ?_) | (with_reducible refine below_drewN ?_ _) | (with_reducible refine Below.setCell ?_ ?_ _) | go_size)) hb1
  go_wp2_with fail
  refine (combine_any _ _ _).mono ?_
  rintro e wd2 ⟨rfl, hb2⟩
  replace hb2 := below_step (w := w) (by repeat' (first | (with_reducible exact Below.refl _ _) | (with_reducible assumption) | (with_reducible refine Below.alloc ?_ ?_ _) | (with_reducible refine Below.drew ?_) | (with_reducible refine below_drewN ?_ _) | (with_reducible refine Below.setCell ?_ ?_ _) | go_size)) hb2
  go_wp2_with fail
  refine (combine_any _ _ _).mono ?_
  rintro e wd3 ⟨rfl, hb3⟩
  replace hb3 := below_step (w := w) (by repeat' (first | (with_reducible exact Below.refl _ _) | (with_reducible assumption) | (with_reducible refine Below.alloc ?_ ?_ _) | (with_reducible refine Below.drew ?_) | (with_reducible refine below_drewN ?_ _) | (with_reducible refine Below.setCell ?_ ?_ _) | go_size)) hb3
  go_wp2_with fail
  refine (combine_any _ _ _).mono ?_
  rintro e wd4 ⟨rfl, hb4⟩
  replace hb4 := below_step (w := w) (by repeat' (first | (with_reducible exact Below.refl _ _) | (with_reducible assumption) | (with_reducible refine Below.alloc ?_ ?_ _) | (with_reducible refine Below.drew ?_) | (with_reducible refine below_drewN ?_ _) | (with_reducible refine Below.setCell ?_ ?_ _) | go_size)) hb4
  go_wp2_with fail
  refine (combine_any _ _ _).mono ?_
  rintro e wd5 ⟨rfl, hb5⟩
  replace hb5 := below_step (w := w) (by repeat' (first | (with_reducible exact Below.refl _ _) | (with_reducible assumption) | (with_reducible refine Below.alloc ?_ ?_ _) | (with_reducible refine Below.drew ?_) | (with_reducible refine below_drewN ?_ _) | (with_reducible refine Below.setCell ?_ ?_ _) | go_size)) hb5
  go_wp2_with fail
  refine (position_any _ _ _).mono ?_
  rintro e wd6 ⟨rfl, hb6⟩
  replace hb6 := below_step (w := w) (by repeat' (first | (with_reducible exact Below.refl _ _) | (with_reducible assumption) | (with_reducible refine Below.alloc ?_ ?_ _) | (with_reducible refine Below.drew ?_) | (with_reducible refine below_drewN ?_ _) | (with_reducible refine Below.setCell ?_ ?_ _) | go_size)) hb6
  go_wp2_with fail
  refine (position_any _ _ _).mono ?_
  rintro e wd7 ⟨rfl, hb7⟩
  replace hb7 := below_step (w := w) (by repeat' (first | (with_reducible exact Below.refl _ _) | (with_reducible assumption) | (with_reducible refine Below.alloc ?_ ?_ _) | (with_reducible refine Below.drew ?_) | (with_reducible refine below_drewN ?_ _) | (with_reducible refine Below.setCell ?_ ?_ _) | go_size)) hb7
  go_wp2_with fail
  refine (token_any _ _ _).mono ?_
  rintro e wd8 ⟨rfl, hb8⟩
  replace hb8 := below_step (w := w) (by repeat' (first | (with_reducible exact Below.refl _ _) | (with_reducible assumption) | (with_reducible refine Below.alloc ?_ ?_ _) | (with_reducible refine Below.drew ?_) | (with_reducible refine below_drewN ?_ _) | (with_reducible refine Below.setCell ?_ ?_ _) | go_size)) hb8
  go_wp2_with fail
  refine (token_any _ _ _).mono ?_
  rintro e wd9 ⟨rfl, hb9⟩
  replace hb9 := below_step (w := w) (by repeat' (first | (with_reducible exact Below.refl _ _) | (with_reducible assumption) | (with_reducible refine Below.alloc ?_ ?_ _) | (with_reducible refine Below.drew ?_) | (with_reducible refine below_drewN ?_ _) | (with_reducible refine Below.setCell ?_ ?_ _) | go_size)) hb9
  go_wp2_with fail
  refine (token_any _ _ _).mono ?_
  rintro e wd10 ⟨rfl, hb10⟩
  replace hb10 := below_step (w := w) (by repeat' (first | (with_reducible exact Below.refl _ _) | (with_reducible assumption) | (with_reducible refine Below.alloc ?_ ?_ _) | (with_reducible refine Below.drew ?_) | (with_reducible refine below_drewN ?_ _) | (with_reducible refine Below.setCell ?_ ?_ _) | go_size)) hb10
  go_wp2_with fail
  refine (token_any _ _ _).mono ?_
  rintro e wd11 ⟨rfl, hb11⟩
  replace hb11 := below_step (w := w) (by repeat' (first | (with_reducible exact Below.refl _ _) | (with_reducible assumption) | (with_reducible refine Below.alloc ?_ ?_ _) | (with_reducible refine Below.drew ?_) | (with_reducible refine below_drewN ?_ _) | (with_reducible refine Below.setCell ?_ ?_ _) | go_size)) hb11
  go_wp2_with fail
  go_ret
  exact ⟨rfl, hb11⟩
end Go.Proofs.Ytbomaagbjeiliaa.HashInjectiveW
