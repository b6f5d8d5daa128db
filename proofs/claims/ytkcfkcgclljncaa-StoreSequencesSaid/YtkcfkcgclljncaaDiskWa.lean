/-
  The walks over package disk and its reference, first part: which disks are valid.
-/
import Derived.Test.YtkcfkcgclljncaaProg
import Derived.Test.YtkcfkcgclljncaaKitApp
import Derived.Lib.AppendZeros
namespace Go.Proofs.Ytkcfkcgclljncaa
set_option linter.unusedVariables false
open Go.ChangeShapes Go.WideShapes Go.RowKit
open Kit

attribute [local go_sem ↓] Go.wp_at_zero Go.wp_at_succ
namespace Disk

/-- The scalars of a disk. -/
abbrev dv (A : Option Addr) (n c : Nat) (cap : Int) (ar : Bool) (wr kp : Int) (dn : Bool) : Value := .agg #[.slice A n c, .int .i64 cap, .bool ar, .int .i64 wr, .int .i64 kp, .bool dn]
def valid (n : Nat) (cap : Int) (ar : Bool) (wr kp : Int) (dn : Bool) : Bool :=
  if cap < 0 then false else if cap > 1048576 then false else if (n : Int) > cap then false else if wr < 0 then false else if kp < 0 then false else if ar then !dn else if wr = 0 then kp == 0 else false
theorem valid_1 {n : Nat} {cap : Int} {ar : Bool} {wr kp : Int} {dn : Bool} (h : ¬ (0 ≤ cap ∧ cap ≤ 1048576 ∧ (n : Int) ≤ cap ∧ 0 ≤ wr ∧ 0 ≤ kp)) : valid n cap ar wr kp dn = false := by
  unfold valid
  repeat' split
  all_goals first | rfl | omega
theorem valid_2 {n : Nat} {cap : Int} {wr kp : Int} {dn : Bool} (h : 0 ≤ cap ∧ cap ≤ 1048576 ∧ (n : Int) ≤ cap ∧ 0 ≤ wr ∧ 0 ≤ kp) : valid n cap true wr kp dn = !dn := by
  unfold valid
  repeat' split
  all_goals first | rfl | omega | contradiction
theorem valid_3 {n : Nat} {cap : Int} {wr kp : Int} {dn : Bool} (h : 0 ≤ cap ∧ cap ≤ 1048576 ∧ (n : Int) ≤ cap ∧ 0 ≤ wr ∧ 0 ≤ kp) (h0 : ¬ wr = 0) : valid n cap false wr kp dn = false := by
  unfold valid
  repeat' split
  all_goals first | rfl | omega | contradiction
theorem valid_4 {n : Nat} {cap : Int} {wr kp : Int} {dn : Bool} (h : 0 ≤ cap ∧ cap ≤ 1048576 ∧ (n : Int) ≤ cap ∧ 0 ≤ wr ∧ 0 ≤ kp) (h0 : wr = 0) : valid n cap false wr kp dn = (kp == 0) := by
  unfold valid
  repeat' split
  all_goals first | rfl | omega | contradiction
theorem valid_ok {n : Nat} {cap : Int} {ar : Bool} {wr kp : Int} {dn : Bool} (h : valid n cap ar wr kp dn = true) : 0 ≤ cap ∧ cap ≤ 1048576 ∧ (n : Int) ≤ cap ∧ 0 ≤ wr ∧ 0 ≤ kp := by
  rcases Decidable.em (0 ≤ cap ∧ cap ≤ 1048576 ∧ (n : Int) ≤ cap ∧ 0 ≤ wr ∧ 0 ≤ kp) with h1 | h1
  · exact h1
  · rw [valid_1 h1] at h; cases h


set_option maxHeartbeats 4000000 in
theorem valid_ref (A : Option Addr) (n c : Nat) (cap : Int) (ar : Bool) (wr kp : Int) (dn : Bool) (w : World) :
    Calls Try.prog 22 #[dv A n c cap ar wr kp dn] w fun e w' => e = .returned (.bool (valid n cap ar wr kp dn)) ∧ Below w.heap.size w w' := by
  unfold dv
  by_cases h1 : cap < 0
  · rw [valid_1 (by omega)]
    go_enter Try.func22, Try.ntmps22
    go_wp2_with fail
    go_ret
    exact ⟨rfl, by repeat' (first | (with_reducible exact Below.refl _ _) | (with_reducible assumption) | (with_reducible refine Below.alloc ?_ ?_ _) | (with_reducible refine Below.drew ?_) | (with_reducible refine below_drewN ?_ _) | (with_reducible refine Below.setCell ?_ ?_ _) | (with_reducible exact Below.size (by assumption)) | go_size)⟩
  by_cases h2 : cap > 1048576
  · rw [valid_1 (by omega)]
    go_enter Try.func22, Try.ntmps22
    go_wp2_with fail
    go_ret
    exact ⟨rfl, by repeat' (first | (with_reducible exact Below.refl _ _) | (with_reducible assumption) | (with_reducible refine Below.alloc ?_ ?_ _) | (with_reducible refine Below.drew ?_) | (with_reducible refine below_drewN ?_ _) | (with_reducible refine Below.setCell ?_ ?_ _) | (with_reducible exact Below.size (by assumption)) | go_size)⟩
  by_cases h3 : (n : Int) > cap
  · rw [valid_1 (by omega)]
    go_enter Try.func22, Try.ntmps22
    go_wp2_with fail
    go_ret
    exact ⟨rfl, by repeat' (first | (with_reducible exact Below.refl _ _) | (with_reducible assumption) | (with_reducible refine Below.alloc ?_ ?_ _) | (with_reducible refine Below.drew ?_) | (with_reducible refine below_drewN ?_ _) | (with_reducible refine Below.setCell ?_ ?_ _) | (with_reducible exact Below.size (by assumption)) | go_size)⟩
  by_cases h4 : wr < 0
  · rw [valid_1 (by omega)]
    go_enter Try.func22, Try.ntmps22
    go_wp2_with fail
    go_ret
    exact ⟨rfl, by repeat' (first | (with_reducible exact Below.refl _ _) | (with_reducible assumption) | (with_reducible refine Below.alloc ?_ ?_ _) | (with_reducible refine Below.drew ?_) | (with_reducible refine below_drewN ?_ _) | (with_reducible refine Below.setCell ?_ ?_ _) | (with_reducible exact Below.size (by assumption)) | go_size)⟩
  by_cases h5 : kp < 0
  · rw [valid_1 (by omega)]
    go_enter Try.func22, Try.ntmps22
    go_wp2_with fail
    go_ret
    exact ⟨rfl, by repeat' (first | (with_reducible exact Below.refl _ _) | (with_reducible assumption) | (with_reducible refine Below.alloc ?_ ?_ _) | (with_reducible refine Below.drew ?_) | (with_reducible refine below_drewN ?_ _) | (with_reducible refine Below.setCell ?_ ?_ _) | (with_reducible exact Below.size (by assumption)) | go_size)⟩
  cases ar
  · by_cases h6 : (wr == 0) = true
    · have h6' : wr = 0 := by simpa using h6
      rw [valid_4 (by omega) h6']
      go_enter Try.func22, Try.ntmps22
      go_wp2_with fail
      go_ret
      exact ⟨rfl, by repeat' (first | (with_reducible exact Below.refl _ _) | (with_reducible assumption) | (with_reducible refine Below.alloc ?_ ?_ _) | (with_reducible refine Below.drew ?_) | (with_reducible refine below_drewN ?_ _) | (with_reducible refine Below.setCell ?_ ?_ _) | (with_reducible exact Below.size (by assumption)) | go_size)⟩
    · have h6' : ¬ wr = 0 := by simpa using h6
      have h6 : (wr == 0) = false := by simpa using h6
      rw [valid_3 (by omega) h6']
      go_enter Try.func22, Try.ntmps22
      go_wp2_with fail
      go_ret
      exact ⟨rfl, by repeat' (first | (with_reducible exact Below.refl _ _) | (with_reducible assumption) | (with_reducible refine Below.alloc ?_ ?_ _) | (with_reducible refine Below.drew ?_) | (with_reducible refine below_drewN ?_ _) | (with_reducible refine Below.setCell ?_ ?_ _) | (with_reducible exact Below.size (by assumption)) | go_size)⟩
  · rw [valid_2 (by omega)]
    cases dn
    · go_enter Try.func22, Try.ntmps22
      go_wp2_with fail
      go_ret
      exact ⟨rfl, by repeat' (first | (with_reducible exact Below.refl _ _) | (with_reducible assumption) | (with_reducible refine Below.alloc ?_ ?_ _) | (with_reducible refine Below.drew ?_) | (with_reducible refine below_drewN ?_ _) | (with_reducible refine Below.setCell ?_ ?_ _) | (with_reducible exact Below.size (by assumption)) | go_size)⟩
    · go_enter Try.func22, Try.ntmps22
      go_wp2_with fail
      go_ret
      exact ⟨rfl, by repeat' (first | (with_reducible exact Below.refl _ _) | (with_reducible assumption) | (with_reducible refine Below.alloc ?_ ?_ _) | (with_reducible refine Below.drew ?_) | (with_reducible refine below_drewN ?_ _) | (with_reducible refine Below.setCell ?_ ?_ _) | (with_reducible exact Below.size (by assumption)) | go_size)⟩

end Disk
end Go.Proofs.Ytkcfkcgclljncaa
