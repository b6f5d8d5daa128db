/-
  Package disk and its reference, in plain words, second part; law 26: every operation. Conditions: sizes.
-/
import Derived.Test.YtkcfkcgclljncaaDiskL
namespace Go.Proofs.Ytkcfkcgclljncaa
set_option linter.unusedVariables false
set_option linter.unusedSimpArgs false
namespace Md
theorem copy_ref (k : Nat) (d : Disk) (hd : d.Data.length ≤ 3000000) : actorgridref26_copyDisk k d = some d := by
  unfold actorgridref26_copyDisk
  exact ifp_pos (by simp; omega)
theorem clone_eq (k : Nat) (d : Disk) (hd : d.Data.length ≤ 3000000) : disk_clone k d = some d := by
  unfold disk_clone
  exact ifp_pos (by omega)
def truncD (d : Disk) (n : Int) : Disk × Int :=
  if valid d = false then (zeroD, 1) else if d.Down = true then (d, 23) else if n < 0 ∨ (d.Data.length : Int) < n then (d, 20)
  else if d.Armed = true ∧ d.Writes = 0 then (⟨if 0 < d.Keep then d.Data.take n.toNat else d.Data, d.Capacity, false, 0, 0, true⟩, 23)
  else (⟨d.Data.take n.toNat, d.Capacity, d.Armed, if d.Armed then d.Writes - 1 else d.Writes, d.Keep, d.Down⟩, 0)
set_option maxHeartbeats 2000000 in
theorem trunc_eq (k : Nat) (d : Disk) (n : Int) (hd : d.Data.length ≤ 1500000) (hw : d.Writes ≤ 9223372036854775807) : disk_Truncate k d n = some (truncD d n) := by
  unfold disk_Truncate truncD
  rw [valid_eq, bind_e rfl]
  by_cases hv : valid d = true
  · obtain ⟨v1, v2, v3, v4, v5⟩ := valid_ok hv
    rw [clone_eq k d (by omega)]
    obtain ⟨l, c, a, w, p, m⟩ := d
    dsimp only at *
    have h2 : W (w - 1) = w - 1 := W_id (by omega) (by omega)
    have h4 : (l.take n.toNat).length ≤ 1500000 := by simp; omega
    unfold disk_crash disk_written
    rw [h2, hv]
    simp only [ifp, cond_eq_ite]
    repeat' split
    all_goals simp_all <;> omega
  · have hv' : valid d = false := by simpa using hv
    rw [hv', if_pos rfl]
    rfl
theorem trunc_ref (k : Nat) (d : Disk) (n : Int) (hd : d.Data.length ≤ 1500000) (hw : d.Writes ≤ 9223372036854775807) : actorgridref26_Truncate k d n = some (truncD d n) := by
  unfold actorgridref26_Truncate truncD
  rw [valid_ref, bind_e rfl]
  by_cases hv : valid d = true
  · obtain ⟨v1, v2, v3, v4, v5⟩ := valid_ok hv
    rw [copy_ref k d (by omega), bind_e rfl]
    obtain ⟨l, c, a, w, p, m⟩ := d
    dsimp only at *
    have h2 : W (w - 1) = w - 1 := W_id (by omega) (by omega)
    rw [h2, hv]
    simp only [ifp, cond_eq_ite]
    repeat' split
    all_goals simp_all <;> omega
  · have hv' : valid d = false := by simpa using hv
    rw [hv', if_pos rfl]
    rfl
def readD (d : Disk) : List UInt8 × Int := if valid d = false then ([], 1) else if d.Down = true then ([], 23) else (d.Data, 0)
theorem read_eq (k : Nat) (d : Disk) (hd : d.Data.length ≤ 3000000) : disk_Read k d = some (readD d) := by
  unfold disk_Read readD
  rw [valid_eq, bind_e rfl]
  cases valid d <;> cases h : d.Down <;> simp [ifp] <;> omega
theorem read_ref (k : Nat) (d : Disk) (hd : d.Data.length ≤ 3000000) : actorgridref26_Read k d = some (readD d) := by
  unfold actorgridref26_Read readD
  rw [valid_ref, bind_e rfl]
  cases valid d <;> cases h : d.Down <;> simp [ifp] <;> omega
def armD (d : Disk) (w k : Int) : Disk × Int := if valid d = false ∨ w < 0 ∨ k < 0 then (zeroD, 1) else if d.Down = true then (zeroD, 23) else (⟨d.Data, d.Capacity, true, w, k, d.Down⟩, 0)
theorem arm_eq (k : Nat) (d : Disk) (w p : Int) (hd : d.Data.length ≤ 3000000) : disk_Arm k d w p = some (armD d w p) := by
  unfold disk_Arm armD
  rw [valid_eq, bind_e rfl, clone_eq k d hd]
  simp only [cond_eq_ite, bind_e rfl]
  cases valid d <;> cases h : d.Down <;> simp <;> repeat' split
  all_goals first | rfl | (exfalso; omega)
theorem arm_ref (k : Nat) (d : Disk) (w p : Int) (hd : d.Data.length ≤ 3000000) : actorgridref26_Arm k d w p = some (armD d w p) := by
  unfold actorgridref26_Arm armD
  rw [valid_ref, bind_e rfl, copy_ref k d hd]
  simp only [cond_eq_ite, bind_e rfl]
  cases valid d <;> cases h : d.Down <;> simp <;> repeat' split
  all_goals first | rfl | (exfalso; omega)
def restartD (d : Disk) : Disk × Int := if valid d = false then (zeroD, 1) else (⟨d.Data, d.Capacity, false, 0, 0, false⟩, 0)
theorem restart_eq (k : Nat) (d : Disk) (hd : d.Data.length ≤ 3000000) : disk_Restart k d = some (restartD d) := by
  unfold disk_Restart restartD
  rw [valid_eq, bind_e rfl, ifp_pos (by omega)]
  cases valid d <;> rfl
theorem restart_ref (k : Nat) (d : Disk) (hd : d.Data.length ≤ 3000000) : actorgridref26_Restart k d = some (restartD d) := by
  unfold actorgridref26_Restart restartD
  rw [valid_ref, bind_e rfl, ifp_pos (by omega)]
  cases valid d <;> rfl
def newD (c : Int) : Disk × Int := if c < 0 ∨ 1048576 < c then (zeroD, 1) else (⟨[], c, false, 0, 0, false⟩, 0)
theorem new_eq (k : Nat) (c : Int) : disk_New k c = some (newD c) := by
  unfold disk_New newD
  simp only [cond_eq_ite]
  repeat' split
  all_goals first | rfl | (simp at *; omega)
theorem new_ref (k : Nat) (c : Int) : actorgridref26_NewDisk k c = some (newD c) := by
  unfold actorgridref26_NewDisk newD
  simp only [cond_eq_ite]
  repeat' split
  all_goals first | rfl | (simp at *; omega)
theorem sameD_eq (k : Nat) (d : Disk) : actorgridref26_SameDisk k d d = some true := by
  unfold actorgridref26_SameDisk
  simp
theorem same26_eq (k : Nat) (d : Disk) (e : Int) : actorgridlaw26_same k d e d e = some true := by
  unfold actorgridlaw26_same
  rw [sameD_eq]
  simp
theorem awake26 (k : Nat) : actorgridlaw26_awake k = some true := by rfl
theorem operations (k : Nat) (d : Disk) (b : List UInt8) (n w p : Int) (hw : d.Writes ≤ 9223372036854775807) : actorgridlaw26_DiskOperations k d b n w p = some true := by
  unfold actorgridlaw26_DiskOperations
  rw [awake26, bind_e rfl]
  by_cases h1 : (d.Data.length : Int) > 3000
  · simp [h1]
  by_cases h2 : (b.length : Int) > 3000
  · simp [h2]
  simp only [h1, h2, decide_false, cond_false, Bool.not_true]
  rw [valid_eq, bind_e rfl, valid_ref, bind_e rfl]
  simp only [beq_self_eq_true, Bool.not_true, cond_false]
  rw [append_eq k d b (by omega) (by omega) hw, bind_e rfl, append_ref k d b (by omega) (by omega) hw, bind_e rfl, same26_eq, bind_e rfl]
  simp only [Bool.not_true, cond_false]
  rw [trunc_eq k d n (by omega) hw, bind_e rfl, trunc_ref k d n (by omega) hw, bind_e rfl, same26_eq, bind_e rfl]
  simp only [Bool.not_true, cond_false]
  rw [arm_eq k d w p (by omega), bind_e rfl, arm_ref k d w p (by omega), bind_e rfl, same26_eq, bind_e rfl]
  simp only [Bool.not_true, cond_false]
  rw [restart_eq k d (by omega), bind_e rfl, restart_ref k d (by omega), bind_e rfl, same26_eq, bind_e rfl]
  simp only [Bool.not_true, cond_false]
  rw [read_eq k d (by omega), bind_e rfl, read_ref k d (by omega), bind_e rfl, new_eq, bind_e rfl, new_ref, bind_e rfl, same26_eq]
  simp
theorem DiskOperations_law (d : Disk) (b : List UInt8) (n w p : Int) (h0 : d.ok) (h2 : I64 n) (h3 : I64 w) (h4 : I64 p) : ∃ k, actorgridlaw26_DiskOperations k d b n w p = some true :=
  ⟨0, operations 0 d b n w p (by unfold Disk.ok I64 at h0; omega)⟩
end Md
end Go.Proofs.Ytkcfkcgclljncaa
