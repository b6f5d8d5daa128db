/-
  Parts of what was proved of other layers, for this one (from the same texts). Conditions: as each says.
-/
import Derived.Test.YtkcfkcgclljncaaDiskM
namespace Go.Proofs.Ytkcfkcgclljncaa
set_option linter.unusedVariables false
set_option linter.unusedSimpArgs false
namespace Md
def valid (d : Disk) : Bool :=
  decide (0 ≤ d.Capacity ∧ d.Capacity ≤ 1048576 ∧ (d.Data.length : Int) ≤ d.Capacity ∧ 0 ≤ d.Writes ∧ 0 ≤ d.Keep) && (bif d.Armed then !d.Down else d.Writes == 0 && d.Keep == 0)
theorem valid_eq (k : Nat) (d : Disk) : disk_Valid k d = some (valid d) := by
  unfold disk_Valid valid
  obtain ⟨l, c, a, w, p, n⟩ := d
  simp only [cond_eq_ite]
  repeat' split
  all_goals simp_all <;> omega
theorem valid_ref (k : Nat) (d : Disk) : actorgridref26_ValidDisk k d = some (valid d) := by
  unfold actorgridref26_ValidDisk valid
  obtain ⟨l, c, a, w, p, n⟩ := d
  simp only [cond_eq_ite]
  repeat' split
  all_goals simp_all <;> omega
theorem valid_ok {d : Disk} (h : valid d = true) : 0 ≤ d.Capacity ∧ d.Capacity ≤ 1048576 ∧ (d.Data.length : Int) ≤ d.Capacity ∧ 0 ≤ d.Writes ∧ 0 ≤ d.Keep := by
  unfold valid at h
  rw [Bool.and_eq_true] at h
  exact of_decide_eq_true h.1
def zeroD : Disk := ⟨[], 0, false, 0, 0, false⟩
def appendD (d : Disk) (b : List UInt8) : Disk × Int :=
  if valid d = false then (zeroD, 1) else if d.Down = true then (d, 23) else if (b.length : Int) > d.Capacity - d.Data.length then (d, 5)
  else if d.Armed = true ∧ d.Writes = 0 then (⟨d.Data ++ b.take (min d.Keep.toNat b.length), d.Capacity, false, 0, 0, true⟩, 23)
  else (⟨d.Data ++ b, d.Capacity, d.Armed, if d.Armed then d.Writes - 1 else d.Writes, d.Keep, d.Down⟩, 0)
theorem append_eq (k : Nat) (d : Disk) (b : List UInt8) (hb : b.length ≤ 1500000) (hd : d.Data.length ≤ 1500000) (hw : d.Writes ≤ 9223372036854775807) : disk_Append k d b = some (appendD d b) := by
  unfold disk_Append appendD
  rw [valid_eq, bind_e rfl]
  by_cases hv : valid d = true
  · obtain ⟨v1, v2, v3, v4, v5⟩ := valid_ok hv
    obtain ⟨l, c, a, w, p, n⟩ := d
    dsimp only at *
    have h1 : W (c - (l.length : Int)) = c - l.length := W_id (by omega) (by omega)
    have h2 : W (w - 1) = w - 1 := W_id (by omega) (by omega)
    have h3 : (min p (b.length : Int)).toNat = min p.toNat b.length := by omega
    have h4 : (b.take (min p.toNat b.length)).length ≤ 1500000 := by simp; omega
    unfold slices_Concat disk_crash disk_clone disk_written
    rw [h1, h2, h3, hv]
    simp only [ifp, List.flatten_cons, List.flatten_nil, List.append_nil, List.length_append, cond_eq_ite]
    repeat' split
    all_goals simp_all <;> omega
  · have hv' : valid d = false := by simpa using hv
    rw [hv', if_pos rfl]
    rfl
theorem append_ref (k : Nat) (d : Disk) (b : List UInt8) (hb : b.length ≤ 1500000) (hd : d.Data.length ≤ 1500000) (hw : d.Writes ≤ 9223372036854775807) : actorgridref26_AppendDisk k d b = some (appendD d b) := by
  unfold actorgridref26_AppendDisk appendD
  rw [valid_ref, bind_e rfl]
  by_cases hv : valid d = true
  · obtain ⟨v1, v2, v3, v4, v5⟩ := valid_ok hv
    obtain ⟨l, c, a, w, p, n⟩ := d
    dsimp only at *
    have h1 : W (c - (l.length : Int)) = c - l.length := W_id (by omega) (by omega)
    have h2 : W (w - 1) = w - 1 := W_id (by omega) (by omega)
    have h3 : (min p (b.length : Int)).toNat = min p.toNat b.length := by omega
    have h4 : (b.take (min p.toNat b.length)).length ≤ 1500000 := by simp; omega
    have h5 : actorgridref26_copyDisk k ⟨l, c, a, w, p, n⟩ = some ⟨l, c, a, w, p, n⟩ := by
      unfold actorgridref26_copyDisk
      exact ifp_pos (by simp; omega)
    rw [h5, bind_e rfl]
    dsimp only
    rw [h1, h2, h3, hv]
    simp only [ifp, cond_eq_ite]
    repeat' split
    all_goals simp_all <;> omega
  · have hv' : valid d = false := by simpa using hv
    rw [hv', if_pos rfl]
    rfl

theorem copy_ref (k : Nat) (d : Disk) (hd : d.Data.length ≤ 3000000) : actorgridref26_copyDisk k d = some d := by
  unfold actorgridref26_copyDisk
  exact ifp_pos (by simp; omega)
theorem clone_eq (k : Nat) (d : Disk) (hd : d.Data.length ≤ 3000000) : disk_clone k d = some d := by
  unfold disk_clone
  exact ifp_pos (by omega)
def truncD (d : Disk) (n : Int) : Disk × Int :=
  if valid d = false then (zeroD, 1) else if d.Down = true then (d, 23) else if n < 0 ∨ (d.Data.length : Int) < n then (d, 20)
  else if d.Armed = true ∧ d.Writes = 0 then (⟨if 0 < d.Keep then d.Data.take n.toNat else d.Data, d.Capacity, false, 0, 0, true⟩, 23)
  else (⟨d.Data.take n.toNat, d.Capacity, d.Armed, if d.Armed then d.Writes - 1 else d.Writes, d.Keep, d.Down⟩, 0)
set_option maxHeartbeats 2000000 in
theorem trunc_eq (k : Nat) (d : Disk) (n : Int) (hd : d.Data.length ≤ 1500000) (hw : d.Writes ≤ 9223372036854775807) : disk_Truncate k d n = some (truncD d n) := by
  unfold disk_Truncate truncD
  rw [valid_eq, bind_e rfl]
  by_cases hv : valid d = true
  · obtain ⟨v1, v2, v3, v4, v5⟩ := valid_ok hv
    rw [clone_eq k d (by omega)]
    obtain ⟨l, c, a, w, p, m⟩ := d
    dsimp only at *
    have h2 : W (w - 1) = w - 1 := W_id (by omega) (by omega)
    have h4 : (l.take n.toNat).length ≤ 1500000 := by simp; omega
    unfold disk_crash disk_written
    rw [h2, hv]
    simp only [ifp, cond_eq_ite]
    repeat' split
    all_goals simp_all <;> omega
  · have hv' : valid d = false := by simpa using hv
    rw [hv', if_pos rfl]
    rfl
theorem trunc_ref (k : Nat) (d : Disk) (n : Int) (hd : d.Data.length ≤ 1500000) (hw : d.Writes ≤ 9223372036854775807) : actorgridref26_Truncate k d n = some (truncD d n) := by
  unfold actorgridref26_Truncate truncD
  rw [valid_ref, bind_e rfl]
  by_cases hv : valid d = true
  · obtain ⟨v1, v2, v3, v4, v5⟩ := valid_ok hv
    rw [copy_ref k d (by omega), bind_e rfl]
    obtain ⟨l, c, a, w, p, m⟩ := d
    dsimp only at *
    have h2 : W (w - 1) = w - 1 := W_id (by omega) (by omega)
    rw [h2, hv]
    simp only [ifp, cond_eq_ite]
    repeat' split
    all_goals simp_all <;> omega
  · have hv' : valid d = false := by simpa using hv
    rw [hv', if_pos rfl]
    rfl
def armD (d : Disk) (w k : Int) : Disk × Int := if valid d = false ∨ w < 0 ∨ k < 0 then (zeroD, 1) else if d.Down = true then (zeroD, 23) else (⟨d.Data, d.Capacity, true, w, k, d.Down⟩, 0)
theorem arm_eq (k : Nat) (d : Disk) (w p : Int) (hd : d.Data.length ≤ 3000000) : disk_Arm k d w p = some (armD d w p) := by
  unfold disk_Arm armD
  rw [valid_eq, bind_e rfl, clone_eq k d hd]
  simp only [cond_eq_ite, bind_e rfl]
  cases valid d <;> cases h : d.Down <;> simp <;> repeat' split
  all_goals first | rfl | (exfalso; omega)
theorem arm_ref (k : Nat) (d : Disk) (w p : Int) (hd : d.Data.length ≤ 3000000) : actorgridref26_Arm k d w p = some (armD d w p) := by
  unfold actorgridref26_Arm armD
  rw [valid_ref, bind_e rfl, copy_ref k d hd]
  simp only [cond_eq_ite, bind_e rfl]
  cases valid d <;> cases h : d.Down <;> simp <;> repeat' split
  all_goals first | rfl | (exfalso; omega)
def restartD (d : Disk) : Disk × Int := if valid d = false then (zeroD, 1) else (⟨d.Data, d.Capacity, false, 0, 0, false⟩, 0)
theorem restart_eq (k : Nat) (d : Disk) (hd : d.Data.length ≤ 3000000) : disk_Restart k d = some (restartD d) := by
  unfold disk_Restart restartD
  rw [valid_eq, bind_e rfl, ifp_pos (by omega)]
  cases valid d <;> rfl
theorem restart_ref (k : Nat) (d : Disk) (hd : d.Data.length ≤ 3000000) : actorgridref26_Restart k d = some (restartD d) := by
  unfold actorgridref26_Restart restartD
  rw [valid_ref, bind_e rfl, ifp_pos (by omega)]
  cases valid d <;> rfl
def newD (c : Int) : Disk × Int := if c < 0 ∨ 1048576 < c then (zeroD, 1) else (⟨[], c, false, 0, 0, false⟩, 0)
theorem new_eq (k : Nat) (c : Int) : disk_New k c = some (newD c) := by
  unfold disk_New newD
  simp only [cond_eq_ite]
  repeat' split
  all_goals first | rfl | (simp at *; omega)
theorem new_ref (k : Nat) (c : Int) : actorgridref26_NewDisk k c = some (newD c) := by
  unfold actorgridref26_NewDisk newD
  simp only [cond_eq_ite]
  repeat' split
  all_goals first | rfl | (simp at *; omega)
theorem sameD_eq (k : Nat) (d : Disk) : actorgridref26_SameDisk k d d = some true := by
  unfold actorgridref26_SameDisk
  simp
end Md
end Go.Proofs.Ytkcfkcgclljncaa
