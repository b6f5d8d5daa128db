/-
  Package disk and its reference, in plain words: what the printed functions compute. Conditions: sizes.
-/
import Derived.Test.YtkcfkcgclljncaaDiskDM
namespace Go.Proofs.Ytkcfkcgclljncaa
set_option linter.unusedVariables false
set_option linter.unusedSimpArgs false
namespace Md
def valid (d : Disk) : Bool :=
  decide (0 ≤ d.Capacity ∧ d.Capacity ≤ 1048576 ∧ (d.Data.length : Int) ≤ d.Capacity ∧ 0 ≤ d.Writes ∧ 0 ≤ d.Keep) && (bif d.Armed then !d.Down else d.Writes == 0 && d.Keep == 0)
theorem valid_eq (k : Nat) (d : Disk) : disk_Valid k d = some (valid d) := by
  unfold disk_Valid valid
  obtain ⟨l, c, a, w, p, n⟩ := d
  simp only [cond_eq_ite]
  repeat' split
  all_goals simp_all <;> omega
theorem valid_ref (k : Nat) (d : Disk) : actorgridref26_ValidDisk k d = some (valid d) := by
  unfold actorgridref26_ValidDisk valid
  obtain ⟨l, c, a, w, p, n⟩ := d
  simp only [cond_eq_ite]
  repeat' split
  all_goals simp_all <;> omega
theorem valid_ok {d : Disk} (h : valid d = true) : 0 ≤ d.Capacity ∧ d.Capacity ≤ 1048576 ∧ (d.Data.length : Int) ≤ d.Capacity ∧ 0 ≤ d.Writes ∧ 0 ≤ d.Keep := by
  unfold valid at h
  rw [Bool.and_eq_true] at h
  exact of_decide_eq_true h.1
def zeroD : Disk := ⟨[], 0, false, 0, 0, false⟩
def appendD (d : Disk) (b : List UInt8) : Disk × Int :=
  if valid d = false then (zeroD, 1) else if d.Down = true then (d, 23) else if (b.length : Int) > d.Capacity - d.Data.length then (d, 5)
  else if d.Armed = true ∧ d.Writes = 0 then (⟨d.Data ++ b.take (min d.Keep.toNat b.length), d.Capacity, false, 0, 0, true⟩, 23)
  else (⟨d.Data ++ b, d.Capacity, d.Armed, if d.Armed then d.Writes - 1 else d.Writes, d.Keep, d.Down⟩, 0)
theorem append_eq (k : Nat) (d : Disk) (b : List UInt8) (hb : b.length ≤ 1500000) (hd : d.Data.length ≤ 1500000) (hw : d.Writes ≤ 9223372036854775807) : disk_Append k d b = some (appendD d b) := by
  unfold disk_Append appendD
  rw [valid_eq, bind_e rfl]
  by_cases hv : valid d = true
  · obtain ⟨v1, v2, v3, v4, v5⟩ := valid_ok hv
    obtain ⟨l, c, a, w, p, n⟩ := d
    dsimp only at *
    have h1 : W (c - (l.length : Int)) = c - l.length := W_id (by omega) (by omega)
    have h2 : W (w - 1) = w - 1 := W_id (by omega) (by omega)
    have h3 : (min p (b.length : Int)).toNat = min p.toNat b.length := by omega
    have h4 : (b.take (min p.toNat b.length)).length ≤ 1500000 := by simp; omega
    unfold slices_Concat disk_crash disk_clone disk_written
    rw [h1, h2, h3, hv]
    simp only [ifp, List.flatten_cons, List.flatten_nil, List.append_nil, List.length_append, cond_eq_ite]
    repeat' split
    all_goals simp_all <;> omega
  · have hv' : valid d = false := by simpa using hv
    rw [hv', if_pos rfl]
    rfl
theorem append_ref (k : Nat) (d : Disk) (b : List UInt8) (hb : b.length ≤ 1500000) (hd : d.Data.length ≤ 1500000) (hw : d.Writes ≤ 9223372036854775807) : actorgridref26_AppendDisk k d b = some (appendD d b) := by
  unfold actorgridref26_AppendDisk appendD
  rw [valid_ref, bind_e rfl]
  by_cases hv : valid d = true
  · obtain ⟨v1, v2, v3, v4, v5⟩ := valid_ok hv
    obtain ⟨l, c, a, w, p, n⟩ := d
    dsimp only at *
    have h1 : W (c - (l.length : Int)) = c - l.length := W_id (by omega) (by omega)
    have h2 : W (w - 1) = w - 1 := W_id (by omega) (by omega)
    have h3 : (min p (b.length : Int)).toNat = min p.toNat b.length := by omega
    have h4 : (b.take (min p.toNat b.length)).length ≤ 1500000 := by simp; omega
    have h5 : actorgridref26_copyDisk k ⟨l, c, a, w, p, n⟩ = some ⟨l, c, a, w, p, n⟩ := by
      unfold actorgridref26_copyDisk
      exact ifp_pos (by simp; omega)
    rw [h5, bind_e rfl]
    dsimp only
    rw [h1, h2, h3, hv]
    simp only [ifp, cond_eq_ite]
    repeat' split
    all_goals simp_all <;> omega
  · have hv' : valid d = false := by simpa using hv
    rw [hv', if_pos rfl]
    rfl
end Md
end Go.Proofs.Ytkcfkcgclljncaa
