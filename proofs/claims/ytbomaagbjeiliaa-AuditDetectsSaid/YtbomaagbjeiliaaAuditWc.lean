/-
  The walks over package audit and its reference, third part: the reference's Extends, Last, Fork.
-/
import Derived.Test.YtbomaagbjeiliaaAuditWb
namespace Go.Proofs.Ytbomaagbjeiliaa
set_option linter.unusedVariables false
open Go.ChangeShapes Go.WideShapes Go.RowKit
open Hash HashW
open Kit hiding keep_cell below_step below_drewN
namespace Audit

theorem under_e : Try.prog.underlying 49 = some (.struct (Try.prog.fieldsOf 49)) := by kernel_rfl
theorem stood_e : Try.prog.stoodInHeld 49 = false := by kernel_rfl
theorem guard_e : Try.prog.eqGuardType Try.prog.depth 49 = false := by kernel_rfl

/-- Go's == of two entries. -/
def same (a b : Entry) : Bool := a.index == b.index && (a.kind == b.kind && (a.text.toList == b.text.toList && a.hash == b.hash))
theorem same_iff (a b : Entry) : same a b = true ↔ a = b := by
  obtain ⟨x, k, t, h⟩ := a
  obtain ⟨x', k', t', h'⟩ := b
  simp only [same, Bool.and_eq_true, beq_iff_eq, Entry.mk.injEq]
  have ht : t.toList = t'.toList ↔ t = t' := by
    rw [ByteArray.toList_eq, ByteArray.toList_eq]
    constructor
    · intro h
      cases t; cases t'
      congr 1
      exact Array.toList_inj.1 h
    · exact fun h => by rw [h]
  rw [ht]
theorem run_eq (x kd : Int) (t : ByteArray) (hs : Int) (x' kd' : Int) (t' : ByteArray) (hs' : Int) (w : World) :
    (Go.binOp .eql 49 (.agg #[.int .i64 x, .int .i64 kd, .string t, .int .u64 hs]) (.agg #[.int .i64 x', .int .i64 kd', .string t', .int .u64 hs'])).run Try.prog w = .ok (.bool (same ⟨x, kd, t, hs⟩ ⟨x', kd', t', hs'⟩)) w := by
  rw [run_eql_struct, run_equalIn_agg w _ _ _ _ under_e stood_e]
  simp [go_sem, Op.eqFields]
  unfold same
  by_cases h1 : x = x' <;> by_cases h2 : kd = kd' <;> by_cases h3 : t.toList = t'.toList <;> by_cases h4 : hs = hs' <;> simp [h1, h2, h3, h4]

def fork : List Entry → List Entry → Nat
  | a :: l, b :: m => if same a b then fork l m + 1 else 0
  | _, _ => 0
theorem fork_step {l m : List Entry} {k : Nat} {a b : Entry} (h : l[k]? = some a) (h' : m[k]? = some b) :
    fork (l.drop k) (m.drop k) = if same a b then fork (l.drop (k + 1)) (m.drop (k + 1)) + 1 else 0 := by
  obtain ⟨hk, he⟩ := List.getElem?_eq_some_iff.1 h
  obtain ⟨hk', he'⟩ := List.getElem?_eq_some_iff.1 h'
  rw [List.drop_eq_getElem_cons hk, List.drop_eq_getElem_cons hk', he, he']; rfl
theorem fork_nil_left (m : List Entry) : fork [] m = 0 := by cases m <;> rfl
theorem fork_nil_right (l : List Entry) : fork l [] = 0 := by cases l <;> rfl

/-- The hash of the last entry; q where there is none. -/
def lastH (q : Int) : List Entry → Int
  | [] => q
  | e :: r => lastH e.hash r
def last (l : List Entry) : Int := lastH 0 l
theorem lastH_snoc (q : Int) (l : List Entry) (e : Entry) : lastH q (l ++ [e]) = e.hash := by
  induction l generalizing q with
  | nil => rfl
  | cons x r ih => exact ih _
theorem last_get {l : List Entry} {e : Entry} (h : l[l.length - 1]? = some e) : last l = e.hash := by
  have h0 : l ≠ [] := by intro h1; rw [h1] at h; simp at h
  rw [← List.dropLast_concat_getLast h0]
  unfold last
  rw [lastH_snoc]
  rw [← List.getLast?_eq_getElem?, List.getLast?_eq_some_getLast h0] at h
  injection h with h
  rw [h]

set_option maxHeartbeats 1000000 in
theorem last_any (A : Option Addr) (c : Nat) (l : List Entry) (w : World) (h : Log w w.heap.size A l) (hl : l.length ≤ maxLen) :
    Calls Try.prog 32 #[.slice A l.length c] w fun en w' => en = .returned (.int .u64 (last l)) ∧ w = w' := by
  unfold maxLen at hl
  by_cases h0 : l.length = 0
  · obtain rfl : l = [] := List.eq_nil_of_length_eq_zero h0
    go_enter Try.func32, Try.ntmps32
    go_wp2_with fail
    go_ret
    exact ⟨rfl, rfl⟩
  · obtain ⟨b, off, x, kd, t, hs, rfl, hbb, he, ht, c0, c1, c2, c3⟩ := h.at_ (k := l.length - 1) (by omega)
    have HF : Hid (last l = hs) := Lib.hid (last_get he)
    have e1 : ((l.length : Int) - 1).toNat = l.length - 1 := by omega
    clear he h
    go_enter Try.func32, Try.ntmps32
    go_wp2_with fail
    go_ret
    exact ⟨ret_int (by rw [HF.out]), rfl⟩

set_option maxHeartbeats 1000000 in
theorem last_ref (A : Option Addr) (c : Nat) (l : List Entry) (w : World) (h : Log w w.heap.size A l) (hl : l.length ≤ maxLen) :
    Calls Try.prog 34 #[.slice A l.length c] w fun en w' => en = .returned (.int .u64 (last l)) ∧ w = w' := by
  unfold maxLen at hl
  by_cases h0 : l.length = 0
  · obtain rfl : l = [] := List.eq_nil_of_length_eq_zero h0
    go_enter Try.func34, Try.ntmps34
    go_wp2_with fail
    go_ret
    exact ⟨rfl, rfl⟩
  · obtain ⟨b, off, x, kd, t, hs, rfl, hbb, he, ht, c0, c1, c2, c3⟩ := h.at_ (k := l.length - 1) (by omega)
    have HF : Hid (last l = hs) := Lib.hid (last_get he)
    have e1 : ((l.length : Int) - 1).toNat = l.length - 1 := by omega
    clear he h
    go_enter Try.func34, Try.ntmps34
    go_wp2_with fail
    go_ret
    exact ⟨ret_int (by rw [HF.out]), rfl⟩

set_option maxHeartbeats 1000000 in
theorem fork_any (A A' : Option Addr) (c c' : Nat) (l m : List Entry) (w : World) (h : Log w w.heap.size A l) (h' : Log w w.heap.size A' m) (hl : l.length ≤ 1000000) (hm : m.length ≤ 1000000) :
    Calls Try.prog 35 #[.slice A l.length c, .slice A' m.length c'] w fun en w' => en = .returned (.int .i64 (fork l m)) ∧ Below w.heap.size w w' := by
  go_enter Try.func35, Try.ntmps35
  go_wp2_with fail
  go_loopw [5] (fun n wr => ∃ k : Nat, k ≤ l.length ∧ k ≤ m.length ∧ n = .int .i64 k ∧ fork l m = k + fork (l.drop k) (m.drop k) ∧ Below w.heap.size w wr) (fun n _ => l.length - (intOf n).toNat)
  case atStart => exact ⟨0, Nat.zero_le _, Nat.zero_le _, rfl, by simp, Below.refl _ _⟩
  case round =>
    obtain ⟨k, hk, hk', rfl, hv, hb⟩ := hrel
    have HV := Lib.hid hv
    clear hv
    by_cases h1 : k < l.length
    · by_cases h2 : k < m.length
      · obtain ⟨b, off, x, kd, t, hs, rfl, hbb, he, ht, c0, c1, c2, c3⟩ := (h.below hb).at_ h1
        obtain ⟨b', off', x', kd', t', hs', rfl, hbb', he', ht', c0', c1', c2', c3'⟩ := (h'.below hb).at_ h2
        have hq := run_eq x kd t hs x' kd' t' hs'
        have hg := guard_e
        cases hs0 : same ⟨x, kd, t, hs⟩ ⟨x', kd', t', hs'⟩
        · have HF : Hid (((fork l m : Nat) : Int) = k) := Lib.hid (by rw [HV.out, fork_step he he', hs0]; simp)
          clear he he' h h'
          go_wp2_with fail
          go_quiet (fail)
          go_wp2_with fail
          go_ret
          exact ⟨ret_int (by rw [HF.out]), by repeat' (first | (with_reducible exact Below.refl _ _) | (with_reducible assumption) | (with_reducible refine Below.alloc ?_ ?_ _) | (with_reducible refine Below.drew ?_) | (with_reducible refine below_drewN ?_ _) | (with_reducible refine Below.setCell ?_ ?_ _) | (with_reducible exact Below.size (by assumption)) | go_size)⟩
        · have HF : Hid (fork l m = (k + 1) + fork (l.drop (k + 1)) (m.drop (k + 1))) := Lib.hid (by rw [HV.out, fork_step he he', hs0]; simp; omega)
          clear he he' h h'
          go_wp2_with fail
          go_quiet (fail)
          go_wp2_with fail
          go_roundw
          case rel => exact ⟨k + 1, by omega, by omega, by go_num, HF.out, by repeat' (first | (with_reducible exact Below.refl _ _) | (with_reducible assumption) | (with_reducible refine Below.alloc ?_ ?_ _) | (with_reducible refine Below.drew ?_) | (with_reducible refine below_drewN ?_ _) | (with_reducible refine Below.setCell ?_ ?_ _) | (with_reducible exact Below.size (by assumption)) | go_size)⟩
          case measure => simp [intOf]; omega
      · have HF : Hid (((fork l m : Nat) : Int) = k) := Lib.hid (by rw [HV.out, show m.drop k = [] from List.drop_eq_nil_of_le (by omega), fork_nil_right]; simp)
        have hd : decide ((k : Int) < (m.length : Int)) = false := by simp; omega
        go_wp2_with fail
        go_quiet (fail)
        go_wp2_with fail
        go_ret
        exact ⟨ret_int (by rw [HF.out]), by repeat' (first | (with_reducible exact Below.refl _ _) | (with_reducible assumption) | (with_reducible refine Below.alloc ?_ ?_ _) | (with_reducible refine Below.drew ?_) | (with_reducible refine below_drewN ?_ _) | (with_reducible refine Below.setCell ?_ ?_ _) | (with_reducible exact Below.size (by assumption)) | go_size)⟩
    · have HF : Hid (((fork l m : Nat) : Int) = k) := Lib.hid (by rw [HV.out, show l.drop k = [] from List.drop_eq_nil_of_le (by omega), fork_nil_left]; simp)
      have hd : decide ((k : Int) < (l.length : Int)) = false := by simp; omega
      go_wp2_with fail
      go_quiet (fail)
      go_wp2_with fail
      go_ret
      exact ⟨ret_int (by rw [HF.out]), by repeat' (first | (with_reducible exact Below.refl _ _) | (with_reducible assumption) | (with_reducible refine Below.alloc ?_ ?_ _) | (with_reducible refine Below.drew ?_) | (with_reducible refine below_drewN ?_ _) | (with_reducible refine Below.setCell ?_ ?_ _) | (with_reducible exact Below.size (by assumption)) | go_size)⟩

set_option maxHeartbeats 1000000 in
theorem fork_ref (A A' : Option Addr) (c c' : Nat) (l m : List Entry) (w : World) (h : Log w w.heap.size A l) (h' : Log w w.heap.size A' m) (hl : l.length ≤ 1000000) (hm : m.length ≤ 1000000) :
    Calls Try.prog 36 #[.slice A l.length c, .slice A' m.length c'] w fun en w' => en = .returned (.int .i64 (fork l m)) ∧ Below w.heap.size w w' := by
  go_enter Try.func36, Try.ntmps36
  go_wp2_with fail
  go_loopw [5] (fun n wr => ∃ k : Nat, k ≤ l.length ∧ k ≤ m.length ∧ n = .int .i64 k ∧ fork l m = k + fork (l.drop k) (m.drop k) ∧ Below w.heap.size w wr) (fun n _ => l.length - (intOf n).toNat)
  case atStart => exact ⟨0, Nat.zero_le _, Nat.zero_le _, rfl, by simp, Below.refl _ _⟩
  case round =>
    obtain ⟨k, hk, hk', rfl, hv, hb⟩ := hrel
    have HV := Lib.hid hv
    clear hv
    by_cases h1 : k < l.length
    · by_cases h2 : k < m.length
      · obtain ⟨b, off, x, kd, t, hs, rfl, hbb, he, ht, c0, c1, c2, c3⟩ := (h.below hb).at_ h1
        obtain ⟨b', off', x', kd', t', hs', rfl, hbb', he', ht', c0', c1', c2', c3'⟩ := (h'.below hb).at_ h2
        have hq := run_eq x kd t hs x' kd' t' hs'
        have hg := guard_e
        cases hs0 : same ⟨x, kd, t, hs⟩ ⟨x', kd', t', hs'⟩
        · have HF : Hid (((fork l m : Nat) : Int) = k) := Lib.hid (by rw [HV.out, fork_step he he', hs0]; simp)
          clear he he' h h'
          go_wp2_with fail
          go_quiet (fail)
          go_wp2_with fail
          go_ret
          exact ⟨ret_int (by rw [HF.out]), by repeat' (first | (with_reducible exact Below.refl _ _) | (with_reducible assumption) | (with_reducible refine Below.alloc ?_ ?_ _) | (with_reducible refine Below.drew ?_) | (with_reducible refine below_drewN ?_ _) | (with_reducible refine Below.setCell ?_ ?_ _) | (with_reducible exact Below.size (by assumption)) | go_size)⟩
        · have HF : Hid (fork l m = (k + 1) + fork (l.drop (k + 1)) (m.drop (k + 1))) := Lib.hid (by rw [HV.out, fork_step he he', hs0]; simp; omega)
          clear he he' h h'
          go_wp2_with fail
          go_quiet (fail)
          go_wp2_with fail
          go_roundw
          case rel => exact ⟨k + 1, by omega, by omega, by go_num, HF.out, by repeat' (first | (with_reducible exact Below.refl _ _) | (with_reducible assumption) | (with_reducible refine Below.alloc ?_ ?_ _) | (with_reducible refine Below.drew ?_) | (with_reducible refine below_drewN ?_ _) | (with_reducible refine Below.setCell ?_ ?_ _) | (with_reducible exact Below.size (by assumption)) | go_size)⟩
          case measure => simp [intOf]; omega
      · have HF : Hid (((fork l m : Nat) : Int) = k) := Lib.hid (by rw [HV.out, show m.drop k = [] from List.drop_eq_nil_of_le (by omega), fork_nil_right]; simp)
        have hd : decide ((k : Int) < (m.length : Int)) = false := by simp; omega
        go_wp2_with fail
        go_quiet (fail)
        go_wp2_with fail
        go_ret
        exact ⟨ret_int (by rw [HF.out]), by repeat' (first | (with_reducible exact Below.refl _ _) | (with_reducible assumption) | (with_reducible refine Below.alloc ?_ ?_ _) | (with_reducible refine Below.drew ?_) | (with_reducible refine below_drewN ?_ _) | (with_reducible refine Below.setCell ?_ ?_ _) | (with_reducible exact Below.size (by assumption)) | go_size)⟩
    · have HF : Hid (((fork l m : Nat) : Int) = k) := Lib.hid (by rw [HV.out, show l.drop k = [] from List.drop_eq_nil_of_le (by omega), fork_nil_left]; simp)
      have hd : decide ((k : Int) < (l.length : Int)) = false := by simp; omega
      go_wp2_with fail
      go_quiet (fail)
      go_wp2_with fail
      go_ret
      exact ⟨ret_int (by rw [HF.out]), by repeat' (first | (with_reducible exact Below.refl _ _) | (with_reducible assumption) | (with_reducible refine Below.alloc ?_ ?_ _) | (with_reducible refine Below.drew ?_) | (with_reducible refine below_drewN ?_ _) | (with_reducible refine Below.setCell ?_ ?_ _) | (with_reducible exact Below.size (by assumption)) | go_size)⟩

end Audit
end Go.Proofs.Ytbomaagbjeiliaa
