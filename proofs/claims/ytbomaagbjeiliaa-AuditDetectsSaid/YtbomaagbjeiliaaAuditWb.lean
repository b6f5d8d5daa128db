/-
  The walks over package audit and its reference, second part: Verify.
-/
import Derived.Test.YtbomaagbjeiliaaAuditWa
namespace Go.Proofs.Ytbomaagbjeiliaa
open Go.ChangeShapes Go.WideShapes Go.RowKit
open Hash HashW
open Kit hiding keep_cell below_step below_drewN
namespace Audit

/-- A log in memory: the entries' cells, one behind the other; each text is a true one. -/
def Log (w : World) (B : Nat) (A : Option Addr) (l : List Entry) : Prop := Flat w B A (l.flatMap enc) ∧ ∀ e ∈ l, e.text.size ≤ maxLen

theorem flat_length (l : List Entry) : (l.flatMap enc).length = l.length * 4 := by
  induction l with
  | nil => rfl
  | cons e r ih => simp [enc] at ih ⊢; omega
theorem flat_get (l : List Entry) (k : Nat) (e : Entry) (h : l[k]? = some e) (j : Nat) (hj : j < 4) : (l.flatMap enc)[k * 4 + j]? = (enc e)[j]? := by
  induction l generalizing k with
  | nil => simp at h
  | cons x r ih =>
    cases k with
    | zero =>
      simp at h
      subst h
      rw [List.flatMap_cons, List.getElem?_append_left (by simp [enc]; omega)]
      simp
    | succ k =>
      have := ih k (by simpa using h)
      rw [List.flatMap_cons, List.getElem?_append_right (by simp [enc]; omega), ← this]
      congr 1
      simp [enc]; omega

theorem Log.below {w w' : World} {B : Nat} {A : Option Addr} {l : List Entry} (h : Log w B A l) (hb : Below B w w') : Log w' B A l := ⟨h.1.below hb, h.2⟩
theorem Log.at_ {w : World} {B : Nat} {A : Option Addr} {l : List Entry} {k : Nat} (h : Log w B A l) (hk : k < l.length) :
    ∃ b off x kd t hs, A = some ⟨b, off, none⟩ ∧ b < B ∧ l[k]? = some ⟨x, kd, t, hs⟩ ∧ t.size ≤ maxLen ∧ w.cell? ⟨b, off + k * 4, none⟩ = some (.int .i64 x) ∧ w.cell? ⟨b, off + k * 4 + 1, none⟩ = some (.int .i64 kd) ∧
      w.cell? ⟨b, off + k * 4 + 2, none⟩ = some (.string t) ∧ w.cell? ⟨b, off + k * 4 + 3, none⟩ = some (.int .u64 hs) := by
  obtain ⟨b, off, rfl, hb, hc⟩ := h.1.at_ (by rw [flat_length]; omega)
  have he : l[k]? = some l[k] := List.getElem?_eq_getElem hk
  have hg := flat_get l k _ he
  refine ⟨b, off, l[k].index, l[k].kind, l[k].text, l[k].hash, rfl, hb, he, h.2 _ (List.getElem_mem hk), ?_, ?_, ?_, ?_⟩
  · exact hc (k * 4) _ (hg 0 (by omega))
  · rw [Nat.add_assoc]; exact hc (k * 4 + 1) _ (hg 1 (by omega))
  · rw [Nat.add_assoc]; exact hc (k * 4 + 2) _ (hg 2 (by omega))
  · rw [Nat.add_assoc]; exact hc (k * 4 + 3) _ (hg 3 (by omega))

def verify (prev : Int) (i : Nat) : List Entry → Int × Bool
  | [] => (0, true)
  | e :: r => if good prev i e then verify e.hash (i + 1) r else ((i : Int), false)
theorem verify_step {prev : Int} {l : List Entry} {k : Nat} {e : Entry} (h : l[k]? = some e) :
    verify prev k (l.drop k) = if good prev k e then verify e.hash (k + 1) (l.drop (k + 1)) else ((k : Int), false) := by
  have hk : k < l.length := (List.getElem?_eq_some_iff.1 h).1
  have he : l[k] = e := (List.getElem?_eq_some_iff.1 h).2
  rw [List.drop_eq_getElem_cons hk, he]; rfl

set_option maxHeartbeats 1000000 in
theorem verify_any (A : Option Addr) (c : Nat) (l : List Entry) (w : World) (h : Log w w.heap.size A l) (hl : l.length ≤ maxLen) :
    Calls Try.prog 29 #[.slice A l.length c] w fun en w' => en = .returned (.tuple #[.int .i64 (verify 0 0 l).1, .bool (verify 0 0 l).2]) ∧ Below w.heap.size w w' := by
  unfold maxLen at hl
  go_enter Try.func29, Try.ntmps29
  go_wp2_with fail
  go_loopw [4, 9] (fun p i wr => ∃ (k : Nat) (q : Int), k ≤ l.length ∧ i = .int .i64 k ∧ p = .int .u64 q ∧ verify 0 0 l = verify q k (l.drop k) ∧ Below w.heap.size w wr) (fun _ i _ => l.length - (intOf i).toNat)
  case atStart => exact ⟨0, 0, Nat.zero_le _, rfl, rfl, rfl, Below.refl _ _⟩
  case round =>
    obtain ⟨k, q, hk, rfl, rfl, hv, hb⟩ := hrel
    have HV := Lib.hid hv
    have hz := hb.size
    clear hv
    by_cases hlt : k < l.length
    · obtain ⟨b, off, x, kd, t, hs, rfl, hbb, he, ht, c0, c1, c2, c3⟩ := (h.below hb).at_ hlt
      have HE := Lib.hid he
      clear he
      cases hg : good q k ⟨x, kd, t, hs⟩
      · have HF : Hid (verify 0 0 l = ((k : Int), false)) := Lib.hid (by rw [HV.out, verify_step HE.out, hg]; rfl)
        go_wp2_with fail
        refine (follows_any q k ⟨x, kd, t, hs⟩ ht _).mono ?_
        rintro e w1 ⟨rfl, hb1⟩
        have c4 : w1.cell? ⟨wr.heap.size, 3, none⟩ = some (.int .u64 hs) := keep_cell hb1 (by simp [go_sem])
        replace hb1 := below_step (w := w) (by repeat' (first | (with_reducible exact Below.refl _ _) | (with_reducible assumption) | (with_reducible refine Below.alloc ?_ ?_ _) | (with_reducible refine Below.drew ?_) | (with_reducible refine below_drewN ?_ _) | (with_reducible refine Below.setCell ?_ ?_ _) | (with_reducible exact Below.size (by assumption)) | go_size)) hb1
        go_wp2_with fail
        go_ret2
        exact ⟨by rw [HF.out]; rfl, hb1⟩
      · have HF : Hid (verify 0 0 l = verify hs (k + 1) (l.drop (k + 1))) := Lib.hid (by rw [HV.out, verify_step HE.out, hg]; rfl)
        go_wp2_with fail
        refine (follows_any q k ⟨x, kd, t, hs⟩ ht _).mono ?_
        rintro e w1 ⟨rfl, hb1⟩
        have c4 : w1.cell? ⟨wr.heap.size, 3, none⟩ = some (.int .u64 hs) := keep_cell hb1 (by simp [go_sem])
        replace hb1 := below_step (w := w) (by repeat' (first | (with_reducible exact Below.refl _ _) | (with_reducible assumption) | (with_reducible refine Below.alloc ?_ ?_ _) | (with_reducible refine Below.drew ?_) | (with_reducible refine below_drewN ?_ _) | (with_reducible refine Below.setCell ?_ ?_ _) | (with_reducible exact Below.size (by assumption)) | go_size)) hb1
        go_wp2_with fail
        go_roundw
        case rel => exact ⟨k + 1, hs, by omega, by go_num, rfl, HF.out, hb1⟩
        case measure => simp [intOf]; omega
    · have HF : Hid (verify 0 0 l = (0, true)) := Lib.hid (by rw [HV.out, List.drop_eq_nil_of_le (by omega)]; rfl)
      go_wp2_with fail
      go_ret2
      exact ⟨by rw [HF.out]; rfl, hb⟩


set_option maxHeartbeats 1000000 in
theorem verify_ref (A : Option Addr) (c : Nat) (l : List Entry) (w : World) (h : Log w w.heap.size A l) (hl : l.length ≤ maxLen) :
    Calls Try.prog 30 #[.slice A l.length c] w fun en w' => en = .returned (.tuple #[.int .i64 (verify 0 0 l).1, .bool (verify 0 0 l).2]) ∧ Below w.heap.size w w' := by
  unfold maxLen at hl
  go_enter Try.func30, Try.ntmps30
  go_wp2_with fail
  go_loopw [4, 5] (fun p i wr => ∃ (k : Nat) (q : Int), k ≤ l.length ∧ i = .int .i64 k ∧ p = .int .u64 q ∧ verify 0 0 l = verify q k (l.drop k) ∧ Below w.heap.size w wr) (fun _ i _ => l.length - (intOf i).toNat)
  case atStart => exact ⟨0, 0, Nat.zero_le _, rfl, rfl, rfl, Below.refl _ _⟩
  case round =>
    obtain ⟨k, q, hk, rfl, rfl, hv, hb⟩ := hrel
    have HV := Lib.hid hv
    have hz := hb.size
    clear hv
    by_cases hlt : k < l.length
    · obtain ⟨b, off, x, kd, t, hs, rfl, hbb, he, ht, c0, c1, c2, c3⟩ := (h.below hb).at_ hlt
      have HE := Lib.hid he
      clear he
      cases hg : good q k ⟨x, kd, t, hs⟩
      · have HF : Hid (verify 0 0 l = ((k : Int), false)) := Lib.hid (by rw [HV.out, verify_step HE.out, hg]; rfl)
        go_wp2_with fail
        refine (good_ref q k ⟨x, kd, t, hs⟩ ht _).mono ?_
        rintro e w1 ⟨rfl, hb1⟩
        have c4 : w1.cell? ⟨b, off + k * 4 + 3, none⟩ = some (.int .u64 hs) := keep_cell hb1 c3
        replace hb1 := below_step (w := w) (by repeat' (first | (with_reducible exact Below.refl _ _) | (with_reducible assumption) | (with_reducible refine Below.alloc ?_ ?_ _) | (with_reducible refine Below.drew ?_) | (with_reducible refine below_drewN ?_ _) | (with_reducible refine Below.setCell ?_ ?_ _) | (with_reducible exact Below.size (by assumption)) | go_size)) hb1
        go_wp2_with fail
        go_ret2
        exact ⟨by rw [HF.out]; rfl, hb1⟩
      · have HF : Hid (verify 0 0 l = verify hs (k + 1) (l.drop (k + 1))) := Lib.hid (by rw [HV.out, verify_step HE.out, hg]; rfl)
        go_wp2_with fail
        refine (good_ref q k ⟨x, kd, t, hs⟩ ht _).mono ?_
        rintro e w1 ⟨rfl, hb1⟩
        have c4 : w1.cell? ⟨b, off + k * 4 + 3, none⟩ = some (.int .u64 hs) := keep_cell hb1 c3
        replace hb1 := below_step (w := w) (by repeat' (first | (with_reducible exact Below.refl _ _) | (with_reducible assumption) | (with_reducible refine Below.alloc ?_ ?_ _) | (with_reducible refine Below.drew ?_) | (with_reducible refine below_drewN ?_ _) | (with_reducible refine Below.setCell ?_ ?_ _) | (with_reducible exact Below.size (by assumption)) | go_size)) hb1
        go_wp2_with fail
        go_roundw
        case rel => exact ⟨k + 1, hs, by omega, by go_num, rfl, HF.out, hb1⟩
        case measure => simp [intOf]; omega
    · have HF : Hid (verify 0 0 l = (0, true)) := Lib.hid (by rw [HV.out, List.drop_eq_nil_of_le (by omega)]; rfl)
      go_wp2_with fail
      go_ret2
      exact ⟨by rw [HF.out]; rfl, hb⟩

/-- What Extends gives. -/
def extend (prev i : Int) : List Entry → Int × Bool
  | [] => (prev, true)
  | e :: r => if good prev i e then extend e.hash (i + 1) r else (0, false)
theorem extend_step {prev i : Int} {l : List Entry} {k : Nat} {e : Entry} (h : l[k]? = some e) :
    extend prev i (l.drop k) = if good prev i e then extend e.hash (i + 1) (l.drop (k + 1)) else (0, false) := by
  have hk : k < l.length := (List.getElem?_eq_some_iff.1 h).1
  have he : l[k] = e := (List.getElem?_eq_some_iff.1 h).2
  rw [List.drop_eq_getElem_cons hk, he]; rfl

set_option maxHeartbeats 1000000 in
theorem extends_any (p f : Int) (A : Option Addr) (c : Nat) (l : List Entry) (w : World) (h : Log w w.heap.size A l) (hl : l.length ≤ 1000000) (hf : 0 ≤ f) (hf' : f ≤ 1000000) :
    Calls Try.prog 31 #[.int .u64 p, .int .i64 f, .slice A l.length c] w fun en w' => en = .returned (.tuple #[.int .u64 (extend p f l).1, .bool (extend p f l).2]) ∧ Below w.heap.size w w' := by
  go_enter Try.func31, Try.ntmps31
  go_wp2_with fail
  go_loopw [0, 12] (fun p' i wr => ∃ (k : Nat) (q : Int), k ≤ l.length ∧ i = .int .i64 k ∧ p' = .int .u64 q ∧ extend p f l = extend q (f + k) (l.drop k) ∧ Below w.heap.size w wr) (fun _ i _ => l.length - (intOf i).toNat)
  case atStart => exact ⟨0, p, Nat.zero_le _, rfl, rfl, by simp, Below.refl _ _⟩
  case round =>
    obtain ⟨k, q, hk, rfl, rfl, hv, hb⟩ := hrel
    have HV := Lib.hid hv
    have hz := hb.size
    clear hv
    by_cases hlt : k < l.length
    · obtain ⟨b, off, x, kd, t, hs, rfl, hbb, he, ht, c0, c1, c2, c3⟩ := (h.below hb).at_ hlt
      have HE := Lib.hid he
      clear he
      cases hg : good q (f + k) ⟨x, kd, t, hs⟩
      · have HF : Hid (extend p f l = (0, false)) := Lib.hid (by rw [HV.out, extend_step HE.out, hg]; rfl)
        go_wp2_with fail
        refine (follows_any q (f + k) ⟨x, kd, t, hs⟩ ht _).mono ?_
        rintro e w1 ⟨rfl, hb1⟩
        have c4 : w1.cell? ⟨wr.heap.size, 3, none⟩ = some (.int .u64 hs) := keep_cell hb1 (by simp [go_sem])
        replace hb1 := below_step (w := w) (by repeat' (first | (with_reducible exact Below.refl _ _) | (with_reducible assumption) | (with_reducible refine Below.alloc ?_ ?_ _) | (with_reducible refine Below.drew ?_) | (with_reducible refine below_drewN ?_ _) | (with_reducible refine Below.setCell ?_ ?_ _) | (with_reducible exact Below.size (by assumption)) | go_size)) hb1
        go_wp2_with fail
        go_ret2
        exact ⟨by rw [HF.out]; rfl, hb1⟩
      · have HF : Hid (extend p f l = extend hs (f + ((k + 1 : Nat) : Int)) (l.drop (k + 1))) := Lib.hid (by rw [HV.out, extend_step HE.out, hg]; simp [Int.add_assoc])
        go_wp2_with fail
        refine (follows_any q (f + k) ⟨x, kd, t, hs⟩ ht _).mono ?_
        rintro e w1 ⟨rfl, hb1⟩
        have c4 : w1.cell? ⟨wr.heap.size, 3, none⟩ = some (.int .u64 hs) := keep_cell hb1 (by simp [go_sem])
        replace hb1 := below_step (w := w) (by repeat' (first | (with_reducible exact Below.refl _ _) | (with_reducible assumption) | (with_reducible refine Below.alloc ?_ ?_ _) | (with_reducible refine Below.drew ?_) | (with_reducible refine below_drewN ?_ _) | (with_reducible refine Below.setCell ?_ ?_ _) | (with_reducible exact Below.size (by assumption)) | go_size)) hb1
        go_wp2_with fail
        go_roundw
        case rel => exact ⟨k + 1, hs, by omega, by go_num, rfl, HF.out, hb1⟩
        case measure => simp [intOf]; omega
    · have HF : Hid (extend p f l = (q, true)) := Lib.hid (by rw [HV.out, List.drop_eq_nil_of_le (by omega)]; rfl)
      go_wp2_with fail
      go_ret2
      exact ⟨by rw [HF.out]; rfl, hb⟩

end Audit
end Go.Proofs.Ytbomaagbjeiliaa
