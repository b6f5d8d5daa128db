/-
  The walks over package audit and its reference, first part: Hash, follows and good: one entry.
-/
import Derived.Test.YtbomaagbjeiliaaHashWc
import Derived.Test.YtbomaagbjeiliaaKit
namespace Go.Proofs.Ytbomaagbjeiliaa
open Go.ChangeShapes Go.WideShapes Go.RowKit
open Hash HashW
open Kit hiding keep_cell below_step below_drewN
attribute [local go_sem ↓] Go.wp_at_zero Go.wp_at_succ
namespace Audit

structure Entry where
  index : Int
  kind : Int
  text : ByteArray
  hash : Int

def enc (e : Entry) : List Value := [.int .i64 e.index, .int .i64 e.kind, .string e.text, .int .u64 e.hash]
abbrev Entry.val (e : Entry) : Value := .agg #[.int .i64 e.index, .int .i64 e.kind, .string e.text, .int .u64 e.hash]
def hashI (prev i k : Int) (t : List UInt8) : Int := combineI (combineI (combineI prev (IntKind.u64.wrap i)) (IntKind.u64.wrap k)) (textI t)
def good (prev i : Int) (e : Entry) : Bool := e.index == i && (decide (e.text.size ≤ 200) && e.hash == hashI prev e.index e.kind e.text.data.toList)

set_option maxHeartbeats 1000000 in
theorem hash_any (p i k : Int) (t : ByteArray) (ht : t.size ≤ maxLen) (w : World) :
    Calls Try.prog 46 #[.int .u64 p, .int .i64 i, .int .i64 k, .string t] w fun e w' => e = .returned (.int .u64 (hashI p i k t.data.toList)) ∧ Below w.heap.size w w' := by
  go_enter Try.func46, Try.ntmps46
  have hb0 := Below.refl w.heap.size w
  go_wp2_with fail
  refine (combine_any _ _ _).mono ?_
  rintro e wd1 ⟨rfl, hb1⟩
  replace hb1 := below_step (w := w) (by repeat' (first | (with_reducible exact Below.refl _ _) | (with_reducible assumption) | (with_reducible refine Below.alloc ?_ ?_ _) | (with_reducible refine Below.drew ?_) | (with_reducible refine below_drewN ?_ _) | (with_reducible refine Below.setCell ?_ ?_ _) | (with_reducible exact Below.size (by assumption)) | go_size)) hb1
  have hz1 := hb1.size
  go_wp2_with fail
  refine (combine_any _ _ _).mono ?_
  rintro e wd2 ⟨rfl, hb2⟩
  replace hb2 := below_step (w := w) (by repeat' (first | (with_reducible exact Below.refl _ _) | (with_reducible assumption) | (with_reducible refine Below.alloc ?_ ?_ _) | (with_reducible refine Below.drew ?_) | (with_reducible refine below_drewN ?_ _) | (with_reducible refine Below.setCell ?_ ?_ _) | (with_reducible exact Below.size (by assumption)) | go_size)) hb2
  have hz2 := hb2.size
  go_wp2_with fail
  refine (text_any _ ht _).mono ?_
  rintro e wd3 ⟨rfl, hb3⟩
  replace hb3 := below_step (w := w) (by repeat' (first | (with_reducible exact Below.refl _ _) | (with_reducible assumption) | (with_reducible refine Below.alloc ?_ ?_ _) | (with_reducible refine Below.drew ?_) | (with_reducible refine below_drewN ?_ _) | (with_reducible refine Below.setCell ?_ ?_ _) | (with_reducible exact Below.size (by assumption)) | go_size)) hb3
  have hz3 := hb3.size
  go_wp2_with fail
  refine (combine_any _ _ _).mono ?_
  rintro e wd4 ⟨rfl, hb4⟩
  replace hb4 := below_step (w := w) (by repeat' (first | (with_reducible exact Below.refl _ _) | (with_reducible assumption) | (with_reducible refine Below.alloc ?_ ?_ _) | (with_reducible refine Below.drew ?_) | (with_reducible refine below_drewN ?_ _) | (with_reducible refine Below.setCell ?_ ?_ _) | (with_reducible exact Below.size (by assumption)) | go_size)) hb4
  have hz4 := hb4.size
  go_wp2_with fail
  go_ret
  exact ⟨rfl, hb4⟩
set_option maxHeartbeats 1000000 in
theorem hash_ref (p i k : Int) (t : ByteArray) (ht : t.size ≤ maxLen) (w : World) :
    Calls Try.prog 42 #[.int .u64 p, .int .i64 i, .int .i64 k, .string t] w fun e w' => e = .returned (.int .u64 (hashI p i k t.data.toList)) ∧ Below w.heap.size w w' := by
  go_enter Try.func42, Try.ntmps42
  go_wp2_with fail
  refine (combine_ref _ _ _).mono ?_
  rintro e w' ⟨rfl, rfl⟩
  go_wp2_with fail
  refine (combine_ref _ _ _).mono ?_
  rintro e w' ⟨rfl, rfl⟩
  go_wp2_with fail
  refine (text_ref _ ht _).mono ?_
  rintro e w' ⟨rfl, rfl⟩
  go_wp2_with fail
  refine (combine_ref _ _ _).mono ?_
  rintro e w' ⟨rfl, rfl⟩
  go_wp2_with fail
  go_ret
  exact ⟨rfl, Below.refl _ _⟩

theorem good_index {p i : Int} {e : Entry} (h : (e.index == i) = false) : good p i e = false := by simp [good, h]
theorem good_text {p i : Int} {e : Entry} (h : ¬ e.text.size ≤ 200) : good p i e = false := by simp [good, h]
theorem good_hash {p i : Int} {e : Entry} (h1 : (e.index == i) = true) (h2 : e.text.size ≤ 200) : good p i e = (e.hash == hashI p e.index e.kind e.text.data.toList) := by simp [good, h1, h2]

set_option maxHeartbeats 1000000 in
theorem follows_any (p i : Int) (e : Entry) (ht : e.text.size ≤ maxLen) (w : World) :
    Calls Try.prog 43 #[.int .u64 p, .int .i64 i, e.val] w fun en w' => en = .returned (.bool (good p i e)) ∧ Below w.heap.size w w' := by
  obtain ⟨x, k, t, h⟩ := e
  unfold Entry.val
  simp only [] at ht ⊢
  by_cases hi : (x == i) = true
  · by_cases hs : t.size ≤ 200
    · have hd : decide ((t.size : Int) ≤ 200) = true := by simp; omega
      rw [good_hash (e := ⟨x, k, t, h⟩) hi hs]
      go_enter Try.func43, Try.ntmps43
      go_wp2_with fail
      go_region_held3 (fun w' => w'.cell? ⟨w.heap.size, 0, none⟩ = some (.int .i64 x) ∧ w'.cell? ⟨w.heap.size, 1, none⟩ = some (.int .i64 k) ∧ w'.cell? ⟨w.heap.size, 2, none⟩ = some (.string t) ∧ w'.cell? ⟨w.heap.size, 3, none⟩ = some (.int .u64 h) ∧ Below w.heap.size w w')
        (first | assumption | (refine ⟨by simp [go_sem], by simp [go_sem], by simp [go_sem], by simp [go_sem], ?_⟩; (repeat' (first | (with_reducible exact Below.refl _ _) | (with_reducible assumption) | (with_reducible refine Below.alloc ?_ ?_ _) | (with_reducible refine Below.drew ?_) | (with_reducible refine below_drewN ?_ _) | (with_reducible refine Below.setCell ?_ ?_ _) | (with_reducible exact Below.size (by assumption)) | go_size)); done) | (refine ⟨keep_cell hb2 ?_, keep_cell hb2 ?_, keep_cell hb2 ?_, keep_cell hb2 ?_, below_step ?_ hb2⟩ <;> (simp [*]; done)))
        (first | (go_at_call 46; refine (hash_any _ _ _ _ ht _).mono ?_; rintro e w' ⟨rfl, hb2⟩))
      go_wp2_with fail
      go_ret
      exact ⟨rfl, by simp [*]⟩
    · have hd : decide ((t.size : Int) ≤ 200) = false := by simp; omega
      rw [good_text (e := ⟨x, k, t, h⟩) hs]
      go_enter Try.func43, Try.ntmps43
      go_wp2_with fail
      go_quiet (fail)
      go_wp2_with fail
      go_ret
      exact ⟨rfl, by repeat' (first | (with_reducible exact Below.refl _ _) | (with_reducible assumption) | (with_reducible refine Below.alloc ?_ ?_ _) | (with_reducible refine Below.drew ?_) | (with_reducible refine below_drewN ?_ _) | (with_reducible refine Below.setCell ?_ ?_ _) | (with_reducible exact Below.size (by assumption)) | go_size)⟩
  · have hi' : (x == i) = false := by simpa using hi
    rw [good_index (e := ⟨x, k, t, h⟩) hi']
    go_enter Try.func43, Try.ntmps43
    go_wp2_with fail
    go_quiet (fail)
    go_wp2_with fail
    go_ret
    exact ⟨rfl, by repeat' (first | (with_reducible exact Below.refl _ _) | (with_reducible assumption) | (with_reducible refine Below.alloc ?_ ?_ _) | (with_reducible refine Below.drew ?_) | (with_reducible refine below_drewN ?_ _) | (with_reducible refine Below.setCell ?_ ?_ _) | (with_reducible exact Below.size (by assumption)) | go_size)⟩
set_option maxHeartbeats 1000000 in
theorem good_ref (p i : Int) (e : Entry) (ht : e.text.size ≤ maxLen) (w : World) :
    Calls Try.prog 44 #[e.val, .int .i64 i, .int .u64 p] w fun en w' => en = .returned (.bool (good p i e)) ∧ Below w.heap.size w w' := by
  obtain ⟨x, k, t, h⟩ := e
  unfold Entry.val
  simp only [] at ht ⊢
  by_cases hi : (x == i) = true
  · by_cases hs : t.size ≤ 200
    · have hd : decide ((t.size : Int) ≤ 200) = true := by simp; omega
      rw [good_hash (e := ⟨x, k, t, h⟩) hi hs]
      go_enter Try.func44, Try.ntmps44
      go_wp2_with fail
      go_region_held3 (fun w' => w'.cell? ⟨w.heap.size, 0, none⟩ = some (.int .i64 x) ∧ w'.cell? ⟨w.heap.size, 1, none⟩ = some (.int .i64 k) ∧ w'.cell? ⟨w.heap.size, 2, none⟩ = some (.string t) ∧ w'.cell? ⟨w.heap.size, 3, none⟩ = some (.int .u64 h) ∧ Below w.heap.size w w')
        (first | assumption | (refine ⟨by simp [go_sem], by simp [go_sem], by simp [go_sem], by simp [go_sem], ?_⟩; (repeat' (first | (with_reducible exact Below.refl _ _) | (with_reducible assumption) | (with_reducible refine Below.alloc ?_ ?_ _) | (with_reducible refine Below.drew ?_) | (with_reducible refine below_drewN ?_ _) | (with_reducible refine Below.setCell ?_ ?_ _) | (with_reducible exact Below.size (by assumption)) | go_size)); done) | (refine ⟨keep_cell hb2 ?_, keep_cell hb2 ?_, keep_cell hb2 ?_, keep_cell hb2 ?_, below_step ?_ hb2⟩ <;> (simp [*]; done)))
        (first | (go_at_call 42; refine (hash_ref _ _ _ _ ht _).mono ?_; rintro e w' ⟨rfl, hb2⟩))
      go_wp2_with fail
      go_ret
      exact ⟨rfl, by simp [*]⟩
    · have hd : decide ((t.size : Int) ≤ 200) = false := by simp; omega
      rw [good_text (e := ⟨x, k, t, h⟩) hs]
      go_enter Try.func44, Try.ntmps44
      go_wp2_with fail
      go_quiet (fail)
      go_wp2_with fail
      go_ret
      exact ⟨rfl, by repeat' (first | (with_reducible exact Below.refl _ _) | (with_reducible assumption) | (with_reducible refine Below.alloc ?_ ?_ _) | (with_reducible refine Below.drew ?_) | (with_reducible refine below_drewN ?_ _) | (with_reducible refine Below.setCell ?_ ?_ _) | (with_reducible exact Below.size (by assumption)) | go_size)⟩
  · have hi' : (x == i) = false := by simpa using hi
    rw [good_index (e := ⟨x, k, t, h⟩) hi']
    go_enter Try.func44, Try.ntmps44
    go_wp2_with fail
    go_quiet (fail)
    go_wp2_with fail
    go_ret
    exact ⟨rfl, by repeat' (first | (with_reducible exact Below.refl _ _) | (with_reducible assumption) | (with_reducible refine Below.alloc ?_ ?_ _) | (with_reducible refine Below.drew ?_) | (with_reducible refine below_drewN ?_ _) | (with_reducible refine Below.setCell ?_ ?_ _) | (with_reducible exact Below.size (by assumption)) | go_size)⟩

end Audit
end Go.Proofs.Ytbomaagbjeiliaa
