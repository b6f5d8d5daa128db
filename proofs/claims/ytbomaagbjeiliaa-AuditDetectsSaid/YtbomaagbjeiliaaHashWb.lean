/-
  The walks over package hashing and its reference, second part: Combine, Text, Position, Token, Actor.
-/
import Derived.Test.YtbomaagbjeiliaaHashWa
import Derived.Deep.RegionHeld3
namespace Go.Proofs.Ytbomaagbjeiliaa
open Hash
open Go.ChangeShapes Go.WideShapes Go.RowKit
namespace HashW

set_option maxHeartbeats 400000 in
theorem combine_any (h x : Int) (w : World) : Calls Try.prog 16 #[.int .u64 h, .int .u64 x] w fun e w' => e = .returned (.int .u64 (combineI h x)) ∧ Below w.heap.size w w' := by
  go_enter Try.func16, Try.ntmps16
  go_wp2_with fail
  refine (mix_any _ (U64.wrap _) _).mono ?_
  rintro e w' ⟨rfl, hb⟩
  go_wp2
  go_ret
  exact ⟨rfl, hb⟩
set_option maxHeartbeats 400000 in
theorem combine_ref (h x : Int) (w : World) : Calls Try.prog 17 #[.int .u64 h, .int .u64 x] w fun e w' => e = .returned (.int .u64 (combineI h x)) ∧ w = w' := by
  go_enter Try.func17, Try.ntmps17
  go_wp2_with fail
  refine (mix_ref _ (U64.wrap _) _).mono ?_
  rintro e w' ⟨rfl, rfl⟩
  go_wp2
  go_ret
  exact ⟨rfl, rfl⟩

theorem take_snoc (s : ByteArray) (k : Nat) (h : k < s.size) : s.data.toList.take (k + 1) = s.data.toList.take k ++ [s[k]] := by
  rw [List.take_succ_eq_append_getElem (by simpa using h)]; rfl
theorem fold_snoc (s : ByteArray) (k : Nat) (h : k < s.size) :
    textFold (s.data.toList.take (k + 1)) = IntKind.u64.wrap (bits .xor .u64 (textFold (s.data.toList.take k)) (IntKind.u64.wrap (s[k].toNat : Int)) * 1099511628211) := by
  rw [take_snoc s k h, textFold_snoc]; rfl

set_option maxHeartbeats 400000 in
theorem text_any (s : ByteArray) (hs : s.size ≤ maxLen) (w : World) : Calls Try.prog 18 #[.string s] w fun e w' => e = .returned (.int .u64 (textI s.data.toList)) ∧ Below w.heap.size w w' := by
  unfold maxLen at hs
  go_enter Try.func18, Try.ntmps18
  go_wp2_with fail
  go_loop [3, 7] (fun h i => ∃ k : Nat, k ≤ s.size ∧ i = .int .i64 k ∧ h = .int .u64 (textFold (s.data.toList.take k))) (fun _ i => s.size - (intOf i).toNat)
  case atStart => exact ⟨0, Nat.zero_le _, rfl, rfl⟩
  case round =>
    obtain ⟨k, hk, rfl, rfl⟩ := hrel
    by_cases hlt : k < s.size
    · have HS := Lib.hid (fold_snoc s k hlt)
      go_wp2
      go_round
      case rel => exact ⟨k + 1, by omega, by go_num, by rw [HS.out]⟩
      case measure => simp [intOf]; omega
    · obtain rfl : k = s.size := by omega
      go_wp2_with fail
      refine (mix_any _ (textFold_u64 _) _).mono ?_
      rintro e w' ⟨rfl, hb⟩
      go_wp2
      go_ret
      exact ⟨ret_int (by rw [List.take_of_length_le (by simp)]; rfl), hb⟩

set_option maxHeartbeats 400000 in
theorem text_ref (s : ByteArray) (hs : s.size ≤ maxLen) (w : World) : Calls Try.prog 19 #[.string s] w fun e w' => e = .returned (.int .u64 (textI s.data.toList)) ∧ w = w' := by
  unfold maxLen at hs
  go_enter Try.func19, Try.ntmps19
  go_wp2_with fail
  go_loop [3, 4] (fun h i => ∃ k : Nat, k ≤ s.size ∧ i = .int .i64 k ∧ h = .int .u64 (textFold (s.data.toList.take k))) (fun _ i => s.size - (intOf i).toNat)
  case atStart => exact ⟨0, Nat.zero_le _, rfl, rfl⟩
  case round =>
    obtain ⟨k, hk, rfl, rfl⟩ := hrel
    by_cases hlt : k < s.size
    · have HS := Lib.hid (fold_snoc s k hlt)
      go_wp2
      go_round
      case rel => exact ⟨k + 1, by omega, by go_num, by rw [HS.out]⟩
      case measure => simp [intOf]; omega
    · obtain rfl : k = s.size := by omega
      go_wp2_with fail
      refine (mix_ref _ (textFold_u64 _) _).mono ?_
      rintro e w' ⟨rfl, rfl⟩
      go_wp2
      go_ret
      exact ⟨ret_int (by rw [List.take_of_length_le (by simp)]; rfl), rfl⟩

/-! ### positions and tokens -/
def positionI (r i : Int) : Int := combineI (IntKind.u64.wrap r) (IntKind.u64.wrap i)
def tokenI (m i : Int) : Int := combineI (combineI 500085515630 (IntKind.u64.wrap m)) (IntKind.u64.wrap i)

set_option maxHeartbeats 400000 in
theorem position_any (r i : Int) (w : World) : Calls Try.prog 20 #[.int .i64 r, .int .i64 i] w fun e w' => e = .returned (.int .u64 (positionI r i)) ∧ Below w.heap.size w w' := by
  go_enter Try.func20, Try.ntmps20
  go_wp2_with fail
  refine (combine_any _ _ _).mono ?_
  rintro e w' ⟨rfl, hb⟩
  go_wp2
  go_ret
  exact ⟨rfl, hb⟩
set_option maxHeartbeats 400000 in
theorem position_ref (r i : Int) (w : World) : Calls Try.prog 22 #[.int .i64 r, .int .i64 i] w fun e w' => e = .returned (.int .u64 (positionI r i)) ∧ w = w' := by
  go_enter Try.func22, Try.ntmps22
  go_wp2_with fail
  refine (combine_ref _ _ _).mono ?_
  rintro e w' ⟨rfl, rfl⟩
  go_wp2
  go_ret
  exact ⟨rfl, rfl⟩
set_option maxHeartbeats 400000 in
theorem token_any (r i : Int) (w : World) : Calls Try.prog 21 #[.int .i64 r, .int .i64 i] w fun e w' => e = .returned (.int .u64 (tokenI r i)) ∧ Below w.heap.size w w' := by
  go_enter Try.func21, Try.ntmps21
  go_wp2_with fail
  refine (combine_any _ _ _).mono ?_
  rintro e w1 ⟨rfl, hb⟩
  go_wp2_with fail
  refine (combine_any _ _ _).mono ?_
  rintro e w2 ⟨rfl, hb2⟩
  go_wp2
  go_ret
  exact ⟨rfl, hb.trans (hb2.mono hb.size)⟩
set_option maxHeartbeats 400000 in
theorem token_ref (r i : Int) (w : World) : Calls Try.prog 23 #[.int .i64 r, .int .i64 i] w fun e w' => e = .returned (.int .u64 (tokenI r i)) ∧ w = w' := by
  go_enter Try.func23, Try.ntmps23
  go_wp2_with fail
  refine (combine_ref _ _ _).mono ?_
  rintro e w1 ⟨rfl, rfl⟩
  go_wp2_with fail
  refine (combine_ref _ _ _).mono ?_
  rintro e w2 ⟨rfl, rfl⟩
  go_wp2
  go_ret
  exact ⟨rfl, rfl⟩
end HashW
end Go.Proofs.Ytbomaagbjeiliaa
