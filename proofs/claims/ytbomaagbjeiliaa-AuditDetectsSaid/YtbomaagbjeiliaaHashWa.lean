/-
  The walks over package hashing and its reference: what each function returns, in the words of Hash. Each leaves all that was there as it was ('Below').
-/
import Derived.Test.YtbomaagbjeiliaaProg
import Derived.Test.YtbomaagbjeiliaaHash
import Derived.Handy
import Derived.BigQuiet
import Derived.Deep.QuietTactic
import Derived.Lib.Hide
import Derived.WalkLawsBesides
import Derived.WalkSpells
namespace Go.Proofs.Ytbomaagbjeiliaa
open Hash
open Go.ChangeShapes Go.WideShapes Go.RowKit
namespace HashW

theorem below_drewN {B : Nat} {a w : World} (h : Below B a w) (n : Nat) : Below B a (w.drewN n) := ⟨h.os, h.tape, h.output, h.size, h.block⟩
theorem ret_int {k : IntKind} {a b : Int} (h : a = b) : Ending.returned (.int k a) = .returned (.int k b) := by rw [h]

set_option maxHeartbeats 400000 in
theorem mix_ref (x : Int) (hx : U64 x) (w : World) : Calls Try.prog 14 #[.int .u64 x] w fun e w' => e = .returned (.int .u64 (mixI x)) ∧ w = w' := by
  obtain ⟨h0, h1⟩ := hx
  go_enter Try.func14, Try.ntmps14
  go_wp2
  go_ret
  exact ⟨rfl, rfl⟩

set_option maxHeartbeats 400000 in
theorem mix_any (x : Int) (hx : U64 x) (w : World) : Calls Try.prog 13 #[.int .u64 x] w fun e w' => e = .returned (.int .u64 (mixI x)) ∧ Below w.heap.size w w' := by
  obtain ⟨h0, h1⟩ := hx
  go_enter Try.func13, Try.ntmps13
  go_wp2
  refine wp_loop_rounds 3 ?_
  rw [rounds_succ]
  go_wp2
  go_quiet (fail)
  go_wp2
  rw [rounds_succ]
  go_wp2
  go_quiet (fail)
  go_wp2
  rw [rounds_succ]
  go_wp2
  go_ret
  refine ⟨rfl, ?_⟩
  repeat' (first | (with_reducible exact Below.refl _ _) | (with_reducible assumption) | (with_reducible refine Below.alloc ?_ ?_ _) | (with_reducible refine Below.drew ?_) | (with_reducible refine below_drewN ?_ _) | (with_reducible refine Below.setCell ?_ ?_ _) | go_size)

set_option maxHeartbeats 400000 in
theorem unshift_31 (x : Int) (hx : U64 x) (w : World) : Calls Try.prog 40 #[.int .u64 x, .int .u64 31] w fun e w' => e = .returned (.int .u64 (unsI x 2147483648 4611686018427387904)) ∧ w = w' := by
  obtain ⟨h0, h1⟩ := hx
  go_enter Try.func40, Try.ntmps40
  go_wp2
  go_rounds 3
  go_ret
  exact ⟨rfl, rfl⟩

set_option maxHeartbeats 400000 in
theorem unshift_27 (x : Int) (hx : U64 x) (w : World) : Calls Try.prog 40 #[.int .u64 x, .int .u64 27] w fun e w' => e = .returned (.int .u64 (unsI x 134217728 18014398509481984)) ∧ w = w' := by
  obtain ⟨h0, h1⟩ := hx
  go_enter Try.func40, Try.ntmps40
  go_wp2
  go_rounds 3
  go_ret
  exact ⟨rfl, rfl⟩

set_option maxHeartbeats 400000 in
theorem unshift_30 (x : Int) (hx : U64 x) (w : World) : Calls Try.prog 40 #[.int .u64 x, .int .u64 30] w fun e w' => e = .returned (.int .u64 (unsI x 1073741824 1152921504606846976)) ∧ w = w' := by
  obtain ⟨h0, h1⟩ := hx
  go_enter Try.func40, Try.ntmps40
  go_wp2
  go_rounds 3
  go_ret
  exact ⟨rfl, rfl⟩

set_option maxHeartbeats 400000 in
theorem inverse_a (w : World) : Calls Try.prog 41 #[.int .u64 13787848793156543929] w fun e w' => e = .returned (.int .u64 10871156337175269513) ∧ w = w' := by
  go_enter Try.func41, Try.ntmps41
  go_wp2
  go_rounds 6
  go_ret
  exact ⟨rfl, rfl⟩

set_option maxHeartbeats 400000 in
theorem inverse_b (w : World) : Calls Try.prog 41 #[.int .u64 10723151780598845931] w fun e w' => e = .returned (.int .u64 3573116690164977347) ∧ w = w' := by
  go_enter Try.func41, Try.ntmps41
  go_wp2
  go_rounds 6
  go_ret
  exact ⟨rfl, rfl⟩

theorem quiet_left {P : Program} {f : FuncId} {args : Array Value} {w : World} {n : Nat} {v : Value}
    (h : Calls P f args (w.drewN n) fun e w' => e = .returned v ∧ w.drewN n = w') : Calls P f args (w.drewN n) fun e w'' => e = .returned v ∧ ∃ m, w'' = w.drewN m :=
  h.mono fun _ _ ⟨he, hm⟩ => ⟨he, n, hm.symm⟩
theorem quiet_add_left {P : Program} {f : FuncId} {args : Array Value} {w : World} {a n : Nat} {v : Value}
    (h : Calls P f args (w.drewN (a + n)) fun e w' => e = .returned v ∧ w.drewN (a + n) = w') :
    Calls P f args (w.drewN (a + n)) fun e w'' => e = .returned v ∧ ∃ m, w'' = w.drewN (a + m) :=
  h.mono fun _ _ ⟨he, hm⟩ => ⟨he, n, hm.symm⟩

set_option maxHeartbeats 400000 in
theorem unmix_any (x : Int) (hx : U64 x) (w : World) : Calls Try.prog 15 #[.int .u64 x] w fun e w' => e = .returned (.int .u64 (unmixI x)) ∧ Below w.heap.size w w' := by
  go_enter Try.func15, Try.ntmps15
  go_wp2
  refine wp_loop_rounds 3 ?_
  rw [rounds_succ]
  go_wp2
  go_quiet ((first | (go_at_call 40; exact quiet_left (unshift_31 _ hx _)) | (go_at_call 41; exact quiet_left (inverse_b _))))
  go_wp2
  rw [rounds_succ]
  go_wp2
  go_quiet ((first | (go_at_call 40; exact quiet_add_left (unshift_27 _ (U64.wrap _) _)) | (go_at_call 41; exact quiet_add_left (inverse_a _))))
  go_wp2
  rw [rounds_succ]
  go_wp2_with (go_at_call 40; refine (unshift_30 _ (U64.wrap _) _).mono ?_; rintro e w' ⟨rfl, rfl⟩)
  go_ret
  refine ⟨rfl, ?_⟩
  repeat' (first | (with_reducible exact Below.refl _ _) | (with_reducible assumption) | (with_reducible refine Below.alloc ?_ ?_ _) | (with_reducible refine Below.drew ?_) | (with_reducible refine below_drewN ?_ _) | (with_reducible refine Below.setCell ?_ ?_ _) | go_size)

end HashW
end Go.Proofs.Ytbomaagbjeiliaa
