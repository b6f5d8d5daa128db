/-
  The walks over package hashing and its reference, third part: Actor.
-/
import Derived.Test.YtbomaagbjeiliaaHashWb
import Derived.Deep.RegionHeld3
import Derived.Deep.DrawnRows
namespace Go.Proofs.Ytbomaagbjeiliaa
open Hash
open Go.ChangeShapes Go.WideShapes Go.RowKit
attribute [local go_sem ↓] Go.wp_at_zero Go.wp_at_succ
namespace HashW

theorem keep_cell {W w1 : World} (hb : Below W.heap.size W w1) {p : Addr} {v : Value} (h : W.cell? p = some v) : w1.cell? p = some v :=
  (hb.cell (World.block_lt_of_cell? W p h)).trans h
theorem below_step {w W w1 : World} (h : Below w.heap.size w W) (hb : Below W.heap.size W w1) : Below w.heap.size w w1 := h.trans (hb.mono h.size)

def actorI (s t : List UInt8) : Int := combineI (textI s) (textI t)

set_option maxHeartbeats 400000 in
theorem actor_ref (s t : ByteArray) (hs : s.size ≤ maxLen) (ht : t.size ≤ maxLen) (w : World) :
    Calls Try.prog 25 #[.agg #[.string s, .string t]] w fun e w' => e = .returned (.int .u64 (actorI s.data.toList t.data.toList)) ∧ Below w.heap.size w w' := by
  go_enter Try.func25, Try.ntmps25
  go_wp2_with fail
  go_region_held3 (fun w' => w'.cell? ⟨w.heap.size, 0, none⟩ = some (.string s) ∧ w'.cell? ⟨w.heap.size, 1, none⟩ = some (.string t) ∧ Below w.heap.size w w')
    (first | assumption | (refine ⟨by simp [go_sem], by simp [go_sem], ?_⟩; repeat' (first | (with_reducible exact Below.refl _ _) | (with_reducible assumption) | (with_reducible refine Below.alloc ?_ ?_ _) | (with_reducible refine Below.drew ?_) | (with_reducible refine below_drewN ?_ _) | (with_reducible refine Below.setCell ?_ ?_ _) | go_size)))
    (first | (go_at_call 19; (with_reducible refine (text_ref _ (by assumption) _).mono ?_); rintro e w' ⟨rfl, rfl⟩) | (go_at_call 17; refine (combine_ref _ _ _).mono ?_; rintro e w' ⟨rfl, rfl⟩))
  all_goals (go_wp2; go_ret; exact ⟨rfl, by repeat' (first | (with_reducible exact Below.refl _ _) | (with_reducible assumption) | (with_reducible refine Below.alloc ?_ ?_ _) | (with_reducible refine Below.drew ?_) | (with_reducible refine below_drewN ?_ _) | (with_reducible refine Below.setCell ?_ ?_ _) | go_size)⟩)

set_option maxHeartbeats 400000 in
theorem actor_any (s t : ByteArray) (hs : s.size ≤ maxLen) (ht : t.size ≤ maxLen) (w : World) :
    Calls Try.prog 24 #[.agg #[.string s, .string t]] w fun e w' => e = .returned (.int .u64 (actorI s.data.toList t.data.toList)) ∧ Below w.heap.size w w' := by
  go_enter Try.func24, Try.ntmps24
  go_wp2_with fail
  go_region_held3 (fun w' => w'.cell? ⟨w.heap.size, 0, none⟩ = some (.string s) ∧ w'.cell? ⟨w.heap.size, 1, none⟩ = some (.string t) ∧ Below w.heap.size w w')
    (first | assumption | (refine ⟨by simp [go_sem], by simp [go_sem], ?_⟩; (repeat' (first | (with_reducible exact Below.refl _ _) | (with_reducible assumption) | (with_reducible refine Below.alloc ?_ ?_ _) | (with_reducible refine Below.drew ?_) | (with_reducible refine below_drewN ?_ _) | (with_reducible refine Below.setCell ?_ ?_ _) | go_size)); done) | (refine ⟨keep_cell hb ?_, keep_cell hb ?_, below_step ?_ hb⟩ <;> (simp [*]; done)))
    (first | (go_at_call 18; (with_reducible refine (text_any _ (by assumption) _).mono ?_); rintro e w' ⟨rfl, hb⟩) | (go_at_call 16; refine (combine_any _ _ _).mono ?_; rintro e w' ⟨rfl, hb⟩))
  all_goals (go_wp2; go_ret; refine ⟨rfl, ?_⟩; simp [*])

theorem u64_wf {x : Int} (h : (Lit.int .u64 x).wf = true) : U64 x := by
  simp [Lit.wf, IntKind.min, IntKind.max, IntKind.bits, IntKind.signed] at h
  unfold U64
  omega
theorem i64_wf {x : Int} (h : (Lit.int .i64 x).wf = true) : -9223372036854775808 ≤ x ∧ x < 9223372036854775808 := by
  simp [Lit.wf, IntKind.min, IntKind.max, IntKind.bits, IntKind.signed] at h
  omega
theorem wrap_inj {a b : Int} (ha : (Lit.int .i64 a).wf = true) (hb : (Lit.int .i64 b).wf = true) (h : IntKind.u64.wrap a = IntKind.u64.wrap b) : a = b :=
  wrap_i64_inj (i64_wf ha).1 (i64_wf ha).2 (i64_wf hb).1 (i64_wf hb).2 h
theorem same_of {a b c d : Int} (h : a = b → c = d) (k : c = d → a = b) : (a == b) = (c == d) := by
  rw [Bool.eq_iff_iff]; simp; exact ⟨h, k⟩

theorem k1 : (mixI 0 == 0) = true := by decide +kernel
theorem k2 : (mixI 11400714819323198485 == 16294208416658607535) = true := by decide +kernel
theorem k3 : (unmixI (mixI 12345) == 12345) = true := by decide +kernel
theorem k4 : (combineI 0 0 == mixI 11400714819323198485) = true := by decide +kernel
theorem k5 : (textI [] == mixI 14695981039346656037) = true := by decide +kernel

set_option maxHeartbeats 1000000 in
theorem awake_any (w : World) : Calls Try.prog 12 #[] w fun e w' => e = .returned (.bool true) ∧ Below w.heap.size w w' := by
  have e1 := k1
  have e2 := k2
  have e3 := k3
  have e4 := k4
  have e5 := k5
  go_enter Try.func12, Try.ntmps12
  go_wp2_with fail
  refine (mix_any _ (by unfold U64; omega) _).mono ?_
  rintro e w1 ⟨rfl, hb1⟩
  go_wp2_with fail
  refine (mix_any _ (by unfold U64; omega) _).mono ?_
  rintro e w2 ⟨rfl, hb2⟩
  replace hb2 := below_step hb1 hb2
  go_wp2_with fail
  refine (mix_any _ (by unfold U64; omega) _).mono ?_
  rintro e w3 ⟨rfl, hb3⟩
  replace hb3 := below_step hb2 hb3
  go_wp2_with fail
  refine (unmix_any _ (mixI_u64 (by unfold U64; omega)) _).mono ?_
  rintro e w4 ⟨rfl, hb4⟩
  replace hb4 := below_step hb3 hb4
  go_wp2_with fail
  refine (combine_any _ _ _).mono ?_
  rintro e w5 ⟨rfl, hb5⟩
  replace hb5 := below_step hb4 hb5
  go_wp2_with fail
  refine (mix_any _ (by unfold U64; omega) _).mono ?_
  rintro e w6 ⟨rfl, hb6⟩
  replace hb6 := below_step hb5 hb6
  go_wp2_with fail
  refine (text_any _ (by unfold maxLen; decide) _).mono ?_
  rintro e w7 ⟨rfl, hb7⟩
  replace hb7 := below_step hb6 hb7
  go_wp2_with fail
  refine (mix_any _ (by unfold U64; omega) _).mono ?_
  rintro e w8 ⟨rfl, hb8⟩
  replace hb8 := below_step hb7 hb8
  go_wp2_with fail
  go_ret
  exact ⟨rfl, hb8⟩

end HashW
end Go.Proofs.Ytbomaagbjeiliaa
