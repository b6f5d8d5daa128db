/-
  WlBursts: where a function's model gives a value, the function returns what reads as it (printed by wip/tools/auto.py). Condition of each: the model gives a value.
-/
import Derived.Test.YtbnjdkpangmneaaWlBurstsM
import Derived.Test.YtbnjdkpangmneaaWireL
namespace Go.Proofs.Ytbnjdkpangmneaa
open Go.ChangeShapes Go.WideShapes Go.RowKit
open Abs
set_option linter.unusedVariables false
set_option linter.unusedSimpArgs false
set_option maxRecDepth 10000
namespace Md
set_option maxHeartbeats 2000000 in
theorem actorgridlaw1_WireBursts_fn (k : Nat) (a0 : UInt8) (a1 : List UInt8) (a2 : UInt16) (a3 : UInt32) (r : Bool) (h : actorgridlaw1_WireBursts k a0 a1 a2 a3 = some r) : FnC Try.prog 6 [.one (.val (.int .u8 (a0.toNat : Int))), .one (CV.ls byC a1), .one (.val (.int .u16 (a2.toNat : Int))), .one (.val (.int .u32 (a3.toNat : Int)))] [] (Det (.one (.val (.bool r))) []) := by
  unfold actorgridlaw1_WireBursts at h
  refine fn_intro' 131 Try.func6 rfl rfl rfl ?_
  refine aw_seq ?_
  refine aw_region ?_
  refine aops_step1 rfl (st_assign rfl rfl) ?_
  refine aops_nil ?_
  refine aw_seq ?_
  refine aw_seq ?_
  refine aw_region ?_
  obtain ⟨x1, hx1, h⟩ := Md.bind_s h
  refine aops_step1 rfl (ev_call_v (actorgridlaw1_awake_fn k x1 hx1) rfl [] (by repeat' (first | exact All2.nil | refine All2.cons ?_ ?_ | refine ArgV.one ?_ | refine ArgV.agg ?_ | exact ArgC.mk rfl | exact ArgC.lend rfl (by simp) | exact ArgC.le (CLe.nil _) rfl | exact ArgC.le (CLe.emp _) rfl | exact ArgC.le (CLe.any _) rfl)) rfl rfl rfl (.inl rfl) rfl) ?_
  refine aops_step1 rfl (ev_not rfl rfl) ?_
  refine aops_nil ?_
  refine aw_cond rfl (fun c2 => ?_) (fun c2 => ?_)
  · replace h := Md.cond_t h c2
    refine aw_seq ?_
    refine aw_region ?_
    refine aops_step1 rfl (st_assign rfl rfl) ?_
    refine aops_nil ?_
    cases Option.some.inj h
    refine aw_ret ⟨rfl, ret_v (.inl ⟨_, rfl, rfl, fun _ e => nomatch e⟩) rfl rfl rfl ?_⟩
    (repeat' (first | exact TLe.refl _ | exact VLe.refl _ | exact CLe.refl _ | exact All2.nil | refine TLe.tup ?_ | refine TLe.v ?_ | refine All2.cons ?_ ?_ | refine VLe.agg ?_ | refine VLe.one ?_ | exact CLe.nil _ | exact CLe.emp _ | refine CLe.val ?_ | refine CLe.slc ?_ ?_))
  replace h := Md.cond_f h c2
  refine aw_skip ?_
  refine aw_seq ?_
  refine aw_seq ?_
  refine aw_region ?_
  refine aops_step1 rfl (st_move rfl rfl) ?_
  refine aops_step1 rfl (ev_cmp rfl rfl rfl rfl) ?_
  refine aops_step1 rfl (st_move rfl rfl) ?_
  refine aops_mid 4 (⟨131, [], [(0, .one (.val (.int .u8 (a0.toNat : Int)))), (1, .one (CV.ls byC a1)), (2, .one (.val (.int .u16 (a2.toNat : Int)))), (3, .one (.val (.int .u32 (a3.toNat : Int)))), (31, .one (.val (.bool (((a0.toNat : Int) == 0) || (decide (((a1.length : Nat) : Int) < 4))))))], []⟩ : ASt) ?_ ?_
  · rcases Md.bool_or (((a0.toNat : Int) == 0)) with q3 | q3
    · skip
      refine aops_no rfl rfl rfl rfl rfl (by first | decide | (rw [q3]; decide)) ?_
      refine aops_no rfl rfl rfl rfl rfl (by first | decide | (rw [q3]; decide)) ?_
      refine aops_no rfl rfl rfl rfl rfl (by first | decide | (rw [q3]; decide)) ?_
      refine aops_step1 rfl (st_pick_yes rfl (by first | rfl | exact q3) rfl rfl) ?_
      refine aops_nil ?_
      show Weak _ _
      (refine weak_mk rfl rfl ?_ ?_ rfl <;> repeat' (first | exact trivial | refine ⟨?_, ?_⟩ | exact VLe.refl _ | exact BLe.refl _ | refine VLe.one (CLe.val ?_) | exact VLe.one (CLe.nil _) | exact VLe.one (CLe.emp _))) <;> (first | (rw [q3]; done) | (rw [q3]; rfl) | (simp [q3]; done))
    refine aops_yes rfl rfl rfl rfl q3 (st_move rfl rfl) ?_
    refine aops_yes rfl rfl rfl rfl q3 (ev_len_slc rfl rfl) ?_
    refine aops_yes rfl rfl rfl rfl q3 (ev_cmp rfl rfl rfl rfl) ?_
    refine aops_step1 rfl (st_pick_no rfl (by first | rfl | exact q3) rfl rfl) ?_
    refine aops_nil ?_
    show Weak _ _
    (refine weak_mk rfl rfl ?_ ?_ rfl <;> repeat' (first | exact trivial | refine ⟨?_, ?_⟩ | exact VLe.refl _ | exact BLe.refl _ | refine VLe.one (CLe.val ?_) | exact VLe.one (CLe.nil _) | exact VLe.one (CLe.emp _))) <;> (first | (rw [q3]; done) | (rw [q3]; rfl) | (simp [q3]; done))
  change AOps _ _ _ (⟨131, [], [(0, .one (.val (.int .u8 (a0.toNat : Int)))), (1, .one (CV.ls byC a1)), (2, .one (.val (.int .u16 (a2.toNat : Int)))), (3, .one (.val (.int .u32 (a3.toNat : Int)))), (31, .one (.val (.bool (((a0.toNat : Int) == 0) || (decide (((a1.length : Nat) : Int) < 4))))))], []⟩ : ASt) _
  refine aops_step1 rfl (st_move rfl rfl) ?_
  refine aops_mid 4 (⟨131, [], [(0, .one (.val (.int .u8 (a0.toNat : Int)))), (1, .one (CV.ls byC a1)), (2, .one (.val (.int .u16 (a2.toNat : Int)))), (3, .one (.val (.int .u32 (a3.toNat : Int)))), (36, .one (.val (.bool ((((a0.toNat : Int) == 0) || (decide (((a1.length : Nat) : Int) < 4))) || (decide (((a1.length : Nat) : Int) > 1000))))))], []⟩ : ASt) ?_ ?_
  · rcases Md.bool_or ((((a0.toNat : Int) == 0) || (decide (((a1.length : Nat) : Int) < 4)))) with q4 | q4
    · skip
      refine aops_no rfl rfl rfl rfl rfl (by first | decide | (rw [q4]; decide)) ?_
      refine aops_no rfl rfl rfl rfl rfl (by first | decide | (rw [q4]; decide)) ?_
      refine aops_no rfl rfl rfl rfl rfl (by first | decide | (rw [q4]; decide)) ?_
      refine aops_step1 rfl (st_pick_yes rfl (by first | rfl | exact q4) rfl rfl) ?_
      refine aops_nil ?_
      show Weak _ _
      (refine weak_mk rfl rfl ?_ ?_ rfl <;> repeat' (first | exact trivial | refine ⟨?_, ?_⟩ | exact VLe.refl _ | exact BLe.refl _ | refine VLe.one (CLe.val ?_) | exact VLe.one (CLe.nil _) | exact VLe.one (CLe.emp _))) <;> (first | (rw [q4]; done) | (rw [q4]; rfl) | (simp [q4]; done))
    refine aops_yes rfl rfl rfl rfl q4 (st_move rfl rfl) ?_
    refine aops_yes rfl rfl rfl rfl q4 (ev_len_slc rfl rfl) ?_
    refine aops_yes rfl rfl rfl rfl q4 (ev_cmp rfl rfl rfl rfl) ?_
    refine aops_step1 rfl (st_pick_no rfl (by first | rfl | exact q4) rfl rfl) ?_
    refine aops_nil ?_
    show Weak _ _
    (refine weak_mk rfl rfl ?_ ?_ rfl <;> repeat' (first | exact trivial | refine ⟨?_, ?_⟩ | exact VLe.refl _ | exact BLe.refl _ | refine VLe.one (CLe.val ?_) | exact VLe.one (CLe.nil _) | exact VLe.one (CLe.emp _))) <;> (first | (rw [q4]; done) | (rw [q4]; rfl) | (simp [q4]; done))
  change AOps _ _ _ (⟨131, [], [(0, .one (.val (.int .u8 (a0.toNat : Int)))), (1, .one (CV.ls byC a1)), (2, .one (.val (.int .u16 (a2.toNat : Int)))), (3, .one (.val (.int .u32 (a3.toNat : Int)))), (36, .one (.val (.bool ((((a0.toNat : Int) == 0) || (decide (((a1.length : Nat) : Int) < 4))) || (decide (((a1.length : Nat) : Int) > 1000))))))], []⟩ : ASt) _
  refine aops_step1 rfl (st_move rfl rfl) ?_
  refine aops_mid 3 (⟨131, [], [(0, .one (.val (.int .u8 (a0.toNat : Int)))), (1, .one (CV.ls byC a1)), (2, .one (.val (.int .u16 (a2.toNat : Int)))), (3, .one (.val (.int .u32 (a3.toNat : Int)))), (40, .one (.val (.bool (((((a0.toNat : Int) == 0) || (decide (((a1.length : Nat) : Int) < 4))) || (decide (((a1.length : Nat) : Int) > 1000))) || ((a3.toNat : Int) == 0)))))], []⟩ : ASt) ?_ ?_
  · rcases Md.bool_or (((((a0.toNat : Int) == 0) || (decide (((a1.length : Nat) : Int) < 4))) || (decide (((a1.length : Nat) : Int) > 1000)))) with q5 | q5
    · skip
      refine aops_no rfl rfl rfl rfl rfl (by first | decide | (rw [q5]; decide)) ?_
      refine aops_no rfl rfl rfl rfl rfl (by first | decide | (rw [q5]; decide)) ?_
      refine aops_step1 rfl (st_pick_yes rfl (by first | rfl | exact q5) rfl rfl) ?_
      refine aops_nil ?_
      show Weak _ _
      (refine weak_mk rfl rfl ?_ ?_ rfl <;> repeat' (first | exact trivial | refine ⟨?_, ?_⟩ | exact VLe.refl _ | exact BLe.refl _ | refine VLe.one (CLe.val ?_) | exact VLe.one (CLe.nil _) | exact VLe.one (CLe.emp _))) <;> (first | (rw [q5]; done) | (rw [q5]; rfl) | (simp [q5]; done))
    refine aops_yes rfl rfl rfl rfl q5 (st_move rfl rfl) ?_
    refine aops_yes rfl rfl rfl rfl q5 (ev_cmp rfl rfl rfl rfl) ?_
    refine aops_step1 rfl (st_pick_no rfl (by first | rfl | exact q5) rfl rfl) ?_
    refine aops_nil ?_
    show Weak _ _
    (refine weak_mk rfl rfl ?_ ?_ rfl <;> repeat' (first | exact trivial | refine ⟨?_, ?_⟩ | exact VLe.refl _ | exact BLe.refl _ | refine VLe.one (CLe.val ?_) | exact VLe.one (CLe.nil _) | exact VLe.one (CLe.emp _))) <;> (first | (rw [q5]; done) | (rw [q5]; rfl) | (simp [q5]; done))
  change AOps _ _ _ (⟨131, [], [(0, .one (.val (.int .u8 (a0.toNat : Int)))), (1, .one (CV.ls byC a1)), (2, .one (.val (.int .u16 (a2.toNat : Int)))), (3, .one (.val (.int .u32 (a3.toNat : Int)))), (40, .one (.val (.bool (((((a0.toNat : Int) == 0) || (decide (((a1.length : Nat) : Int) < 4))) || (decide (((a1.length : Nat) : Int) > 1000))) || ((a3.toNat : Int) == 0)))))], []⟩ : ASt) _
  refine aops_nil ?_
  refine aw_cond rfl (fun c6 => ?_) (fun c6 => ?_)
  · replace h := Md.cond_t h c6
    refine aw_seq ?_
    refine aw_region ?_
    refine aops_step1 rfl (st_assign rfl rfl) ?_
    refine aops_nil ?_
    cases Option.some.inj h
    refine aw_ret ⟨rfl, ret_v (.inl ⟨_, rfl, rfl, fun _ e => nomatch e⟩) rfl rfl rfl ?_⟩
    (repeat' (first | exact TLe.refl _ | exact VLe.refl _ | exact CLe.refl _ | exact All2.nil | refine TLe.tup ?_ | refine TLe.v ?_ | refine All2.cons ?_ ?_ | refine VLe.agg ?_ | refine VLe.one ?_ | exact CLe.nil _ | exact CLe.emp _ | refine CLe.val ?_ | refine CLe.slc ?_ ?_))
  replace h := Md.cond_f h c6
  refine aw_skip ?_
  refine aw_seq ?_
  refine aw_region ?_
  refine aops_step1 rfl (st_move rfl rfl) ?_
  refine aops_step1 rfl (st_conv_int rfl rfl Try.underlying5 Try.underlying3 (Md.conv_u8_i64 a0)) ?_
  refine aops_step1 rfl (st_move rfl rfl) ?_
  obtain ⟨x7, hx7, h⟩ := Md.bind_s h
  refine aops_step1 rfl (ev_call_v (wire_Seal_fn k ((a0.toNat : Nat) : Int) a1 x7 hx7) rfl [] (by repeat' (first | exact All2.nil | refine All2.cons ?_ ?_ | refine ArgV.one ?_ | refine ArgV.agg ?_ | exact ArgC.mk rfl | exact ArgC.lend rfl (by simp) | exact ArgC.le (CLe.nil _) rfl | exact ArgC.le (CLe.emp _) rfl | exact ArgC.le (CLe.any _) rfl)) rfl rfl rfl (.inl rfl) rfl) ?_
  refine aops_step1 rfl (st_movet rfl rfl) ?_
  refine aops_step1 rfl (ev_extract rfl rfl rfl) ?_
  refine aops_step1 rfl (ev_extract rfl rfl rfl) ?_
  refine aops_step1 rfl (st_assign rfl rfl) ?_
  refine aops_step1 rfl (st_assign rfl rfl) ?_
  refine aops_nil ?_
  refine aw_seq ?_
  refine aw_region ?_
  refine aops_step1 rfl (st_move rfl rfl) ?_
  obtain ⟨x8, hx8, h⟩ := Md.bind_s h
  refine aops_step1 rfl (ev_call_v (wire_Open_fn k x7.1 x8 hx8) rfl [] (by repeat' (first | exact All2.nil | refine All2.cons ?_ ?_ | refine ArgV.one ?_ | refine ArgV.agg ?_ | exact ArgC.mk rfl | exact ArgC.lend rfl (by simp) | exact ArgC.le (CLe.nil _) rfl | exact ArgC.le (CLe.emp _) rfl | exact ArgC.le (CLe.any _) rfl)) rfl rfl rfl (.inl rfl) rfl) ?_
  refine aops_step1 rfl (st_movet rfl rfl) ?_
  refine aops_step1 rfl (ev_extract rfl rfl rfl) ?_
  refine aops_step1 rfl (ev_extract rfl rfl rfl) ?_
  refine aops_step1 rfl (ev_extract rfl rfl rfl) ?_
  refine aops_step1 rfl (ev_extract rfl rfl rfl) ?_
  refine aops_step1 rfl (st_assign rfl rfl) ?_
  refine aops_step1 rfl (st_assign rfl rfl) ?_
  refine aops_step1 rfl (st_assign rfl rfl) ?_
  refine aops_step1 rfl (st_assign rfl rfl) ?_
  refine aops_nil ?_
  refine aw_seq ?_
  refine aw_seq ?_
  refine aw_region ?_
  refine aops_step1 rfl (st_move rfl rfl) ?_
  refine aops_step1 rfl (ev_cmp rfl rfl rfl rfl) ?_
  refine aops_step1 rfl (st_move rfl rfl) ?_
  refine aops_mid 3 (⟨131, [], [(1, .one (CV.ls byC a1)), (2, .one (.val (.int .u16 (a2.toNat : Int)))), (3, .one (.val (.int .u32 (a3.toNat : Int)))), (9, .one (CV.ls byC x7.1)), (13, .one (.val (.int .i64 x8.2.2.1))), (60, .one (.val (.bool ((x7.2 != 0) || (x8.2.2.2 != 0)))))], []⟩ : ASt) ?_ ?_
  · rcases Md.bool_or ((x7.2 != 0)) with q9 | q9
    · skip
      refine aops_no rfl rfl rfl rfl rfl (by first | decide | (rw [q9]; decide)) ?_
      refine aops_no rfl rfl rfl rfl rfl (by first | decide | (rw [q9]; decide)) ?_
      refine aops_step1 rfl (st_pick_yes rfl (by first | rfl | exact q9) rfl rfl) ?_
      refine aops_nil ?_
      show Weak _ _
      (refine weak_mk rfl rfl ?_ ?_ rfl <;> repeat' (first | exact trivial | refine ⟨?_, ?_⟩ | exact VLe.refl _ | exact BLe.refl _ | refine VLe.one (CLe.val ?_) | exact VLe.one (CLe.nil _) | exact VLe.one (CLe.emp _))) <;> (first | (rw [q9]; done) | (rw [q9]; rfl) | (simp [q9]; done))
    refine aops_yes rfl rfl rfl rfl q9 (st_move rfl rfl) ?_
    refine aops_yes rfl rfl rfl rfl q9 (ev_cmp rfl rfl rfl rfl) ?_
    refine aops_step1 rfl (st_pick_no rfl (by first | rfl | exact q9) rfl rfl) ?_
    refine aops_nil ?_
    show Weak _ _
    (refine weak_mk rfl rfl ?_ ?_ rfl <;> repeat' (first | exact trivial | refine ⟨?_, ?_⟩ | exact VLe.refl _ | exact BLe.refl _ | refine VLe.one (CLe.val ?_) | exact VLe.one (CLe.nil _) | exact VLe.one (CLe.emp _))) <;> (first | (rw [q9]; done) | (rw [q9]; rfl) | (simp [q9]; done))
  change AOps _ _ _ (⟨131, [], [(1, .one (CV.ls byC a1)), (2, .one (.val (.int .u16 (a2.toNat : Int)))), (3, .one (.val (.int .u32 (a3.toNat : Int)))), (9, .one (CV.ls byC x7.1)), (13, .one (.val (.int .i64 x8.2.2.1))), (60, .one (.val (.bool ((x7.2 != 0) || (x8.2.2.2 != 0)))))], []⟩ : ASt) _
  refine aops_step1 rfl (st_move rfl rfl) ?_
  refine aops_mid 5 (⟨131, [], [(1, .one (CV.ls byC a1)), (2, .one (.val (.int .u16 (a2.toNat : Int)))), (3, .one (.val (.int .u32 (a3.toNat : Int)))), (9, .one (CV.ls byC x7.1)), (66, .one (.val (.bool (((x7.2 != 0) || (x8.2.2.2 != 0)) || (x8.2.2.1 != ((x7.1.length : Nat) : Int))))))], []⟩ : ASt) ?_ ?_
  · rcases Md.bool_or (((x7.2 != 0) || (x8.2.2.2 != 0))) with q10 | q10
    · skip
      refine aops_no rfl rfl rfl rfl rfl (by first | decide | (rw [q10]; decide)) ?_
      refine aops_no rfl rfl rfl rfl rfl (by first | decide | (rw [q10]; decide)) ?_
      refine aops_no rfl rfl rfl rfl rfl (by first | decide | (rw [q10]; decide)) ?_
      refine aops_no rfl rfl rfl rfl rfl (by first | decide | (rw [q10]; decide)) ?_
      refine aops_step1 rfl (st_pick_yes rfl (by first | rfl | exact q10) rfl rfl) ?_
      refine aops_nil ?_
      show Weak _ _
      (refine weak_mk rfl rfl ?_ ?_ rfl <;> repeat' (first | exact trivial | refine ⟨?_, ?_⟩ | exact VLe.refl _ | exact BLe.refl _ | refine VLe.one (CLe.val ?_) | exact VLe.one (CLe.nil _) | exact VLe.one (CLe.emp _))) <;> (first | (rw [q10]; done) | (rw [q10]; rfl) | (simp [q10]; done))
    refine aops_yes rfl rfl rfl rfl q10 (st_move rfl rfl) ?_
    refine aops_yes rfl rfl rfl rfl q10 (st_move rfl rfl) ?_
    refine aops_yes rfl rfl rfl rfl q10 (ev_len_slc rfl rfl) ?_
    refine aops_yes rfl rfl rfl rfl q10 (ev_cmp rfl rfl rfl rfl) ?_
    refine aops_step1 rfl (st_pick_no rfl (by first | rfl | exact q10) rfl rfl) ?_
    refine aops_nil ?_
    show Weak _ _
    (refine weak_mk rfl rfl ?_ ?_ rfl <;> repeat' (first | exact trivial | refine ⟨?_, ?_⟩ | exact VLe.refl _ | exact BLe.refl _ | refine VLe.one (CLe.val ?_) | exact VLe.one (CLe.nil _) | exact VLe.one (CLe.emp _))) <;> (first | (rw [q10]; done) | (rw [q10]; rfl) | (simp [q10]; done))
  change AOps _ _ _ (⟨131, [], [(1, .one (CV.ls byC a1)), (2, .one (.val (.int .u16 (a2.toNat : Int)))), (3, .one (.val (.int .u32 (a3.toNat : Int)))), (9, .one (CV.ls byC x7.1)), (66, .one (.val (.bool (((x7.2 != 0) || (x8.2.2.2 != 0)) || (x8.2.2.1 != ((x7.1.length : Nat) : Int))))))], []⟩ : ASt) _
  refine aops_step1 rfl (st_move rfl rfl) ?_
  obtain ⟨o11, j11, h⟩ := Md.bind_s h
  refine aops_cut 7 (ε := Bool) (fun x11 => (⟨131, [], [(1, .one (CV.ls byC a1)), (2, .one (.val (.int .u16 (a2.toNat : Int)))), (3, .one (.val (.int .u32 (a3.toNat : Int)))), (9, .one (CV.ls byC x7.1)), (74, .one (.val (.bool x11)))], []⟩ : ASt)) (fun x11 => x11 = o11) ?_ ?_
  · intro x11 hI11
    subst hI11
    change AOps _ _ _ (⟨131, [], [(1, .one (CV.ls byC a1)), (2, .one (.val (.int .u16 (a2.toNat : Int)))), (3, .one (.val (.int .u32 (a3.toNat : Int)))), (9, .one (CV.ls byC x7.1)), (74, .one (.val (.bool x11)))], []⟩ : ASt) _
    refine aops_nil ?_
    refine aw_cond rfl (fun c12 => ?_) (fun c12 => ?_)
    · replace h := Md.cond_t h c12
      refine aw_seq ?_
      refine aw_region ?_
      refine aops_step1 rfl (st_assign rfl rfl) ?_
      refine aops_nil ?_
      cases Option.some.inj h
      refine aw_ret ⟨rfl, ret_v (.inl ⟨_, rfl, rfl, fun _ e => nomatch e⟩) rfl rfl rfl ?_⟩
      (repeat' (first | exact TLe.refl _ | exact VLe.refl _ | exact CLe.refl _ | exact All2.nil | refine TLe.tup ?_ | refine TLe.v ?_ | refine All2.cons ?_ ?_ | refine VLe.agg ?_ | refine VLe.one ?_ | exact CLe.nil _ | exact CLe.emp _ | refine CLe.val ?_ | refine CLe.slc ?_ ?_))
    replace h := Md.cond_f h c12
    refine aw_skip ?_
    refine aw_seq ?_
    refine aw_region ?_
    refine aops_step1 rfl (st_move rfl rfl) ?_
    refine aops_step1 rfl (ev_len_slc rfl rfl) ?_
    refine aops_step1 rfl (ev_sub rfl rfl rfl (Md.wrap_W _)) ?_
    refine aops_step1 rfl (st_move rfl rfl) ?_
    refine aops_step1 rfl (ev_len_slc rfl rfl) ?_
    refine aops_step1 rfl (ev_sub rfl rfl rfl (Md.wrap_W _)) ?_
    refine aops_step1 rfl (st_assign rfl rfl) ?_
    refine aops_nil ?_
    refine aw_seq ?_
    refine aw_region ?_
    refine aops_step1 rfl (st_move rfl rfl) ?_
    refine aops_step1 rfl (st_conv_int rfl rfl Try.underlying53 Try.underlying3 (Md.conv_u16_i64 a2)) ?_
    refine aops_step1 rfl (st_move rfl rfl) ?_
    refine aops_step1 rfl (ev_len_slc rfl rfl) ?_
    obtain ⟨g13, h⟩ := Md.ifp_s h
    refine aops_step1 rfl (ev_mul rfl rfl rfl (Md.nat_mul g13)) ?_
    refine aops_step1 rfl (ev_sub rfl rfl rfl (Md.wrap_W _)) ?_
    obtain ⟨g14, h⟩ := Md.ifp_s h
    refine aops_step1 rfl (ev_rem rfl rfl rfl g14 rfl) ?_
    refine aops_step1 rfl (st_assign rfl rfl) ?_
    refine aops_nil ?_
    refine aw_seq ?_
    refine aw_region ?_
    refine aops_step1 rfl (st_slice_lit (el := lsEl byC ([] : List UInt8)) 0 rfl rfl rfl rfl rfl rfl rfl rfl (lit_el byC 1 ([] : List UInt8) (fun _ => rfl)) rfl) ?_
    refine aops_step1 rfl (st_move rfl rfl) ?_
    obtain ⟨g15, h⟩ := Md.ifp_s h
    refine aops_step1 rfl (st_app_ls (f := byC) ([] : List UInt8) x7.1 (fun _ => rfl) rfl rfl (.inl rfl) (by omega) (by omega) rfl) ?_
    refine aops_step1 rfl (st_assign rfl rfl) ?_
    refine aops_nil ?_
    refine aw_seq ?_
    refine aw_seq ?_
    refine aw_region ?_
    refine aops_step1 rfl (st_assign rfl rfl) ?_
    refine aops_nil ?_
    refine aw_block ?_
    obtain ⟨o16, ho16, h⟩ := Md.bind_s h
    refine aw_loop_x (ι := {p : Nat × Nat × (List UInt8) // actorgridlaw1_WireBursts_loop1 k a1 a2 a3 x7 p.1 p.2.1 p.2.2 = some o16}) (fun p => (⟨131, [], [(3, .one (.val (.int .u32 (a3.toNat : Int)))), (15, .one (.val (.int .i64 (Md.W ((Md.W (((x7.1.length : Nat) : Int) - 4)) - ((a1.length : Nat) : Int)))))), (16, .one (.val (.int .i64 (((a2.toNat : Nat) : Int).tmod (Md.W ((((8 * a1.length) : Nat) : Int) - 31)))))), (17, .one (.own 0)), (18, .one (.val (.int .i64 ((p.1.2.1 : Nat) : Int))))], [(0, some (.row 5 1 p.1.2.2.length (lsEl byC p.1.2.2)))]⟩ : ASt)) (fun p => p.1.1) ⟨(k, 0, (([] : List UInt8) ++ x7.1)), ho16⟩ (by (refine weak_mk rfl rfl ?_ ?_ rfl <;> repeat' (first | exact trivial | refine ⟨?_, ?_⟩ | exact VLe.refl _ | exact BLe.refl _ | refine VLe.one (CLe.val ?_) | exact VLe.one (CLe.nil _) | exact VLe.one (CLe.emp _)))) 0 (ε := (List UInt8)) (fun x => (⟨131, [], [(17, .one (.own 0))], [(0, some (.row 5 1 x.length (lsEl byC x)))]⟩ : ASt)) (fun x => x = o16) (fun _ _ w h => aw_weak w h) ?_ ?_
    · intro x16_0 hI16
      subst hI16
      change AW _ _ (⟨131, [], [(17, .one (.own 0))], [(0, some (.row 5 1 x16_0.length (lsEl byC x16_0)))]⟩ : ASt) _
      refine aw_seq ?_
      refine aw_region ?_
      refine aops_step1 rfl (st_move rfl rfl) ?_
      obtain ⟨x17, hx17, h⟩ := Md.bind_s h
      refine aops_freeze 0 rfl ?_
      refine aops_step1 rfl (ev_call_v (wire_Open_fn k x16_0 x17 hx17) rfl [] (by repeat' (first | exact All2.nil | refine All2.cons ?_ ?_ | refine ArgV.one ?_ | refine ArgV.agg ?_ | exact ArgC.mk rfl | exact ArgC.lend rfl (by simp) | exact ArgC.le (CLe.nil _) rfl | exact ArgC.le (CLe.emp _) rfl | exact ArgC.le (CLe.any _) rfl)) rfl rfl rfl (.inl rfl) rfl) ?_
      refine aops_step1 rfl (st_movet rfl rfl) ?_
      refine aops_step1 rfl (ev_extract rfl rfl rfl) ?_
      refine aops_step1 rfl (ev_extract rfl rfl rfl) ?_
      refine aops_step1 rfl (ev_extract rfl rfl rfl) ?_
      refine aops_step1 rfl (ev_extract rfl rfl rfl) ?_
      refine aops_step1 rfl (st_assign rfl rfl) ?_
      refine aops_step1 rfl (st_assign rfl rfl) ?_
      refine aops_step1 rfl (st_assign rfl rfl) ?_
      refine aops_step1 rfl (st_assign rfl rfl) ?_
      refine aops_nil ?_
      refine aw_seq ?_
      refine aw_region ?_
      refine aops_step1 rfl (st_move rfl rfl) ?_
      refine aops_step1 rfl (ev_cmp rfl rfl rfl rfl) ?_
      refine aops_step1 rfl (st_move rfl rfl) ?_
      refine aops_mid 3 (⟨131, [], [(130, .one (.val (.bool ((x17.2.2.2 == 4) && (x17.2.2.1 == 0)))))], []⟩ : ASt) ?_ ?_
      · rcases Md.bool_or ((x17.2.2.2 == 4)) with q18 | q18
        · skip
          refine aops_yes rfl rfl rfl rfl q18 (st_move rfl rfl) ?_
          refine aops_yes rfl rfl rfl rfl q18 (ev_cmp rfl rfl rfl rfl) ?_
          refine aops_step1 rfl (st_pick_yes rfl (by first | rfl | exact q18) rfl rfl) ?_
          refine aops_nil ?_
          show Weak _ _
          (refine weak_mk rfl rfl ?_ ?_ rfl <;> repeat' (first | exact trivial | refine ⟨?_, ?_⟩ | exact VLe.refl _ | exact BLe.refl _ | refine VLe.one (CLe.val ?_) | exact VLe.one (CLe.nil _) | exact VLe.one (CLe.emp _))) <;> (first | (rw [q18]; done) | (rw [q18]; rfl) | (simp [q18]; done))
        refine aops_no rfl rfl rfl rfl rfl (by first | decide | (rw [q18]; decide)) ?_
        refine aops_no rfl rfl rfl rfl rfl (by first | decide | (rw [q18]; decide)) ?_
        refine aops_step1 rfl (st_pick_no rfl (by first | rfl | exact q18) rfl rfl) ?_
        refine aops_nil ?_
        show Weak _ _
        (refine weak_mk rfl rfl ?_ ?_ rfl <;> repeat' (first | exact trivial | refine ⟨?_, ?_⟩ | exact VLe.refl _ | exact BLe.refl _ | refine VLe.one (CLe.val ?_) | exact VLe.one (CLe.nil _) | exact VLe.one (CLe.emp _))) <;> (first | (rw [q18]; done) | (rw [q18]; rfl) | (simp [q18]; done))
      change AOps _ _ _ (⟨131, [], [(130, .one (.val (.bool ((x17.2.2.2 == 4) && (x17.2.2.1 == 0)))))], []⟩ : ASt) _
      refine aops_step1 rfl (st_assign rfl rfl) ?_
      refine aops_nil ?_
      cases Option.some.inj h
      refine aw_ret ⟨rfl, ret_v (.inl ⟨_, rfl, rfl, fun _ e => nomatch e⟩) rfl rfl rfl ?_⟩
      (repeat' (first | exact TLe.refl _ | exact VLe.refl _ | exact CLe.refl _ | exact All2.nil | refine TLe.tup ?_ | refine TLe.v ?_ | refine All2.cons ?_ ?_ | refine VLe.agg ?_ | refine VLe.one ?_ | exact CLe.nil _ | exact CLe.emp _ | refine CLe.val ?_ | refine CLe.slc ?_ ?_))
    intro p16
    obtain ⟨⟨n16, s16_0, s16_1⟩, l16⟩ := p16
    change AW _ _ (⟨131, [], [(3, .one (.val (.int .u32 (a3.toNat : Int)))), (15, .one (.val (.int .i64 (Md.W ((Md.W (((x7.1.length : Nat) : Int) - 4)) - ((a1.length : Nat) : Int)))))), (16, .one (.val (.int .i64 (((a2.toNat : Nat) : Int).tmod (Md.W ((((8 * a1.length) : Nat) : Int) - 31)))))), (17, .one (.own 0)), (18, .one (.val (.int .i64 ((s16_0 : Nat) : Int))))], [(0, some (.row 5 1 s16_1.length (lsEl byC s16_1)))]⟩ : ASt) _
    replace l16 : actorgridlaw1_WireBursts_loop1 k a1 a2 a3 x7 n16 s16_0 s16_1 = some o16 := l16
    rcases n16 with _ | n16
    · exact absurd (show none = some o16 from l16) nofun
    rw [actorgridlaw1_WireBursts_loop1] at l16
    refine aw_seq ?_
    refine aw_seq ?_
    refine aw_region ?_
    refine aops_step1 rfl (st_move rfl rfl) ?_
    refine aops_step1 rfl (ev_cmp rfl rfl rfl rfl) ?_
    refine aops_nil ?_
    refine aw_cond rfl (fun c19 => ?_) (fun c19 => ?_)
    · replace l16 := Md.cond_t l16 c19
      refine aw_skip ?_
      obtain ⟨o20, j20, l16⟩ := Md.bind_s l16
      refine aw_cut (ε := (List UInt8)) (fun x => (⟨131, [], [(3, .one (.val (.int .u32 (a3.toNat : Int)))), (15, .one (.val (.int .i64 (Md.W ((Md.W (((x7.1.length : Nat) : Int) - 4)) - ((a1.length : Nat) : Int)))))), (16, .one (.val (.int .i64 (((a2.toNat : Nat) : Int).tmod (Md.W ((((8 * a1.length) : Nat) : Int) - 31)))))), (17, .one (.own 0)), (18, .one (.val (.int .i64 ((s16_0 : Nat) : Int))))], [(0, some (.row 5 1 x.length (lsEl byC x)))]⟩ : ASt)) (fun x => x = o20) ?_ ?_
      · intro x20_0 hI20
        subst hI20
        change AW _ _ (⟨131, [], [(3, .one (.val (.int .u32 (a3.toNat : Int)))), (15, .one (.val (.int .i64 (Md.W ((Md.W (((x7.1.length : Nat) : Int) - 4)) - ((a1.length : Nat) : Int)))))), (16, .one (.val (.int .i64 (((a2.toNat : Nat) : Int).tmod (Md.W ((((8 * a1.length) : Nat) : Int) - 31)))))), (17, .one (.own 0)), (18, .one (.val (.int .i64 ((s16_0 : Nat) : Int))))], [(0, some (.row 5 1 x20_0.length (lsEl byC x20_0)))]⟩ : ASt) _
        refine aw_region ?_
        refine aops_step1 rfl (st_move rfl rfl) ?_
        obtain ⟨g21, l16⟩ := Md.ifp_s l16
        refine aops_step1 rfl (ev_add rfl rfl rfl (Md.nat_add g21)) ?_
        refine aops_step1 rfl (st_assign rfl rfl) ?_
        refine aops_nil ?_
        exact ⟨⟨(n16, (s16_0 + 1), x20_0), l16⟩, Nat.lt_succ_self _, (by (refine weak_mk rfl rfl ?_ ?_ rfl <;> repeat' (first | exact trivial | refine ⟨?_, ?_⟩ | exact VLe.refl _ | exact BLe.refl _ | refine VLe.one (CLe.val ?_) | exact VLe.one (CLe.nil _) | exact VLe.one (CLe.emp _))))⟩
      refine aw_block ?_
      refine aw_seq ?_
      refine aw_region ?_
      refine aops_step1 rfl (st_move rfl rfl) ?_
      refine aops_step1 rfl (st_move rfl rfl) ?_
      refine aops_step1 rfl (st_conv_int rfl rfl Try.underlying3 Try.underlying59 (Md.ofNat_u64 s16_0)) ?_
      refine aops_step1 rfl (ev_shr rfl rfl rfl (Md.nn _) (Md.shr_u32 a3 (Md.nat_toNat ((UInt64.ofNat s16_0).toNat)))) ?_
      refine aops_step1 rfl (ev_rem rfl rfl rfl (by decide) (Md.rem_u32 (Md.shr32 a3 ((UInt64.ofNat s16_0).toNat)) (2 : UInt32))) ?_
      refine aops_step1 rfl (ev_cmp rfl rfl rfl rfl) ?_
      refine aops_nil ?_
      refine aw_cond rfl (fun c22 => ?_) (fun c22 => ?_)
      · replace j20 := Md.cond_t j20 c22
        refine aw_region ?_
        refine aops_step1 rfl (st_move rfl rfl) ?_
        refine aops_step1 rfl (st_move rfl rfl) ?_
        refine aops_step1 rfl (st_move rfl rfl) ?_
        refine aops_step1 rfl (st_move rfl rfl) ?_
        refine aops_step1 rfl (ev_add rfl rfl rfl (Md.wrap_W _)) ?_
        refine aops_step1 rfl (ev_quo rfl rfl rfl (by decide) (Md.wrap_W _)) ?_
        refine aops_step1 rfl (ev_add rfl rfl rfl (Md.wrap_W _)) ?_
        obtain ⟨g23, j20⟩ := Md.ifp_s j20
        refine aops_step1 rfl (ev_index_row rfl rfl rfl (Md.idx_eq g23) (Md.idx_lt g23) rfl) ?_
        refine aops_step1 rfl (st_load_row rfl rfl (Md.idx_lt g23) rfl rfl) ?_
        refine aops_step1 rfl (st_move rfl rfl) ?_
        refine aops_step1 rfl (st_move rfl rfl) ?_
        refine aops_step1 rfl (ev_add rfl rfl rfl (Md.wrap_W _)) ?_
        refine aops_step1 rfl (ev_rem rfl rfl rfl (by decide) rfl) ?_
        refine aops_step1 rfl (st_conv_int rfl rfl Try.underlying3 Try.underlying59 (Md.ofInt_u64 ((Md.W ((((a2.toNat : Nat) : Int).tmod (Md.W ((((8 * a1.length) : Nat) : Int) - 31))) + ((s16_0 : Nat) : Int))).tmod 8))) ?_
        refine aops_step1 rfl (ev_shl rfl rfl rfl (Md.nn _) (Md.shl_u8 (1 : UInt8) (Md.nat_toNat ((UInt64.ofInt ((Md.W ((((a2.toNat : Nat) : Int).tmod (Md.W ((((8 * a1.length) : Nat) : Int) - 31))) + ((s16_0 : Nat) : Int))).tmod 8)).toNat)))) ?_
        refine aops_step1 rfl (ev_bits rfl rfl rfl rfl (Md.xor_u8 (s16_1.getD (((Md.W ((Md.W ((Md.W (((x7.1.length : Nat) : Int) - 4)) - ((a1.length : Nat) : Int))) + (Md.W ((Md.W ((((a2.toNat : Nat) : Int).tmod (Md.W ((((8 * a1.length) : Nat) : Int) - 31))) + ((s16_0 : Nat) : Int))).tdiv 8))))).toNat) default) (Md.shl8 (1 : UInt8) ((UInt64.ofInt ((Md.W ((((a2.toNat : Nat) : Int).tmod (Md.W ((((8 * a1.length) : Nat) : Int) - 31))) + ((s16_0 : Nat) : Int))).tmod 8)).toNat)))) ?_
        obtain ⟨g24, j20⟩ := Md.ifp_s j20
        refine aops_step1 rfl (ev_index_row rfl rfl rfl (Md.idx_eq g24) (Md.idx_lt g24) rfl) ?_
        refine aops_step1 rfl (st_store_row (l := s16_1) ((s16_1.getD (((Md.W ((Md.W ((Md.W (((x7.1.length : Nat) : Int) - 4)) - ((a1.length : Nat) : Int))) + (Md.W ((Md.W ((((a2.toNat : Nat) : Int).tmod (Md.W ((((8 * a1.length) : Nat) : Int) - 31))) + ((s16_0 : Nat) : Int))).tdiv 8))))).toNat) default) ^^^ (Md.shl8 (1 : UInt8) ((UInt64.ofInt ((Md.W ((((a2.toNat : Nat) : Int).tmod (Md.W ((((8 * a1.length) : Nat) : Int) - 31))) + ((s16_0 : Nat) : Int))).tmod 8)).toNat))) (fun _ => rfl) rfl rfl (Md.idx_lt g24) rfl rfl rfl rfl rfl) ?_
        refine aops_nil ?_
        show ∃ _x : (List UInt8), _ = _ ∧ Weak _ _
        exact ⟨(s16_1.set (((Md.W ((Md.W ((Md.W (((x7.1.length : Nat) : Int) - 4)) - ((a1.length : Nat) : Int))) + (Md.W ((Md.W ((((a2.toNat : Nat) : Int).tmod (Md.W ((((8 * a1.length) : Nat) : Int) - 31))) + ((s16_0 : Nat) : Int))).tdiv 8))))).toNat) ((s16_1.getD (((Md.W ((Md.W ((Md.W (((x7.1.length : Nat) : Int) - 4)) - ((a1.length : Nat) : Int))) + (Md.W ((Md.W ((((a2.toNat : Nat) : Int).tmod (Md.W ((((8 * a1.length) : Nat) : Int) - 31))) + ((s16_0 : Nat) : Int))).tdiv 8))))).toNat) default) ^^^ (Md.shl8 (1 : UInt8) ((UInt64.ofInt ((Md.W ((((a2.toNat : Nat) : Int).tmod (Md.W ((((8 * a1.length) : Nat) : Int) - 31))) + ((s16_0 : Nat) : Int))).tmod 8)).toNat)))), Option.some.inj j20, (by (refine weak_mk rfl rfl ?_ ?_ rfl <;> repeat' (first | exact trivial | refine ⟨?_, ?_⟩ | exact VLe.refl _ | exact BLe.refl _ | refine VLe.one (CLe.val ?_) | exact VLe.one (CLe.nil _) | exact VLe.one (CLe.emp _))))⟩
      replace j20 := Md.cond_f j20 c22
      refine aw_skip ?_
      show ∃ _x : (List UInt8), _ = _ ∧ Weak _ _
      exact ⟨s16_1, Option.some.inj j20, (by (refine weak_mk rfl rfl ?_ ?_ rfl <;> repeat' (first | exact trivial | refine ⟨?_, ?_⟩ | exact VLe.refl _ | exact BLe.refl _ | refine VLe.one (CLe.val ?_) | exact VLe.one (CLe.nil _) | exact VLe.one (CLe.emp _))))⟩
    replace l16 := Md.cond_f l16 c19
    refine aw_exit ?_
    show ∃ _x : (List UInt8), _ = _ ∧ Weak _ _
    exact ⟨s16_1, Option.some.inj l16, (by (refine weak_mk rfl rfl ?_ ?_ rfl <;> repeat' (first | exact trivial | refine ⟨?_, ?_⟩ | exact VLe.refl _ | exact BLe.refl _ | refine VLe.one (CLe.val ?_) | exact VLe.one (CLe.nil _) | exact VLe.one (CLe.emp _))))⟩
  rcases Md.bool_or ((((x7.2 != 0) || (x8.2.2.2 != 0)) || (x8.2.2.1 != ((x7.1.length : Nat) : Int)))) with q11 | q11
  · replace j11 := Md.cond_t j11 q11
    refine aops_no rfl rfl rfl rfl rfl (by first | decide | (rw [q11]; decide)) ?_
    refine aops_no rfl rfl rfl rfl rfl (by first | decide | (rw [q11]; decide)) ?_
    refine aops_no rfl rfl rfl rfl rfl (by first | decide | (rw [q11]; decide)) ?_
    refine aops_no rfl rfl rfl rfl rfl (by first | decide | (rw [q11]; decide)) ?_
    refine aops_no rfl rfl rfl rfl rfl (by first | decide | (rw [q11]; decide)) ?_
    refine aops_no rfl rfl rfl rfl rfl (by first | decide | (rw [q11]; decide)) ?_
    refine aops_step1 rfl (st_pick_yes rfl (by first | rfl | exact q11) rfl rfl) ?_
    refine aops_nil ?_
    show ∃ _x : Bool, _ = _ ∧ Weak _ _
    exact ⟨true, Option.some.inj j11, (by (refine weak_mk rfl rfl ?_ ?_ rfl <;> repeat' (first | exact trivial | refine ⟨?_, ?_⟩ | exact VLe.refl _ | exact BLe.refl _ | refine VLe.one (CLe.val ?_) | exact VLe.one (CLe.nil _) | exact VLe.one (CLe.emp _))))⟩
  replace j11 := Md.cond_f j11 q11
  refine aops_yes rfl rfl rfl rfl q11 (st_move rfl rfl) ?_
  refine aops_yes rfl rfl rfl rfl q11 (ev_len_slc rfl rfl) ?_
  refine aops_yes rfl rfl rfl rfl q11 (st_move rfl rfl) ?_
  refine aops_yes rfl rfl rfl rfl q11 (ev_len_slc rfl rfl) ?_
  obtain ⟨g25, j11⟩ := Md.ifp_s j11
  refine aops_yes rfl rfl rfl rfl q11 (ev_add rfl rfl rfl (Md.nat_add g25)) ?_
  refine aops_yes rfl rfl rfl rfl q11 (ev_cmp rfl rfl rfl rfl) ?_
  refine aops_step1 rfl (st_pick_no rfl (by first | rfl | exact q11) rfl rfl) ?_
  refine aops_nil ?_
  show ∃ _x : Bool, _ = _ ∧ Weak _ _
  exact ⟨(decide (((x7.1.length : Nat) : Int) < (((a1.length + 4) : Nat) : Int))), Option.some.inj j11, (by (refine weak_mk rfl rfl ?_ ?_ rfl <;> repeat' (first | exact trivial | refine ⟨?_, ?_⟩ | exact VLe.refl _ | exact BLe.refl _ | refine VLe.one (CLe.val ?_) | exact VLe.one (CLe.nil _) | exact VLe.one (CLe.emp _))))⟩
end Md
end Go.Proofs.Ytbnjdkpangmneaa
