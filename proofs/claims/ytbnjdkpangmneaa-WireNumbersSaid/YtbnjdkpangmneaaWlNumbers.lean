/-
  WlNumbers: where a function's model gives a value, the function returns what reads as it (printed by wip/tools/auto.py). Condition of each: the model gives a value.
-/
import Derived.Test.YtbnjdkpangmneaaWlNumbersM
import Derived.Test.YtbnjdkpangmneaaWireL
namespace Go.Proofs.Ytbnjdkpangmneaa
open Go.ChangeShapes Go.WideShapes Go.RowKit
open Abs
set_option linter.unusedVariables false
set_option linter.unusedSimpArgs false
set_option maxRecDepth 10000
namespace Md
set_option maxHeartbeats 2000000 in
theorem actorgridlaw1_WireNumbers_fn (k : Nat) (a0 : List UInt8) (a1 : UInt64) (a2 : Int) (r : Bool) (h : actorgridlaw1_WireNumbers k a0 a1 a2 = some r) : FnC Try.prog 8 [.one (CV.ls byC a0), .one (.val (.int .u64 (a1.toNat : Int))), .one (.val (.int .i64 a2))] [] (Det (.one (.val (.bool r))) []) := by
  unfold actorgridlaw1_WireNumbers at h
  refine fn_intro' 96 Try.func8 rfl rfl rfl ?_
  refine aw_seq ?_
  refine aw_region ?_
  refine aops_step1 rfl (st_assign rfl rfl) ?_
  refine aops_nil ?_
  refine aw_seq ?_
  refine aw_seq ?_
  refine aw_region ?_
  obtain ⟨x1, hx1, h⟩ := Md.bind_s h
  refine aops_step1 rfl (ev_call_v (actorgridlaw1_awake_fn k x1 hx1) rfl [] (by repeat' (first | exact All2.nil | refine All2.cons ?_ ?_ | refine ArgV.one ?_ | refine ArgV.agg ?_ | exact ArgC.mk rfl | exact ArgC.lend rfl (by simp) | exact ArgC.le (CLe.nil _) rfl | exact ArgC.le (CLe.emp _) rfl | exact ArgC.le (CLe.any _) rfl)) rfl rfl rfl (.inl rfl) rfl) ?_
  refine aops_step1 rfl (ev_not rfl rfl) ?_
  refine aops_nil ?_
  refine aw_cond rfl (fun c2 => ?_) (fun c2 => ?_)
  · replace h := Md.cond_t h c2
    refine aw_seq ?_
    refine aw_region ?_
    refine aops_step1 rfl (st_assign rfl rfl) ?_
    refine aops_nil ?_
    cases Option.some.inj h
    refine aw_ret ⟨rfl, ret_v (.inl ⟨_, rfl, rfl, fun _ e => nomatch e⟩) rfl rfl rfl ?_⟩
    (repeat' (first | exact TLe.refl _ | exact VLe.refl _ | exact CLe.refl _ | exact All2.nil | refine TLe.tup ?_ | refine TLe.v ?_ | refine All2.cons ?_ ?_ | refine VLe.agg ?_ | refine VLe.one ?_ | exact CLe.nil _ | exact CLe.emp _ | refine CLe.val ?_ | refine CLe.slc ?_ ?_))
  replace h := Md.cond_f h c2
  refine aw_skip ?_
  refine aw_seq ?_
  refine aw_seq ?_
  refine aw_region ?_
  refine aops_step1 rfl (st_move rfl rfl) ?_
  refine aops_step1 rfl (ev_len_slc rfl rfl) ?_
  refine aops_step1 rfl (ev_cmp rfl rfl rfl rfl) ?_
  refine aops_nil ?_
  refine aw_cond rfl (fun c3 => ?_) (fun c3 => ?_)
  · replace h := Md.cond_t h c3
    refine aw_seq ?_
    refine aw_region ?_
    refine aops_step1 rfl (st_assign rfl rfl) ?_
    refine aops_nil ?_
    cases Option.some.inj h
    refine aw_ret ⟨rfl, ret_v (.inl ⟨_, rfl, rfl, fun _ e => nomatch e⟩) rfl rfl rfl ?_⟩
    (repeat' (first | exact TLe.refl _ | exact VLe.refl _ | exact CLe.refl _ | exact All2.nil | refine TLe.tup ?_ | refine TLe.v ?_ | refine All2.cons ?_ ?_ | refine VLe.agg ?_ | refine VLe.one ?_ | exact CLe.nil _ | exact CLe.emp _ | refine CLe.val ?_ | refine CLe.slc ?_ ?_))
  replace h := Md.cond_f h c3
  refine aw_skip ?_
  refine aw_seq ?_
  refine aw_region ?_
  refine aops_step1 rfl (st_move rfl rfl) ?_
  obtain ⟨x4, hx4, h⟩ := Md.bind_s h
  refine aops_step1 rfl (ev_call_v (wire_Uint_fn k a0 x4 hx4) rfl [] (by repeat' (first | exact All2.nil | refine All2.cons ?_ ?_ | refine ArgV.one ?_ | refine ArgV.agg ?_ | exact ArgC.mk rfl | exact ArgC.lend rfl (by simp) | exact ArgC.le (CLe.nil _) rfl | exact ArgC.le (CLe.emp _) rfl | exact ArgC.le (CLe.any _) rfl)) rfl rfl rfl (.inl rfl) rfl) ?_
  refine aops_step1 rfl (st_movet rfl rfl) ?_
  refine aops_step1 rfl (ev_extract rfl rfl rfl) ?_
  refine aops_step1 rfl (ev_extract rfl rfl rfl) ?_
  refine aops_step1 rfl (ev_extract rfl rfl rfl) ?_
  refine aops_step1 rfl (st_assign rfl rfl) ?_
  refine aops_step1 rfl (st_assign rfl rfl) ?_
  refine aops_step1 rfl (st_assign rfl rfl) ?_
  refine aops_nil ?_
  refine aw_seq ?_
  refine aw_region ?_
  refine aops_step1 rfl (st_move rfl rfl) ?_
  obtain ⟨x5, hx5, h⟩ := Md.bind_s h
  refine aops_step1 rfl (ev_call_v (actorgridref1_ReadUint_fn k a0 x5 hx5) rfl [] (by repeat' (first | exact All2.nil | refine All2.cons ?_ ?_ | refine ArgV.one ?_ | refine ArgV.agg ?_ | exact ArgC.mk rfl | exact ArgC.lend rfl (by simp) | exact ArgC.le (CLe.nil _) rfl | exact ArgC.le (CLe.emp _) rfl | exact ArgC.le (CLe.any _) rfl)) rfl rfl rfl (.inl rfl) rfl) ?_
  refine aops_step1 rfl (st_movet rfl rfl) ?_
  refine aops_step1 rfl (ev_extract rfl rfl rfl) ?_
  refine aops_step1 rfl (ev_extract rfl rfl rfl) ?_
  refine aops_step1 rfl (ev_extract rfl rfl rfl) ?_
  refine aops_step1 rfl (st_assign rfl rfl) ?_
  refine aops_step1 rfl (st_assign rfl rfl) ?_
  refine aops_step1 rfl (st_assign rfl rfl) ?_
  refine aops_nil ?_
  refine aw_seq ?_
  refine aw_region ?_
  refine aops_step1 rfl (st_move rfl rfl) ?_
  obtain ⟨x6, hx6, h⟩ := Md.bind_s h
  refine aops_step1 rfl (ev_call_v (wire_Int_fn k a0 x6 hx6) rfl [] (by repeat' (first | exact All2.nil | refine All2.cons ?_ ?_ | refine ArgV.one ?_ | refine ArgV.agg ?_ | exact ArgC.mk rfl | exact ArgC.lend rfl (by simp) | exact ArgC.le (CLe.nil _) rfl | exact ArgC.le (CLe.emp _) rfl | exact ArgC.le (CLe.any _) rfl)) rfl rfl rfl (.inl rfl) rfl) ?_
  refine aops_step1 rfl (st_movet rfl rfl) ?_
  refine aops_step1 rfl (ev_extract rfl rfl rfl) ?_
  refine aops_step1 rfl (ev_extract rfl rfl rfl) ?_
  refine aops_step1 rfl (ev_extract rfl rfl rfl) ?_
  refine aops_step1 rfl (st_assign rfl rfl) ?_
  refine aops_step1 rfl (st_assign rfl rfl) ?_
  refine aops_step1 rfl (st_assign rfl rfl) ?_
  refine aops_nil ?_
  refine aw_seq ?_
  refine aw_region ?_
  refine aops_step1 rfl (st_move rfl rfl) ?_
  obtain ⟨x7, hx7, h⟩ := Md.bind_s h
  refine aops_step1 rfl (ev_call_v (actorgridref1_ReadInt_fn k a0 x7 hx7) rfl [] (by repeat' (first | exact All2.nil | refine All2.cons ?_ ?_ | refine ArgV.one ?_ | refine ArgV.agg ?_ | exact ArgC.mk rfl | exact ArgC.lend rfl (by simp) | exact ArgC.le (CLe.nil _) rfl | exact ArgC.le (CLe.emp _) rfl | exact ArgC.le (CLe.any _) rfl)) rfl rfl rfl (.inl rfl) rfl) ?_
  refine aops_step1 rfl (st_movet rfl rfl) ?_
  refine aops_step1 rfl (ev_extract rfl rfl rfl) ?_
  refine aops_step1 rfl (ev_extract rfl rfl rfl) ?_
  refine aops_step1 rfl (ev_extract rfl rfl rfl) ?_
  refine aops_step1 rfl (st_assign rfl rfl) ?_
  refine aops_step1 rfl (st_assign rfl rfl) ?_
  refine aops_step1 rfl (st_assign rfl rfl) ?_
  refine aops_nil ?_
  refine aw_seq ?_
  refine aw_region ?_
  refine aops_step1 rfl (st_move rfl rfl) ?_
  refine aops_step1 rfl (st_move rfl rfl) ?_
  refine aops_step1 rfl (ev_cmp rfl rfl rfl rfl) ?_
  refine aops_step1 rfl (st_move rfl rfl) ?_
  refine aops_mid 4 (⟨96, [], [(0, .one (CV.ls byC a0)), (1, .one (.val (.int .u64 (a1.toNat : Int)))), (2, .one (.val (.int .i64 a2))), (6, .one (.val (.bool false))), (9, .one (.val (.int .i64 x4.2.2))), (12, .one (.val (.int .i64 x5.2.2))), (13, .one (.val (.int .i64 x6.1))), (14, .one (.val (.int .i64 x6.2.1))), (15, .one (.val (.int .i64 x6.2.2))), (16, .one (.val (.int .i64 x7.1))), (17, .one (.val (.int .i64 x7.2.1))), (18, .one (.val (.int .i64 x7.2.2))), (55, .one (.val (.bool (((x4.1.toNat : Int) == (x5.1.toNat : Int)) && (x4.2.1 == x5.2.1)))))], []⟩ : ASt) ?_ ?_
  · rcases Md.bool_or (((x4.1.toNat : Int) == (x5.1.toNat : Int))) with q8 | q8
    · skip
      refine aops_yes rfl rfl rfl rfl q8 (st_move rfl rfl) ?_
      refine aops_yes rfl rfl rfl rfl q8 (st_move rfl rfl) ?_
      refine aops_yes rfl rfl rfl rfl q8 (ev_cmp rfl rfl rfl rfl) ?_
      refine aops_step1 rfl (st_pick_yes rfl (by first | rfl | exact q8) rfl rfl) ?_
      refine aops_nil ?_
      show Weak _ _
      (refine weak_mk rfl rfl ?_ ?_ rfl <;> repeat' (first | exact trivial | refine ⟨?_, ?_⟩ | exact VLe.refl _ | exact BLe.refl _ | refine VLe.one (CLe.val ?_) | exact VLe.one (CLe.nil _) | exact VLe.one (CLe.emp _))) <;> (first | (rw [q8]; done) | (rw [q8]; rfl) | (simp [q8]; done))
    refine aops_no rfl rfl rfl rfl rfl (by first | decide | (rw [q8]; decide)) ?_
    refine aops_no rfl rfl rfl rfl rfl (by first | decide | (rw [q8]; decide)) ?_
    refine aops_no rfl rfl rfl rfl rfl (by first | decide | (rw [q8]; decide)) ?_
    refine aops_step1 rfl (st_pick_no rfl (by first | rfl | exact q8) rfl rfl) ?_
    refine aops_nil ?_
    show Weak _ _
    (refine weak_mk rfl rfl ?_ ?_ rfl <;> repeat' (first | exact trivial | refine ⟨?_, ?_⟩ | exact VLe.refl _ | exact BLe.refl _ | refine VLe.one (CLe.val ?_) | exact VLe.one (CLe.nil _) | exact VLe.one (CLe.emp _))) <;> (first | (rw [q8]; done) | (rw [q8]; rfl) | (simp [q8]; done))
  change AOps _ _ _ (⟨96, [], [(0, .one (CV.ls byC a0)), (1, .one (.val (.int .u64 (a1.toNat : Int)))), (2, .one (.val (.int .i64 a2))), (6, .one (.val (.bool false))), (9, .one (.val (.int .i64 x4.2.2))), (12, .one (.val (.int .i64 x5.2.2))), (13, .one (.val (.int .i64 x6.1))), (14, .one (.val (.int .i64 x6.2.1))), (15, .one (.val (.int .i64 x6.2.2))), (16, .one (.val (.int .i64 x7.1))), (17, .one (.val (.int .i64 x7.2.1))), (18, .one (.val (.int .i64 x7.2.2))), (55, .one (.val (.bool (((x4.1.toNat : Int) == (x5.1.toNat : Int)) && (x4.2.1 == x5.2.1)))))], []⟩ : ASt) _
  refine aops_step1 rfl (st_move rfl rfl) ?_
  refine aops_mid 4 (⟨96, [], [(0, .one (CV.ls byC a0)), (1, .one (.val (.int .u64 (a1.toNat : Int)))), (2, .one (.val (.int .i64 a2))), (6, .one (.val (.bool false))), (13, .one (.val (.int .i64 x6.1))), (14, .one (.val (.int .i64 x6.2.1))), (15, .one (.val (.int .i64 x6.2.2))), (16, .one (.val (.int .i64 x7.1))), (17, .one (.val (.int .i64 x7.2.1))), (18, .one (.val (.int .i64 x7.2.2))), (60, .one (.val (.bool ((((x4.1.toNat : Int) == (x5.1.toNat : Int)) && (x4.2.1 == x5.2.1)) && (x4.2.2 == x5.2.2)))))], []⟩ : ASt) ?_ ?_
  · rcases Md.bool_or ((((x4.1.toNat : Int) == (x5.1.toNat : Int)) && (x4.2.1 == x5.2.1))) with q9 | q9
    · skip
      refine aops_yes rfl rfl rfl rfl q9 (st_move rfl rfl) ?_
      refine aops_yes rfl rfl rfl rfl q9 (st_move rfl rfl) ?_
      refine aops_yes rfl rfl rfl rfl q9 (ev_cmp rfl rfl rfl rfl) ?_
      refine aops_step1 rfl (st_pick_yes rfl (by first | rfl | exact q9) rfl rfl) ?_
      refine aops_nil ?_
      show Weak _ _
      (refine weak_mk rfl rfl ?_ ?_ rfl <;> repeat' (first | exact trivial | refine ⟨?_, ?_⟩ | exact VLe.refl _ | exact BLe.refl _ | refine VLe.one (CLe.val ?_) | exact VLe.one (CLe.nil _) | exact VLe.one (CLe.emp _))) <;> (first | (rw [q9]; done) | (rw [q9]; rfl) | (simp [q9]; done))
    refine aops_no rfl rfl rfl rfl rfl (by first | decide | (rw [q9]; decide)) ?_
    refine aops_no rfl rfl rfl rfl rfl (by first | decide | (rw [q9]; decide)) ?_
    refine aops_no rfl rfl rfl rfl rfl (by first | decide | (rw [q9]; decide)) ?_
    refine aops_step1 rfl (st_pick_no rfl (by first | rfl | exact q9) rfl rfl) ?_
    refine aops_nil ?_
    show Weak _ _
    (refine weak_mk rfl rfl ?_ ?_ rfl <;> repeat' (first | exact trivial | refine ⟨?_, ?_⟩ | exact VLe.refl _ | exact BLe.refl _ | refine VLe.one (CLe.val ?_) | exact VLe.one (CLe.nil _) | exact VLe.one (CLe.emp _))) <;> (first | (rw [q9]; done) | (rw [q9]; rfl) | (simp [q9]; done))
  change AOps _ _ _ (⟨96, [], [(0, .one (CV.ls byC a0)), (1, .one (.val (.int .u64 (a1.toNat : Int)))), (2, .one (.val (.int .i64 a2))), (6, .one (.val (.bool false))), (13, .one (.val (.int .i64 x6.1))), (14, .one (.val (.int .i64 x6.2.1))), (15, .one (.val (.int .i64 x6.2.2))), (16, .one (.val (.int .i64 x7.1))), (17, .one (.val (.int .i64 x7.2.1))), (18, .one (.val (.int .i64 x7.2.2))), (60, .one (.val (.bool ((((x4.1.toNat : Int) == (x5.1.toNat : Int)) && (x4.2.1 == x5.2.1)) && (x4.2.2 == x5.2.2)))))], []⟩ : ASt) _
  refine aops_step1 rfl (st_move rfl rfl) ?_
  refine aops_mid 4 (⟨96, [], [(0, .one (CV.ls byC a0)), (1, .one (.val (.int .u64 (a1.toNat : Int)))), (2, .one (.val (.int .i64 a2))), (6, .one (.val (.bool false))), (14, .one (.val (.int .i64 x6.2.1))), (15, .one (.val (.int .i64 x6.2.2))), (17, .one (.val (.int .i64 x7.2.1))), (18, .one (.val (.int .i64 x7.2.2))), (65, .one (.val (.bool (((((x4.1.toNat : Int) == (x5.1.toNat : Int)) && (x4.2.1 == x5.2.1)) && (x4.2.2 == x5.2.2)) && (x6.1 == x7.1)))))], []⟩ : ASt) ?_ ?_
  · rcases Md.bool_or (((((x4.1.toNat : Int) == (x5.1.toNat : Int)) && (x4.2.1 == x5.2.1)) && (x4.2.2 == x5.2.2))) with q10 | q10
    · skip
      refine aops_yes rfl rfl rfl rfl q10 (st_move rfl rfl) ?_
      refine aops_yes rfl rfl rfl rfl q10 (st_move rfl rfl) ?_
      refine aops_yes rfl rfl rfl rfl q10 (ev_cmp rfl rfl rfl rfl) ?_
      refine aops_step1 rfl (st_pick_yes rfl (by first | rfl | exact q10) rfl rfl) ?_
      refine aops_nil ?_
      show Weak _ _
      (refine weak_mk rfl rfl ?_ ?_ rfl <;> repeat' (first | exact trivial | refine ⟨?_, ?_⟩ | exact VLe.refl _ | exact BLe.refl _ | refine VLe.one (CLe.val ?_) | exact VLe.one (CLe.nil _) | exact VLe.one (CLe.emp _))) <;> (first | (rw [q10]; done) | (rw [q10]; rfl) | (simp [q10]; done))
    refine aops_no rfl rfl rfl rfl rfl (by first | decide | (rw [q10]; decide)) ?_
    refine aops_no rfl rfl rfl rfl rfl (by first | decide | (rw [q10]; decide)) ?_
    refine aops_no rfl rfl rfl rfl rfl (by first | decide | (rw [q10]; decide)) ?_
    refine aops_step1 rfl (st_pick_no rfl (by first | rfl | exact q10) rfl rfl) ?_
    refine aops_nil ?_
    show Weak _ _
    (refine weak_mk rfl rfl ?_ ?_ rfl <;> repeat' (first | exact trivial | refine ⟨?_, ?_⟩ | exact VLe.refl _ | exact BLe.refl _ | refine VLe.one (CLe.val ?_) | exact VLe.one (CLe.nil _) | exact VLe.one (CLe.emp _))) <;> (first | (rw [q10]; done) | (rw [q10]; rfl) | (simp [q10]; done))
  change AOps _ _ _ (⟨96, [], [(0, .one (CV.ls byC a0)), (1, .one (.val (.int .u64 (a1.toNat : Int)))), (2, .one (.val (.int .i64 a2))), (6, .one (.val (.bool false))), (14, .one (.val (.int .i64 x6.2.1))), (15, .one (.val (.int .i64 x6.2.2))), (17, .one (.val (.int .i64 x7.2.1))), (18, .one (.val (.int .i64 x7.2.2))), (65, .one (.val (.bool (((((x4.1.toNat : Int) == (x5.1.toNat : Int)) && (x4.2.1 == x5.2.1)) && (x4.2.2 == x5.2.2)) && (x6.1 == x7.1)))))], []⟩ : ASt) _
  refine aops_step1 rfl (st_move rfl rfl) ?_
  refine aops_mid 4 (⟨96, [], [(0, .one (CV.ls byC a0)), (1, .one (.val (.int .u64 (a1.toNat : Int)))), (2, .one (.val (.int .i64 a2))), (6, .one (.val (.bool false))), (15, .one (.val (.int .i64 x6.2.2))), (18, .one (.val (.int .i64 x7.2.2))), (70, .one (.val (.bool ((((((x4.1.toNat : Int) == (x5.1.toNat : Int)) && (x4.2.1 == x5.2.1)) && (x4.2.2 == x5.2.2)) && (x6.1 == x7.1)) && (x6.2.1 == x7.2.1)))))], []⟩ : ASt) ?_ ?_
  · rcases Md.bool_or ((((((x4.1.toNat : Int) == (x5.1.toNat : Int)) && (x4.2.1 == x5.2.1)) && (x4.2.2 == x5.2.2)) && (x6.1 == x7.1))) with q11 | q11
    · skip
      refine aops_yes rfl rfl rfl rfl q11 (st_move rfl rfl) ?_
      refine aops_yes rfl rfl rfl rfl q11 (st_move rfl rfl) ?_
      refine aops_yes rfl rfl rfl rfl q11 (ev_cmp rfl rfl rfl rfl) ?_
      refine aops_step1 rfl (st_pick_yes rfl (by first | rfl | exact q11) rfl rfl) ?_
      refine aops_nil ?_
      show Weak _ _
      (refine weak_mk rfl rfl ?_ ?_ rfl <;> repeat' (first | exact trivial | refine ⟨?_, ?_⟩ | exact VLe.refl _ | exact BLe.refl _ | refine VLe.one (CLe.val ?_) | exact VLe.one (CLe.nil _) | exact VLe.one (CLe.emp _))) <;> (first | (rw [q11]; done) | (rw [q11]; rfl) | (simp [q11]; done))
    refine aops_no rfl rfl rfl rfl rfl (by first | decide | (rw [q11]; decide)) ?_
    refine aops_no rfl rfl rfl rfl rfl (by first | decide | (rw [q11]; decide)) ?_
    refine aops_no rfl rfl rfl rfl rfl (by first | decide | (rw [q11]; decide)) ?_
    refine aops_step1 rfl (st_pick_no rfl (by first | rfl | exact q11) rfl rfl) ?_
    refine aops_nil ?_
    show Weak _ _
    (refine weak_mk rfl rfl ?_ ?_ rfl <;> repeat' (first | exact trivial | refine ⟨?_, ?_⟩ | exact VLe.refl _ | exact BLe.refl _ | refine VLe.one (CLe.val ?_) | exact VLe.one (CLe.nil _) | exact VLe.one (CLe.emp _))) <;> (first | (rw [q11]; done) | (rw [q11]; rfl) | (simp [q11]; done))
  change AOps _ _ _ (⟨96, [], [(0, .one (CV.ls byC a0)), (1, .one (.val (.int .u64 (a1.toNat : Int)))), (2, .one (.val (.int .i64 a2))), (6, .one (.val (.bool false))), (15, .one (.val (.int .i64 x6.2.2))), (18, .one (.val (.int .i64 x7.2.2))), (70, .one (.val (.bool ((((((x4.1.toNat : Int) == (x5.1.toNat : Int)) && (x4.2.1 == x5.2.1)) && (x4.2.2 == x5.2.2)) && (x6.1 == x7.1)) && (x6.2.1 == x7.2.1)))))], []⟩ : ASt) _
  refine aops_step1 rfl (st_move rfl rfl) ?_
  refine aops_mid 4 (⟨96, [], [(0, .one (CV.ls byC a0)), (1, .one (.val (.int .u64 (a1.toNat : Int)))), (2, .one (.val (.int .i64 a2))), (6, .one (.val (.bool false))), (75, .one (.val (.bool (((((((x4.1.toNat : Int) == (x5.1.toNat : Int)) && (x4.2.1 == x5.2.1)) && (x4.2.2 == x5.2.2)) && (x6.1 == x7.1)) && (x6.2.1 == x7.2.1)) && (x6.2.2 == x7.2.2)))))], []⟩ : ASt) ?_ ?_
  · rcases Md.bool_or (((((((x4.1.toNat : Int) == (x5.1.toNat : Int)) && (x4.2.1 == x5.2.1)) && (x4.2.2 == x5.2.2)) && (x6.1 == x7.1)) && (x6.2.1 == x7.2.1))) with q12 | q12
    · skip
      refine aops_yes rfl rfl rfl rfl q12 (st_move rfl rfl) ?_
      refine aops_yes rfl rfl rfl rfl q12 (st_move rfl rfl) ?_
      refine aops_yes rfl rfl rfl rfl q12 (ev_cmp rfl rfl rfl rfl) ?_
      refine aops_step1 rfl (st_pick_yes rfl (by first | rfl | exact q12) rfl rfl) ?_
      refine aops_nil ?_
      show Weak _ _
      (refine weak_mk rfl rfl ?_ ?_ rfl <;> repeat' (first | exact trivial | refine ⟨?_, ?_⟩ | exact VLe.refl _ | exact BLe.refl _ | refine VLe.one (CLe.val ?_) | exact VLe.one (CLe.nil _) | exact VLe.one (CLe.emp _))) <;> (first | (rw [q12]; done) | (rw [q12]; rfl) | (simp [q12]; done))
    refine aops_no rfl rfl rfl rfl rfl (by first | decide | (rw [q12]; decide)) ?_
    refine aops_no rfl rfl rfl rfl rfl (by first | decide | (rw [q12]; decide)) ?_
    refine aops_no rfl rfl rfl rfl rfl (by first | decide | (rw [q12]; decide)) ?_
    refine aops_step1 rfl (st_pick_no rfl (by first | rfl | exact q12) rfl rfl) ?_
    refine aops_nil ?_
    show Weak _ _
    (refine weak_mk rfl rfl ?_ ?_ rfl <;> repeat' (first | exact trivial | refine ⟨?_, ?_⟩ | exact VLe.refl _ | exact BLe.refl _ | refine VLe.one (CLe.val ?_) | exact VLe.one (CLe.nil _) | exact VLe.one (CLe.emp _))) <;> (first | (rw [q12]; done) | (rw [q12]; rfl) | (simp [q12]; done))
  change AOps _ _ _ (⟨96, [], [(0, .one (CV.ls byC a0)), (1, .one (.val (.int .u64 (a1.toNat : Int)))), (2, .one (.val (.int .i64 a2))), (6, .one (.val (.bool false))), (75, .one (.val (.bool (((((((x4.1.toNat : Int) == (x5.1.toNat : Int)) && (x4.2.1 == x5.2.1)) && (x4.2.2 == x5.2.2)) && (x6.1 == x7.1)) && (x6.2.1 == x7.2.1)) && (x6.2.2 == x7.2.2)))))], []⟩ : ASt) _
  refine aops_step1 rfl (st_move rfl rfl) ?_
  obtain ⟨o13, j13, h⟩ := Md.bind_s h
  refine aops_cut 9 (ε := Bool) (fun x13 => (⟨96, [], [(0, .one (CV.ls byC a0)), (2, .one (.val (.int .i64 a2))), (6, .one (.val (.bool false))), (85, .one (.val (.bool x13)))], []⟩ : ASt)) (fun x13 => x13 = o13) ?_ ?_
  · intro x13 hI13
    subst hI13
    change AOps _ _ _ (⟨96, [], [(0, .one (CV.ls byC a0)), (2, .one (.val (.int .i64 a2))), (6, .one (.val (.bool false))), (85, .one (.val (.bool x13)))], []⟩ : ASt) _
    refine aops_step1 rfl (st_move rfl rfl) ?_
    obtain ⟨o14, j14, h⟩ := Md.bind_s h
    refine aops_cut 9 (ε := Bool) (fun x14 => (⟨96, [], [(6, .one (.val (.bool false))), (95, .one (.val (.bool x14)))], []⟩ : ASt)) (fun x14 => x14 = o14) ?_ ?_
    · intro x14 hI14
      subst hI14
      change AOps _ _ _ (⟨96, [], [(6, .one (.val (.bool false))), (95, .one (.val (.bool x14)))], []⟩ : ASt) _
      refine aops_step1 rfl (st_assign rfl rfl) ?_
      refine aops_nil ?_
      cases Option.some.inj h
      refine aw_ret ⟨rfl, ret_v (.inl ⟨_, rfl, rfl, fun _ e => nomatch e⟩) rfl rfl rfl ?_⟩
      (repeat' (first | exact TLe.refl _ | exact VLe.refl _ | exact CLe.refl _ | exact All2.nil | refine TLe.tup ?_ | refine TLe.v ?_ | refine All2.cons ?_ ?_ | refine VLe.agg ?_ | refine VLe.one ?_ | exact CLe.nil _ | exact CLe.emp _ | refine CLe.val ?_ | refine CLe.slc ?_ ?_))
    rcases Md.bool_or (x13) with q14 | q14
    · replace j14 := Md.cond_t j14 q14
      refine aops_yes rfl rfl rfl rfl q14 (st_move rfl rfl) ?_
      refine aops_yes rfl rfl rfl rfl q14 (st_move rfl rfl) ?_
      obtain ⟨x15, hx15, j14⟩ := Md.bind_s j14
      refine aops_yes rfl rfl rfl rfl q14 (st_call_r (r' := .one (.own 0)) 0 rfl (wire_AppendInt_fn k a0 a2 x15 hx15) rfl [] (by repeat' (first | exact All2.nil | refine All2.cons ?_ ?_ | refine ArgV.one ?_ | refine ArgV.agg ?_ | exact ArgC.mk rfl | exact ArgC.lend rfl (by simp) | exact ArgC.le (CLe.nil _) rfl | exact ArgC.le (CLe.emp _) rfl | exact ArgC.le (CLe.any _) rfl)) rfl rfl rfl (.inl rfl) rfl rfl) ?_
      refine aops_yes rfl rfl rfl rfl q14 (st_move rfl rfl) ?_
      refine aops_yes rfl rfl rfl rfl q14 (st_move rfl rfl) ?_
      obtain ⟨x16, hx16, j14⟩ := Md.bind_s j14
      refine aops_yes rfl rfl rfl rfl q14 (st_call_r (r' := .one (.own 1)) 1 rfl (actorgridref1_Int_fn k a2 x16 hx16) rfl [] (by repeat' (first | exact All2.nil | refine All2.cons ?_ ?_ | refine ArgV.one ?_ | refine ArgV.agg ?_ | exact ArgC.mk rfl | exact ArgC.lend rfl (by simp) | exact ArgC.le (CLe.nil _) rfl | exact ArgC.le (CLe.emp _) rfl | exact ArgC.le (CLe.any _) rfl)) rfl rfl rfl (.inl rfl) rfl rfl) ?_
      obtain ⟨x17, hx17, j14⟩ := Md.bind_s j14
      refine aops_yes rfl rfl rfl rfl q14 (st_call_r (r' := .one (.own 2)) 2 rfl (actorgridlaw1_join_fn k a0 x16 x17 hx17) rfl [1] (by repeat' (first | exact All2.nil | refine All2.cons ?_ ?_ | refine ArgV.one ?_ | refine ArgV.agg ?_ | exact ArgC.mk rfl | exact ArgC.lend rfl (by simp) | exact ArgC.le (CLe.nil _) rfl | exact ArgC.le (CLe.emp _) rfl | exact ArgC.le (CLe.any _) rfl)) rfl rfl rfl (.inr ⟨rfl, fun _ _ => rfl⟩) rfl rfl) ?_
      obtain ⟨x18, hx18, j14⟩ := Md.bind_s j14
      refine aops_yes rfl rfl rfl rfl q14 (ev_call_v (actorgridlaw1_same_fn k x15 x17 x18 hx18) rfl [0, 2] (by repeat' (first | exact All2.nil | refine All2.cons ?_ ?_ | refine ArgV.one ?_ | refine ArgV.agg ?_ | exact ArgC.mk rfl | exact ArgC.lend rfl (by simp) | exact ArgC.le (CLe.nil _) rfl | exact ArgC.le (CLe.emp _) rfl | exact ArgC.le (CLe.any _) rfl)) rfl rfl rfl (.inr rfl) rfl) ?_
      refine aops_step1 rfl (st_pick_yes rfl (by first | rfl | exact q14) rfl rfl) ?_
      refine aops_nil ?_
      show ∃ _x : Bool, _ = _ ∧ Weak _ _
      exact ⟨x18, Option.some.inj j14, (by (refine weak_mk rfl rfl ?_ ?_ rfl <;> repeat' (first | exact trivial | refine ⟨?_, ?_⟩ | exact VLe.refl _ | exact BLe.refl _ | refine VLe.one (CLe.val ?_) | exact VLe.one (CLe.nil _) | exact VLe.one (CLe.emp _))))⟩
    replace j14 := Md.cond_f j14 q14
    refine aops_no rfl rfl rfl rfl rfl (by first | decide | (rw [q14]; decide)) ?_
    refine aops_no rfl rfl rfl rfl rfl (by first | decide | (rw [q14]; decide)) ?_
    refine aops_no rfl rfl rfl rfl rfl (by first | decide | (rw [q14]; decide)) ?_
    refine aops_no rfl rfl rfl rfl rfl (by first | decide | (rw [q14]; decide)) ?_
    refine aops_no rfl rfl rfl rfl rfl (by first | decide | (rw [q14]; decide)) ?_
    refine aops_no rfl rfl rfl rfl rfl (by first | decide | (rw [q14]; decide)) ?_
    refine aops_no rfl rfl rfl rfl rfl (by first | decide | (rw [q14]; decide)) ?_
    refine aops_no rfl rfl rfl rfl rfl (by first | decide | (rw [q14]; decide)) ?_
    refine aops_step1 rfl (st_pick_no rfl (by first | rfl | exact q14) rfl rfl) ?_
    refine aops_nil ?_
    show ∃ _x : Bool, _ = _ ∧ Weak _ _
    exact ⟨false, Option.some.inj j14, (by (refine weak_mk rfl rfl ?_ ?_ rfl <;> repeat' (first | exact trivial | refine ⟨?_, ?_⟩ | exact VLe.refl _ | exact BLe.refl _ | refine VLe.one (CLe.val ?_) | exact VLe.one (CLe.nil _) | exact VLe.one (CLe.emp _))))⟩
  rcases Md.bool_or ((((((((x4.1.toNat : Int) == (x5.1.toNat : Int)) && (x4.2.1 == x5.2.1)) && (x4.2.2 == x5.2.2)) && (x6.1 == x7.1)) && (x6.2.1 == x7.2.1)) && (x6.2.2 == x7.2.2))) with q13 | q13
  · replace j13 := Md.cond_t j13 q13
    refine aops_yes rfl rfl rfl rfl q13 (st_move rfl rfl) ?_
    refine aops_yes rfl rfl rfl rfl q13 (st_move rfl rfl) ?_
    obtain ⟨x19, hx19, j13⟩ := Md.bind_s j13
    refine aops_yes rfl rfl rfl rfl q13 (st_call_r (r' := .one (.own 0)) 0 rfl (wire_AppendUint_fn k a0 a1 x19 hx19) rfl [] (by repeat' (first | exact All2.nil | refine All2.cons ?_ ?_ | refine ArgV.one ?_ | refine ArgV.agg ?_ | exact ArgC.mk rfl | exact ArgC.lend rfl (by simp) | exact ArgC.le (CLe.nil _) rfl | exact ArgC.le (CLe.emp _) rfl | exact ArgC.le (CLe.any _) rfl)) rfl rfl rfl (.inl rfl) rfl rfl) ?_
    refine aops_yes rfl rfl rfl rfl q13 (st_move rfl rfl) ?_
    refine aops_yes rfl rfl rfl rfl q13 (st_move rfl rfl) ?_
    obtain ⟨x20, hx20, j13⟩ := Md.bind_s j13
    refine aops_yes rfl rfl rfl rfl q13 (st_call_r (r' := .one (.own 1)) 1 rfl (actorgridref1_Uint_fn k a1 x20 hx20) rfl [] (by repeat' (first | exact All2.nil | refine All2.cons ?_ ?_ | refine ArgV.one ?_ | refine ArgV.agg ?_ | exact ArgC.mk rfl | exact ArgC.lend rfl (by simp) | exact ArgC.le (CLe.nil _) rfl | exact ArgC.le (CLe.emp _) rfl | exact ArgC.le (CLe.any _) rfl)) rfl rfl rfl (.inl rfl) rfl rfl) ?_
    obtain ⟨x21, hx21, j13⟩ := Md.bind_s j13
    refine aops_yes rfl rfl rfl rfl q13 (st_call_r (r' := .one (.own 2)) 2 rfl (actorgridlaw1_join_fn k a0 x20 x21 hx21) rfl [1] (by repeat' (first | exact All2.nil | refine All2.cons ?_ ?_ | refine ArgV.one ?_ | refine ArgV.agg ?_ | exact ArgC.mk rfl | exact ArgC.lend rfl (by simp) | exact ArgC.le (CLe.nil _) rfl | exact ArgC.le (CLe.emp _) rfl | exact ArgC.le (CLe.any _) rfl)) rfl rfl rfl (.inr ⟨rfl, fun _ _ => rfl⟩) rfl rfl) ?_
    obtain ⟨x22, hx22, j13⟩ := Md.bind_s j13
    refine aops_yes rfl rfl rfl rfl q13 (ev_call_v (actorgridlaw1_same_fn k x19 x21 x22 hx22) rfl [0, 2] (by repeat' (first | exact All2.nil | refine All2.cons ?_ ?_ | refine ArgV.one ?_ | refine ArgV.agg ?_ | exact ArgC.mk rfl | exact ArgC.lend rfl (by simp) | exact ArgC.le (CLe.nil _) rfl | exact ArgC.le (CLe.emp _) rfl | exact ArgC.le (CLe.any _) rfl)) rfl rfl rfl (.inr rfl) rfl) ?_
    refine aops_step1 rfl (st_pick_yes rfl (by first | rfl | exact q13) rfl rfl) ?_
    refine aops_nil ?_
    show ∃ _x : Bool, _ = _ ∧ Weak _ _
    exact ⟨x22, Option.some.inj j13, (by (refine weak_mk rfl rfl ?_ ?_ rfl <;> repeat' (first | exact trivial | refine ⟨?_, ?_⟩ | exact VLe.refl _ | exact BLe.refl _ | refine VLe.one (CLe.val ?_) | exact VLe.one (CLe.nil _) | exact VLe.one (CLe.emp _))))⟩
  replace j13 := Md.cond_f j13 q13
  refine aops_no rfl rfl rfl rfl rfl (by first | decide | (rw [q13]; decide)) ?_
  refine aops_no rfl rfl rfl rfl rfl (by first | decide | (rw [q13]; decide)) ?_
  refine aops_no rfl rfl rfl rfl rfl (by first | decide | (rw [q13]; decide)) ?_
  refine aops_no rfl rfl rfl rfl rfl (by first | decide | (rw [q13]; decide)) ?_
  refine aops_no rfl rfl rfl rfl rfl (by first | decide | (rw [q13]; decide)) ?_
  refine aops_no rfl rfl rfl rfl rfl (by first | decide | (rw [q13]; decide)) ?_
  refine aops_no rfl rfl rfl rfl rfl (by first | decide | (rw [q13]; decide)) ?_
  refine aops_no rfl rfl rfl rfl rfl (by first | decide | (rw [q13]; decide)) ?_
  refine aops_step1 rfl (st_pick_no rfl (by first | rfl | exact q13) rfl rfl) ?_
  refine aops_nil ?_
  show ∃ _x : Bool, _ = _ ∧ Weak _ _
  exact ⟨false, Option.some.inj j13, (by (refine weak_mk rfl rfl ?_ ?_ rfl <;> repeat' (first | exact trivial | refine ⟨?_, ?_⟩ | exact VLe.refl _ | exact BLe.refl _ | refine VLe.one (CLe.val ?_) | exact VLe.one (CLe.nil _) | exact VLe.one (CLe.emp _))))⟩
end Md
end Go.Proofs.Ytbnjdkpangmneaa
