/-
  WlFrames: where a function's model gives a value, the function returns what reads as it (printed by wip/tools/auto.py). Condition of each: the model gives a value.
-/
import Derived.Test.YtbnjdkpangmneaaWlFramesM
import Derived.Test.YtbnjdkpangmneaaWireL
namespace Go.Proofs.Ytbnjdkpangmneaa
open Go.ChangeShapes Go.WideShapes Go.RowKit
open Abs
set_option linter.unusedVariables false
set_option linter.unusedSimpArgs false
set_option maxRecDepth 10000
namespace Md
set_option maxHeartbeats 2000000 in
theorem actorgridlaw1_WireFrames_fn (k : Nat) (a0 : List UInt8) (a1 : Int) (a2 : List UInt8) (r : Bool) (h : actorgridlaw1_WireFrames k a0 a1 a2 = some r) : FnC Try.prog 4 [.one (CV.ls byC a0), .one (.val (.int .i64 a1)), .one (CV.ls byC a2)] [] (Det (.one (.val (.bool r))) []) := by
  unfold actorgridlaw1_WireFrames at h
  refine fn_intro' 90 Try.func4 rfl rfl rfl ?_
  refine aw_seq ?_
  refine aw_region ?_
  refine aops_step1 rfl (st_assign rfl rfl) ?_
  refine aops_nil ?_
  refine aw_seq ?_
  refine aw_seq ?_
  refine aw_region ?_
  obtain ⟨x1, hx1, h⟩ := Md.bind_s h
  refine aops_step1 rfl (ev_call_v (actorgridlaw1_awake_fn k x1 hx1) rfl [] (by repeat' (first | exact All2.nil | refine All2.cons ?_ ?_ | refine ArgV.one ?_ | refine ArgV.agg ?_ | exact ArgC.mk rfl | exact ArgC.lend rfl (by simp) | exact ArgC.le (CLe.nil _) rfl | exact ArgC.le (CLe.emp _) rfl | exact ArgC.le (CLe.any _) rfl)) rfl rfl rfl (.inl rfl) rfl) ?_
  refine aops_step1 rfl (ev_not rfl rfl) ?_
  refine aops_nil ?_
  refine aw_cond rfl (fun c2 => ?_) (fun c2 => ?_)
  · replace h := Md.cond_t h c2
    refine aw_seq ?_
    refine aw_region ?_
    refine aops_step1 rfl (st_assign rfl rfl) ?_
    refine aops_nil ?_
    cases Option.some.inj h
    refine aw_ret ⟨rfl, ret_v (.inl ⟨_, rfl, rfl, fun _ e => nomatch e⟩) rfl rfl rfl ?_⟩
    (repeat' (first | exact TLe.refl _ | exact VLe.refl _ | exact CLe.refl _ | exact All2.nil | refine TLe.tup ?_ | refine TLe.v ?_ | refine All2.cons ?_ ?_ | refine VLe.agg ?_ | refine VLe.one ?_ | exact CLe.nil _ | exact CLe.emp _ | refine CLe.val ?_ | refine CLe.slc ?_ ?_))
  replace h := Md.cond_f h c2
  refine aw_skip ?_
  refine aw_seq ?_
  refine aw_seq ?_
  refine aw_region ?_
  refine aops_step1 rfl (st_move rfl rfl) ?_
  refine aops_step1 rfl (ev_len_slc rfl rfl) ?_
  refine aops_step1 rfl (ev_cmp rfl rfl rfl rfl) ?_
  refine aops_step1 rfl (st_move rfl rfl) ?_
  refine aops_mid 4 (⟨90, [], [(0, .one (CV.ls byC a0)), (1, .one (.val (.int .i64 a1))), (2, .one (CV.ls byC a2)), (28, .one (.val (.bool ((decide (((a0.length : Nat) : Int) > 2000)) || (decide (((a2.length : Nat) : Int) > 2000))))))], []⟩ : ASt) ?_ ?_
  · rcases Md.bool_or ((decide (((a0.length : Nat) : Int) > 2000))) with q3 | q3
    · skip
      refine aops_no rfl rfl rfl rfl rfl (by first | decide | (rw [q3]; decide)) ?_
      refine aops_no rfl rfl rfl rfl rfl (by first | decide | (rw [q3]; decide)) ?_
      refine aops_no rfl rfl rfl rfl rfl (by first | decide | (rw [q3]; decide)) ?_
      refine aops_step1 rfl (st_pick_yes rfl (by first | rfl | exact q3) rfl rfl) ?_
      refine aops_nil ?_
      show Weak _ _
      (refine weak_mk rfl rfl ?_ ?_ rfl <;> repeat' (first | exact trivial | refine ⟨?_, ?_⟩ | exact VLe.refl _ | exact BLe.refl _ | refine VLe.one (CLe.val ?_) | exact VLe.one (CLe.nil _) | exact VLe.one (CLe.emp _))) <;> (first | (rw [q3]; done) | (rw [q3]; rfl) | (simp [q3]; done))
    refine aops_yes rfl rfl rfl rfl q3 (st_move rfl rfl) ?_
    refine aops_yes rfl rfl rfl rfl q3 (ev_len_slc rfl rfl) ?_
    refine aops_yes rfl rfl rfl rfl q3 (ev_cmp rfl rfl rfl rfl) ?_
    refine aops_step1 rfl (st_pick_no rfl (by first | rfl | exact q3) rfl rfl) ?_
    refine aops_nil ?_
    show Weak _ _
    (refine weak_mk rfl rfl ?_ ?_ rfl <;> repeat' (first | exact trivial | refine ⟨?_, ?_⟩ | exact VLe.refl _ | exact BLe.refl _ | refine VLe.one (CLe.val ?_) | exact VLe.one (CLe.nil _) | exact VLe.one (CLe.emp _))) <;> (first | (rw [q3]; done) | (rw [q3]; rfl) | (simp [q3]; done))
  change AOps _ _ _ (⟨90, [], [(0, .one (CV.ls byC a0)), (1, .one (.val (.int .i64 a1))), (2, .one (CV.ls byC a2)), (28, .one (.val (.bool ((decide (((a0.length : Nat) : Int) > 2000)) || (decide (((a2.length : Nat) : Int) > 2000))))))], []⟩ : ASt) _
  refine aops_nil ?_
  refine aw_cond rfl (fun c4 => ?_) (fun c4 => ?_)
  · replace h := Md.cond_t h c4
    refine aw_seq ?_
    refine aw_region ?_
    refine aops_step1 rfl (st_assign rfl rfl) ?_
    refine aops_nil ?_
    cases Option.some.inj h
    refine aw_ret ⟨rfl, ret_v (.inl ⟨_, rfl, rfl, fun _ e => nomatch e⟩) rfl rfl rfl ?_⟩
    (repeat' (first | exact TLe.refl _ | exact VLe.refl _ | exact CLe.refl _ | exact All2.nil | refine TLe.tup ?_ | refine TLe.v ?_ | refine All2.cons ?_ ?_ | refine VLe.agg ?_ | refine VLe.one ?_ | exact CLe.nil _ | exact CLe.emp _ | refine CLe.val ?_ | refine CLe.slc ?_ ?_))
  replace h := Md.cond_f h c4
  refine aw_skip ?_
  refine aw_seq ?_
  refine aw_region ?_
  refine aops_step1 rfl (st_move rfl rfl) ?_
  refine aops_step1 rfl (st_move rfl rfl) ?_
  obtain ⟨x5, hx5, h⟩ := Md.bind_s h
  refine aops_step1 rfl (ev_call_v (wire_Seal_fn k a1 a2 x5 hx5) rfl [] (by repeat' (first | exact All2.nil | refine All2.cons ?_ ?_ | refine ArgV.one ?_ | refine ArgV.agg ?_ | exact ArgC.mk rfl | exact ArgC.lend rfl (by simp) | exact ArgC.le (CLe.nil _) rfl | exact ArgC.le (CLe.emp _) rfl | exact ArgC.le (CLe.any _) rfl)) rfl rfl rfl (.inl rfl) rfl) ?_
  refine aops_step1 rfl (st_movet rfl rfl) ?_
  refine aops_step1 rfl (ev_extract rfl rfl rfl) ?_
  refine aops_step1 rfl (ev_extract rfl rfl rfl) ?_
  refine aops_step1 rfl (st_assign rfl rfl) ?_
  refine aops_step1 rfl (st_assign rfl rfl) ?_
  refine aops_nil ?_
  refine aw_seq ?_
  refine aw_region ?_
  refine aops_step1 rfl (st_move rfl rfl) ?_
  refine aops_step1 rfl (st_move rfl rfl) ?_
  obtain ⟨x6, hx6, h⟩ := Md.bind_s h
  refine aops_step1 rfl (ev_call_v (actorgridref1_Seal_fn k a1 a2 x6 hx6) rfl [] (by repeat' (first | exact All2.nil | refine All2.cons ?_ ?_ | refine ArgV.one ?_ | refine ArgV.agg ?_ | exact ArgC.mk rfl | exact ArgC.lend rfl (by simp) | exact ArgC.le (CLe.nil _) rfl | exact ArgC.le (CLe.emp _) rfl | exact ArgC.le (CLe.any _) rfl)) rfl rfl rfl (.inl rfl) rfl) ?_
  refine aops_step1 rfl (st_movet rfl rfl) ?_
  refine aops_step1 rfl (ev_extract rfl rfl rfl) ?_
  refine aops_step1 rfl (ev_extract rfl rfl rfl) ?_
  refine aops_step1 rfl (st_assign rfl rfl) ?_
  refine aops_step1 rfl (st_assign rfl rfl) ?_
  refine aops_nil ?_
  refine aw_seq ?_
  refine aw_region ?_
  refine aops_step1 rfl (st_move rfl rfl) ?_
  obtain ⟨x7, hx7, h⟩ := Md.bind_s h
  refine aops_step1 rfl (ev_call_v (wire_Open_fn k a0 x7 hx7) rfl [] (by repeat' (first | exact All2.nil | refine All2.cons ?_ ?_ | refine ArgV.one ?_ | refine ArgV.agg ?_ | exact ArgC.mk rfl | exact ArgC.lend rfl (by simp) | exact ArgC.le (CLe.nil _) rfl | exact ArgC.le (CLe.emp _) rfl | exact ArgC.le (CLe.any _) rfl)) rfl rfl rfl (.inl rfl) rfl) ?_
  refine aops_step1 rfl (st_movet rfl rfl) ?_
  refine aops_step1 rfl (ev_extract rfl rfl rfl) ?_
  refine aops_step1 rfl (ev_extract rfl rfl rfl) ?_
  refine aops_step1 rfl (ev_extract rfl rfl rfl) ?_
  refine aops_step1 rfl (ev_extract rfl rfl rfl) ?_
  refine aops_step1 rfl (st_assign rfl rfl) ?_
  refine aops_step1 rfl (st_assign rfl rfl) ?_
  refine aops_step1 rfl (st_assign rfl rfl) ?_
  refine aops_step1 rfl (st_assign rfl rfl) ?_
  refine aops_nil ?_
  refine aw_seq ?_
  refine aw_region ?_
  refine aops_step1 rfl (st_move rfl rfl) ?_
  obtain ⟨x8, hx8, h⟩ := Md.bind_s h
  refine aops_step1 rfl (ev_call_v (actorgridref1_Open_fn k a0 x8 hx8) rfl [] (by repeat' (first | exact All2.nil | refine All2.cons ?_ ?_ | refine ArgV.one ?_ | refine ArgV.agg ?_ | exact ArgC.mk rfl | exact ArgC.lend rfl (by simp) | exact ArgC.le (CLe.nil _) rfl | exact ArgC.le (CLe.emp _) rfl | exact ArgC.le (CLe.any _) rfl)) rfl rfl rfl (.inl rfl) rfl) ?_
  refine aops_step1 rfl (st_movet rfl rfl) ?_
  refine aops_step1 rfl (ev_extract rfl rfl rfl) ?_
  refine aops_step1 rfl (ev_extract rfl rfl rfl) ?_
  refine aops_step1 rfl (ev_extract rfl rfl rfl) ?_
  refine aops_step1 rfl (ev_extract rfl rfl rfl) ?_
  refine aops_step1 rfl (st_assign rfl rfl) ?_
  refine aops_step1 rfl (st_assign rfl rfl) ?_
  refine aops_step1 rfl (st_assign rfl rfl) ?_
  refine aops_step1 rfl (st_assign rfl rfl) ?_
  refine aops_nil ?_
  refine aw_seq ?_
  refine aw_region ?_
  refine aops_step1 rfl (st_move rfl rfl) ?_
  refine aops_step1 rfl (st_move rfl rfl) ?_
  obtain ⟨x9, hx9, h⟩ := Md.bind_s h
  refine aops_step1 rfl (ev_call_v (actorgridlaw1_same_fn k x5.1 x6.1 x9 hx9) rfl [] (by repeat' (first | exact All2.nil | refine All2.cons ?_ ?_ | refine ArgV.one ?_ | refine ArgV.agg ?_ | exact ArgC.mk rfl | exact ArgC.lend rfl (by simp) | exact ArgC.le (CLe.nil _) rfl | exact ArgC.le (CLe.emp _) rfl | exact ArgC.le (CLe.any _) rfl)) rfl rfl rfl (.inl rfl) rfl) ?_
  refine aops_step1 rfl (st_move rfl rfl) ?_
  refine aops_mid 4 (⟨90, [], [(0, .one (CV.ls byC a0)), (11, .one (.val (.int .i64 x7.1))), (12, .one (CV.ls byC x7.2.1)), (13, .one (.val (.int .i64 x7.2.2.1))), (14, .one (.val (.int .i64 x7.2.2.2))), (15, .one (.val (.int .i64 x8.1))), (16, .one (CV.ls byC x8.2.1)), (17, .one (.val (.int .i64 x8.2.2.1))), (18, .one (.val (.int .i64 x8.2.2.2))), (62, .one (.val (.bool (x9 && (x5.2 == x6.2)))))], []⟩ : ASt) ?_ ?_
  · rcases Md.bool_or (x9) with q10 | q10
    · skip
      refine aops_yes rfl rfl rfl rfl q10 (st_move rfl rfl) ?_
      refine aops_yes rfl rfl rfl rfl q10 (st_move rfl rfl) ?_
      refine aops_yes rfl rfl rfl rfl q10 (ev_cmp rfl rfl rfl rfl) ?_
      refine aops_step1 rfl (st_pick_yes rfl (by first | rfl | exact q10) rfl rfl) ?_
      refine aops_nil ?_
      show Weak _ _
      (refine weak_mk rfl rfl ?_ ?_ rfl <;> repeat' (first | exact trivial | refine ⟨?_, ?_⟩ | exact VLe.refl _ | exact BLe.refl _ | refine VLe.one (CLe.val ?_) | exact VLe.one (CLe.nil _) | exact VLe.one (CLe.emp _))) <;> (first | (rw [q10]; done) | (rw [q10]; rfl) | (simp [q10]; done))
    refine aops_no rfl rfl rfl rfl rfl (by first | decide | (rw [q10]; decide)) ?_
    refine aops_no rfl rfl rfl rfl rfl (by first | decide | (rw [q10]; decide)) ?_
    refine aops_no rfl rfl rfl rfl rfl (by first | decide | (rw [q10]; decide)) ?_
    refine aops_step1 rfl (st_pick_no rfl (by first | rfl | exact q10) rfl rfl) ?_
    refine aops_nil ?_
    show Weak _ _
    (refine weak_mk rfl rfl ?_ ?_ rfl <;> repeat' (first | exact trivial | refine ⟨?_, ?_⟩ | exact VLe.refl _ | exact BLe.refl _ | refine VLe.one (CLe.val ?_) | exact VLe.one (CLe.nil _) | exact VLe.one (CLe.emp _))) <;> (first | (rw [q10]; done) | (rw [q10]; rfl) | (simp [q10]; done))
  change AOps _ _ _ (⟨90, [], [(0, .one (CV.ls byC a0)), (11, .one (.val (.int .i64 x7.1))), (12, .one (CV.ls byC x7.2.1)), (13, .one (.val (.int .i64 x7.2.2.1))), (14, .one (.val (.int .i64 x7.2.2.2))), (15, .one (.val (.int .i64 x8.1))), (16, .one (CV.ls byC x8.2.1)), (17, .one (.val (.int .i64 x8.2.2.1))), (18, .one (.val (.int .i64 x8.2.2.2))), (62, .one (.val (.bool (x9 && (x5.2 == x6.2)))))], []⟩ : ASt) _
  refine aops_step1 rfl (st_move rfl rfl) ?_
  refine aops_mid 4 (⟨90, [], [(0, .one (CV.ls byC a0)), (12, .one (CV.ls byC x7.2.1)), (13, .one (.val (.int .i64 x7.2.2.1))), (14, .one (.val (.int .i64 x7.2.2.2))), (16, .one (CV.ls byC x8.2.1)), (17, .one (.val (.int .i64 x8.2.2.1))), (18, .one (.val (.int .i64 x8.2.2.2))), (67, .one (.val (.bool ((x9 && (x5.2 == x6.2)) && (x7.1 == x8.1)))))], []⟩ : ASt) ?_ ?_
  · rcases Md.bool_or ((x9 && (x5.2 == x6.2))) with q11 | q11
    · skip
      refine aops_yes rfl rfl rfl rfl q11 (st_move rfl rfl) ?_
      refine aops_yes rfl rfl rfl rfl q11 (st_move rfl rfl) ?_
      refine aops_yes rfl rfl rfl rfl q11 (ev_cmp rfl rfl rfl rfl) ?_
      refine aops_step1 rfl (st_pick_yes rfl (by first | rfl | exact q11) rfl rfl) ?_
      refine aops_nil ?_
      show Weak _ _
      (refine weak_mk rfl rfl ?_ ?_ rfl <;> repeat' (first | exact trivial | refine ⟨?_, ?_⟩ | exact VLe.refl _ | exact BLe.refl _ | refine VLe.one (CLe.val ?_) | exact VLe.one (CLe.nil _) | exact VLe.one (CLe.emp _))) <;> (first | (rw [q11]; done) | (rw [q11]; rfl) | (simp [q11]; done))
    refine aops_no rfl rfl rfl rfl rfl (by first | decide | (rw [q11]; decide)) ?_
    refine aops_no rfl rfl rfl rfl rfl (by first | decide | (rw [q11]; decide)) ?_
    refine aops_no rfl rfl rfl rfl rfl (by first | decide | (rw [q11]; decide)) ?_
    refine aops_step1 rfl (st_pick_no rfl (by first | rfl | exact q11) rfl rfl) ?_
    refine aops_nil ?_
    show Weak _ _
    (refine weak_mk rfl rfl ?_ ?_ rfl <;> repeat' (first | exact trivial | refine ⟨?_, ?_⟩ | exact VLe.refl _ | exact BLe.refl _ | refine VLe.one (CLe.val ?_) | exact VLe.one (CLe.nil _) | exact VLe.one (CLe.emp _))) <;> (first | (rw [q11]; done) | (rw [q11]; rfl) | (simp [q11]; done))
  change AOps _ _ _ (⟨90, [], [(0, .one (CV.ls byC a0)), (12, .one (CV.ls byC x7.2.1)), (13, .one (.val (.int .i64 x7.2.2.1))), (14, .one (.val (.int .i64 x7.2.2.2))), (16, .one (CV.ls byC x8.2.1)), (17, .one (.val (.int .i64 x8.2.2.1))), (18, .one (.val (.int .i64 x8.2.2.2))), (67, .one (.val (.bool ((x9 && (x5.2 == x6.2)) && (x7.1 == x8.1)))))], []⟩ : ASt) _
  refine aops_step1 rfl (st_move rfl rfl) ?_
  obtain ⟨o12, j12, h⟩ := Md.bind_s h
  refine aops_cut 4 (ε := Bool) (fun x12 => (⟨90, [], [(0, .one (CV.ls byC a0)), (13, .one (.val (.int .i64 x7.2.2.1))), (14, .one (.val (.int .i64 x7.2.2.2))), (17, .one (.val (.int .i64 x8.2.2.1))), (18, .one (.val (.int .i64 x8.2.2.2))), (72, .one (.val (.bool x12)))], []⟩ : ASt)) (fun x12 => x12 = o12) ?_ ?_
  · intro x12 hI12
    subst hI12
    change AOps _ _ _ (⟨90, [], [(0, .one (CV.ls byC a0)), (13, .one (.val (.int .i64 x7.2.2.1))), (14, .one (.val (.int .i64 x7.2.2.2))), (17, .one (.val (.int .i64 x8.2.2.1))), (18, .one (.val (.int .i64 x8.2.2.2))), (72, .one (.val (.bool x12)))], []⟩ : ASt) _
    refine aops_step1 rfl (st_move rfl rfl) ?_
    refine aops_mid 4 (⟨90, [], [(0, .one (CV.ls byC a0)), (14, .one (.val (.int .i64 x7.2.2.2))), (18, .one (.val (.int .i64 x8.2.2.2))), (77, .one (.val (.bool (x12 && (x7.2.2.1 == x8.2.2.1)))))], []⟩ : ASt) ?_ ?_
    · rcases Md.bool_or (x12) with q13 | q13
      · skip
        refine aops_yes rfl rfl rfl rfl q13 (st_move rfl rfl) ?_
        refine aops_yes rfl rfl rfl rfl q13 (st_move rfl rfl) ?_
        refine aops_yes rfl rfl rfl rfl q13 (ev_cmp rfl rfl rfl rfl) ?_
        refine aops_step1 rfl (st_pick_yes rfl (by first | rfl | exact q13) rfl rfl) ?_
        refine aops_nil ?_
        show Weak _ _
        (refine weak_mk rfl rfl ?_ ?_ rfl <;> repeat' (first | exact trivial | refine ⟨?_, ?_⟩ | exact VLe.refl _ | exact BLe.refl _ | refine VLe.one (CLe.val ?_) | exact VLe.one (CLe.nil _) | exact VLe.one (CLe.emp _))) <;> (first | (rw [q13]; done) | (rw [q13]; rfl) | (simp [q13]; done))
      refine aops_no rfl rfl rfl rfl rfl (by first | decide | (rw [q13]; decide)) ?_
      refine aops_no rfl rfl rfl rfl rfl (by first | decide | (rw [q13]; decide)) ?_
      refine aops_no rfl rfl rfl rfl rfl (by first | decide | (rw [q13]; decide)) ?_
      refine aops_step1 rfl (st_pick_no rfl (by first | rfl | exact q13) rfl rfl) ?_
      refine aops_nil ?_
      show Weak _ _
      (refine weak_mk rfl rfl ?_ ?_ rfl <;> repeat' (first | exact trivial | refine ⟨?_, ?_⟩ | exact VLe.refl _ | exact BLe.refl _ | refine VLe.one (CLe.val ?_) | exact VLe.one (CLe.nil _) | exact VLe.one (CLe.emp _))) <;> (first | (rw [q13]; done) | (rw [q13]; rfl) | (simp [q13]; done))
    change AOps _ _ _ (⟨90, [], [(0, .one (CV.ls byC a0)), (14, .one (.val (.int .i64 x7.2.2.2))), (18, .one (.val (.int .i64 x8.2.2.2))), (77, .one (.val (.bool (x12 && (x7.2.2.1 == x8.2.2.1)))))], []⟩ : ASt) _
    refine aops_step1 rfl (st_move rfl rfl) ?_
    refine aops_mid 4 (⟨90, [], [(0, .one (CV.ls byC a0)), (82, .one (.val (.bool ((x12 && (x7.2.2.1 == x8.2.2.1)) && (x7.2.2.2 == x8.2.2.2)))))], []⟩ : ASt) ?_ ?_
    · rcases Md.bool_or ((x12 && (x7.2.2.1 == x8.2.2.1))) with q14 | q14
      · skip
        refine aops_yes rfl rfl rfl rfl q14 (st_move rfl rfl) ?_
        refine aops_yes rfl rfl rfl rfl q14 (st_move rfl rfl) ?_
        refine aops_yes rfl rfl rfl rfl q14 (ev_cmp rfl rfl rfl rfl) ?_
        refine aops_step1 rfl (st_pick_yes rfl (by first | rfl | exact q14) rfl rfl) ?_
        refine aops_nil ?_
        show Weak _ _
        (refine weak_mk rfl rfl ?_ ?_ rfl <;> repeat' (first | exact trivial | refine ⟨?_, ?_⟩ | exact VLe.refl _ | exact BLe.refl _ | refine VLe.one (CLe.val ?_) | exact VLe.one (CLe.nil _) | exact VLe.one (CLe.emp _))) <;> (first | (rw [q14]; done) | (rw [q14]; rfl) | (simp [q14]; done))
      refine aops_no rfl rfl rfl rfl rfl (by first | decide | (rw [q14]; decide)) ?_
      refine aops_no rfl rfl rfl rfl rfl (by first | decide | (rw [q14]; decide)) ?_
      refine aops_no rfl rfl rfl rfl rfl (by first | decide | (rw [q14]; decide)) ?_
      refine aops_step1 rfl (st_pick_no rfl (by first | rfl | exact q14) rfl rfl) ?_
      refine aops_nil ?_
      show Weak _ _
      (refine weak_mk rfl rfl ?_ ?_ rfl <;> repeat' (first | exact trivial | refine ⟨?_, ?_⟩ | exact VLe.refl _ | exact BLe.refl _ | refine VLe.one (CLe.val ?_) | exact VLe.one (CLe.nil _) | exact VLe.one (CLe.emp _))) <;> (first | (rw [q14]; done) | (rw [q14]; rfl) | (simp [q14]; done))
    change AOps _ _ _ (⟨90, [], [(0, .one (CV.ls byC a0)), (82, .one (.val (.bool ((x12 && (x7.2.2.1 == x8.2.2.1)) && (x7.2.2.2 == x8.2.2.2)))))], []⟩ : ASt) _
    refine aops_step1 rfl (st_move rfl rfl) ?_
    obtain ⟨o15, j15, h⟩ := Md.bind_s h
    refine aops_cut 6 (ε := Bool) (fun x15 => (⟨90, [], [(89, .one (.val (.bool x15)))], []⟩ : ASt)) (fun x15 => x15 = o15) ?_ ?_
    · intro x15 hI15
      subst hI15
      change AOps _ _ _ (⟨90, [], [(89, .one (.val (.bool x15)))], []⟩ : ASt) _
      refine aops_step1 rfl (st_assign rfl rfl) ?_
      refine aops_nil ?_
      cases Option.some.inj h
      refine aw_ret ⟨rfl, ret_v (.inl ⟨_, rfl, rfl, fun _ e => nomatch e⟩) rfl rfl rfl ?_⟩
      (repeat' (first | exact TLe.refl _ | exact VLe.refl _ | exact CLe.refl _ | exact All2.nil | refine TLe.tup ?_ | refine TLe.v ?_ | refine All2.cons ?_ ?_ | refine VLe.agg ?_ | refine VLe.one ?_ | exact CLe.nil _ | exact CLe.emp _ | refine CLe.val ?_ | refine CLe.slc ?_ ?_))
    rcases Md.bool_or (((x12 && (x7.2.2.1 == x8.2.2.1)) && (x7.2.2.2 == x8.2.2.2))) with q15 | q15
    · replace j15 := Md.cond_t j15 q15
      refine aops_yes rfl rfl rfl rfl q15 (st_move rfl rfl) ?_
      obtain ⟨x16, hx16, j15⟩ := Md.bind_s j15
      refine aops_yes rfl rfl rfl rfl q15 (ev_call_v (wire_Checksum_fn k a0 x16 hx16) rfl [] (by repeat' (first | exact All2.nil | refine All2.cons ?_ ?_ | refine ArgV.one ?_ | refine ArgV.agg ?_ | exact ArgC.mk rfl | exact ArgC.lend rfl (by simp) | exact ArgC.le (CLe.nil _) rfl | exact ArgC.le (CLe.emp _) rfl | exact ArgC.le (CLe.any _) rfl)) rfl rfl rfl (.inl rfl) rfl) ?_
      refine aops_yes rfl rfl rfl rfl q15 (st_move rfl rfl) ?_
      obtain ⟨x17, hx17, j15⟩ := Md.bind_s j15
      refine aops_yes rfl rfl rfl rfl q15 (ev_call_v (actorgridref1_Checksum_fn k a0 x17 hx17) rfl [] (by repeat' (first | exact All2.nil | refine All2.cons ?_ ?_ | refine ArgV.one ?_ | refine ArgV.agg ?_ | exact ArgC.mk rfl | exact ArgC.lend rfl (by simp) | exact ArgC.le (CLe.nil _) rfl | exact ArgC.le (CLe.emp _) rfl | exact ArgC.le (CLe.any _) rfl)) rfl rfl rfl (.inl rfl) rfl) ?_
      refine aops_yes rfl rfl rfl rfl q15 (ev_cmp rfl rfl rfl rfl) ?_
      refine aops_step1 rfl (st_pick_yes rfl (by first | rfl | exact q15) rfl rfl) ?_
      refine aops_nil ?_
      show ∃ _x : Bool, _ = _ ∧ Weak _ _
      exact ⟨((x16.toNat : Int) == (x17.toNat : Int)), Option.some.inj j15, (by (refine weak_mk rfl rfl ?_ ?_ rfl <;> repeat' (first | exact trivial | refine ⟨?_, ?_⟩ | exact VLe.refl _ | exact BLe.refl _ | refine VLe.one (CLe.val ?_) | exact VLe.one (CLe.nil _) | exact VLe.one (CLe.emp _))))⟩
    replace j15 := Md.cond_f j15 q15
    refine aops_no rfl rfl rfl rfl rfl (by first | decide | (rw [q15]; decide)) ?_
    refine aops_no rfl rfl rfl rfl rfl (by first | decide | (rw [q15]; decide)) ?_
    refine aops_no rfl rfl rfl rfl rfl (by first | decide | (rw [q15]; decide)) ?_
    refine aops_no rfl rfl rfl rfl rfl (by first | decide | (rw [q15]; decide)) ?_
    refine aops_no rfl rfl rfl rfl rfl (by first | decide | (rw [q15]; decide)) ?_
    refine aops_step1 rfl (st_pick_no rfl (by first | rfl | exact q15) rfl rfl) ?_
    refine aops_nil ?_
    show ∃ _x : Bool, _ = _ ∧ Weak _ _
    exact ⟨false, Option.some.inj j15, (by (refine weak_mk rfl rfl ?_ ?_ rfl <;> repeat' (first | exact trivial | refine ⟨?_, ?_⟩ | exact VLe.refl _ | exact BLe.refl _ | refine VLe.one (CLe.val ?_) | exact VLe.one (CLe.nil _) | exact VLe.one (CLe.emp _))))⟩
  rcases Md.bool_or (((x9 && (x5.2 == x6.2)) && (x7.1 == x8.1))) with q12 | q12
  · replace j12 := Md.cond_t j12 q12
    refine aops_yes rfl rfl rfl rfl q12 (st_move rfl rfl) ?_
    refine aops_yes rfl rfl rfl rfl q12 (st_move rfl rfl) ?_
    obtain ⟨x18, hx18, j12⟩ := Md.bind_s j12
    refine aops_yes rfl rfl rfl rfl q12 (ev_call_v (actorgridlaw1_same_fn k x7.2.1 x8.2.1 x18 hx18) rfl [] (by repeat' (first | exact All2.nil | refine All2.cons ?_ ?_ | refine ArgV.one ?_ | refine ArgV.agg ?_ | exact ArgC.mk rfl | exact ArgC.lend rfl (by simp) | exact ArgC.le (CLe.nil _) rfl | exact ArgC.le (CLe.emp _) rfl | exact ArgC.le (CLe.any _) rfl)) rfl rfl rfl (.inl rfl) rfl) ?_
    refine aops_step1 rfl (st_pick_yes rfl (by first | rfl | exact q12) rfl rfl) ?_
    refine aops_nil ?_
    show ∃ _x : Bool, _ = _ ∧ Weak _ _
    exact ⟨x18, Option.some.inj j12, (by (refine weak_mk rfl rfl ?_ ?_ rfl <;> repeat' (first | exact trivial | refine ⟨?_, ?_⟩ | exact VLe.refl _ | exact BLe.refl _ | refine VLe.one (CLe.val ?_) | exact VLe.one (CLe.nil _) | exact VLe.one (CLe.emp _))))⟩
  replace j12 := Md.cond_f j12 q12
  refine aops_no rfl rfl rfl rfl rfl (by first | decide | (rw [q12]; decide)) ?_
  refine aops_no rfl rfl rfl rfl rfl (by first | decide | (rw [q12]; decide)) ?_
  refine aops_no rfl rfl rfl rfl rfl (by first | decide | (rw [q12]; decide)) ?_
  refine aops_step1 rfl (st_pick_no rfl (by first | rfl | exact q12) rfl rfl) ?_
  refine aops_nil ?_
  show ∃ _x : Bool, _ = _ ∧ Weak _ _
  exact ⟨false, Option.some.inj j12, (by (refine weak_mk rfl rfl ?_ ?_ rfl <;> repeat' (first | exact trivial | refine ⟨?_, ?_⟩ | exact VLe.refl _ | exact BLe.refl _ | refine VLe.one (CLe.val ?_) | exact VLe.one (CLe.nil _) | exact VLe.one (CLe.emp _))))⟩
end Md
end Go.Proofs.Ytbnjdkpangmneaa
