/-
  WlTexts: where a function's model gives a value, the function returns what reads as it (printed by wip/tools/auto.py). Condition of each: the model gives a value.
-/
import Derived.Test.YtbnjdkpangmneaaWlTextsM
import Derived.Test.YtbnjdkpangmneaaWireL
namespace Go.Proofs.Ytbnjdkpangmneaa
open Go.ChangeShapes Go.WideShapes Go.RowKit
open Abs
set_option linter.unusedVariables false
set_option linter.unusedSimpArgs false
set_option maxRecDepth 10000
namespace Md
set_option maxHeartbeats 2000000 in
theorem actorgridlaw1_WireTexts_fn (k : Nat) (a0 : List UInt8) (a1 : List UInt8) (a2 : List Int) (a3 : List (List UInt8)) (a4 : Int) (r : Bool) (h : actorgridlaw1_WireTexts k a0 a1 a2 a3 a4 = some r) : FnC Try.prog 3 [.one (CV.ls byC a0), .one (.val (Sv a1)), .one (CV.ls c_Int a2), .one (CV.ls c_Str a3), .one (.val (.int .i64 a4))] [] (Det (.one (.val (.bool r))) []) := by
  unfold actorgridlaw1_WireTexts at h
  refine fn_intro' 177 Try.func3 rfl rfl rfl ?_
  refine aw_seq ?_
  refine aw_region ?_
  refine aops_step1 rfl (st_assign rfl rfl) ?_
  refine aops_nil ?_
  refine aw_seq ?_
  refine aw_seq ?_
  refine aw_region ?_
  obtain ⟨x1, hx1, h⟩ := Md.bind_s h
  refine aops_step1 rfl (ev_call_v (actorgridlaw1_awake_fn k x1 hx1) rfl [] (by repeat' (first | exact All2.nil | refine All2.cons ?_ ?_ | refine ArgV.one ?_ | refine ArgV.agg ?_ | exact ArgC.mk rfl | exact ArgC.lend rfl (by simp) | exact ArgC.le (CLe.nil _) rfl | exact ArgC.le (CLe.emp _) rfl | exact ArgC.le (CLe.any _) rfl)) rfl rfl rfl (.inl rfl) rfl) ?_
  refine aops_step1 rfl (ev_not rfl rfl) ?_
  refine aops_nil ?_
  refine aw_cond rfl (fun c2 => ?_) (fun c2 => ?_)
  · replace h := Md.cond_t h c2
    refine aw_seq ?_
    refine aw_region ?_
    refine aops_step1 rfl (st_assign rfl rfl) ?_
    refine aops_nil ?_
    cases Option.some.inj h
    refine aw_ret ⟨rfl, ret_v (.inl ⟨_, rfl, rfl, fun _ e => nomatch e⟩) rfl rfl rfl ?_⟩
    (repeat' (first | exact TLe.refl _ | exact VLe.refl _ | exact CLe.refl _ | exact All2.nil | refine TLe.tup ?_ | refine TLe.v ?_ | refine All2.cons ?_ ?_ | refine VLe.agg ?_ | refine VLe.one ?_ | exact CLe.nil _ | exact CLe.emp _ | refine CLe.val ?_ | refine CLe.slc ?_ ?_))
  replace h := Md.cond_f h c2
  refine aw_skip ?_
  refine aw_seq ?_
  refine aw_seq ?_
  refine aw_region ?_
  refine aops_step1 rfl (st_move rfl rfl) ?_
  refine aops_step1 rfl (ev_len_slc rfl rfl) ?_
  refine aops_step1 rfl (ev_cmp rfl rfl rfl rfl) ?_
  refine aops_step1 rfl (st_move rfl rfl) ?_
  refine aops_mid 4 (⟨177, [], [(0, .one (CV.ls byC a0)), (1, .one (.val (Sv a1))), (2, .one (CV.ls c_Int a2)), (3, .one (CV.ls c_Str a3)), (4, .one (.val (.int .i64 a4))), (39, .one (.val (.bool ((decide (((a0.length : Nat) : Int) > 2000)) || (decide (((a1.length : Nat) : Int) > 500))))))], []⟩ : ASt) ?_ ?_
  · rcases Md.bool_or ((decide (((a0.length : Nat) : Int) > 2000))) with q3 | q3
    · skip
      refine aops_no rfl rfl rfl rfl rfl (by first | decide | (rw [q3]; decide)) ?_
      refine aops_no rfl rfl rfl rfl rfl (by first | decide | (rw [q3]; decide)) ?_
      refine aops_no rfl rfl rfl rfl rfl (by first | decide | (rw [q3]; decide)) ?_
      refine aops_step1 rfl (st_pick_yes rfl (by first | rfl | exact q3) rfl rfl) ?_
      refine aops_nil ?_
      show Weak _ _
      (refine weak_mk rfl rfl ?_ ?_ rfl <;> repeat' (first | exact trivial | refine ⟨?_, ?_⟩ | exact VLe.refl _ | exact BLe.refl _ | refine VLe.one (CLe.val ?_) | exact VLe.one (CLe.nil _) | exact VLe.one (CLe.emp _))) <;> (first | (rw [q3]; done) | (rw [q3]; rfl) | (simp [q3]; done))
    refine aops_yes rfl rfl rfl rfl q3 (st_move rfl rfl) ?_
    refine aops_yes rfl rfl rfl rfl q3 (st_len_str rfl rfl) ?_
    refine aops_yes rfl rfl rfl rfl q3 (ev_cmp rfl rfl rfl rfl) ?_
    refine aops_step1 rfl (st_pick_no rfl (by first | rfl | exact q3) rfl rfl) ?_
    refine aops_nil ?_
    show Weak _ _
    (refine weak_mk rfl rfl ?_ ?_ rfl <;> repeat' (first | exact trivial | refine ⟨?_, ?_⟩ | exact VLe.refl _ | exact BLe.refl _ | refine VLe.one (CLe.val ?_) | exact VLe.one (CLe.nil _) | exact VLe.one (CLe.emp _))) <;> (first | (rw [q3]; done) | (rw [q3]; rfl) | (simp [q3]; done))
  change AOps _ _ _ (⟨177, [], [(0, .one (CV.ls byC a0)), (1, .one (.val (Sv a1))), (2, .one (CV.ls c_Int a2)), (3, .one (CV.ls c_Str a3)), (4, .one (.val (.int .i64 a4))), (39, .one (.val (.bool ((decide (((a0.length : Nat) : Int) > 2000)) || (decide (((a1.length : Nat) : Int) > 500))))))], []⟩ : ASt) _
  refine aops_step1 rfl (st_move rfl rfl) ?_
  refine aops_mid 4 (⟨177, [], [(0, .one (CV.ls byC a0)), (1, .one (.val (Sv a1))), (2, .one (CV.ls c_Int a2)), (3, .one (CV.ls c_Str a3)), (4, .one (.val (.int .i64 a4))), (44, .one (.val (.bool (((decide (((a0.length : Nat) : Int) > 2000)) || (decide (((a1.length : Nat) : Int) > 500))) || (decide (((a2.length : Nat) : Int) > 100))))))], []⟩ : ASt) ?_ ?_
  · rcases Md.bool_or (((decide (((a0.length : Nat) : Int) > 2000)) || (decide (((a1.length : Nat) : Int) > 500)))) with q4 | q4
    · skip
      refine aops_no rfl rfl rfl rfl rfl (by first | decide | (rw [q4]; decide)) ?_
      refine aops_no rfl rfl rfl rfl rfl (by first | decide | (rw [q4]; decide)) ?_
      refine aops_no rfl rfl rfl rfl rfl (by first | decide | (rw [q4]; decide)) ?_
      refine aops_step1 rfl (st_pick_yes rfl (by first | rfl | exact q4) rfl rfl) ?_
      refine aops_nil ?_
      show Weak _ _
      (refine weak_mk rfl rfl ?_ ?_ rfl <;> repeat' (first | exact trivial | refine ⟨?_, ?_⟩ | exact VLe.refl _ | exact BLe.refl _ | refine VLe.one (CLe.val ?_) | exact VLe.one (CLe.nil _) | exact VLe.one (CLe.emp _))) <;> (first | (rw [q4]; done) | (rw [q4]; rfl) | (simp [q4]; done))
    refine aops_yes rfl rfl rfl rfl q4 (st_move rfl rfl) ?_
    refine aops_yes rfl rfl rfl rfl q4 (ev_len_slc rfl rfl) ?_
    refine aops_yes rfl rfl rfl rfl q4 (ev_cmp rfl rfl rfl rfl) ?_
    refine aops_step1 rfl (st_pick_no rfl (by first | rfl | exact q4) rfl rfl) ?_
    refine aops_nil ?_
    show Weak _ _
    (refine weak_mk rfl rfl ?_ ?_ rfl <;> repeat' (first | exact trivial | refine ⟨?_, ?_⟩ | exact VLe.refl _ | exact BLe.refl _ | refine VLe.one (CLe.val ?_) | exact VLe.one (CLe.nil _) | exact VLe.one (CLe.emp _))) <;> (first | (rw [q4]; done) | (rw [q4]; rfl) | (simp [q4]; done))
  change AOps _ _ _ (⟨177, [], [(0, .one (CV.ls byC a0)), (1, .one (.val (Sv a1))), (2, .one (CV.ls c_Int a2)), (3, .one (CV.ls c_Str a3)), (4, .one (.val (.int .i64 a4))), (44, .one (.val (.bool (((decide (((a0.length : Nat) : Int) > 2000)) || (decide (((a1.length : Nat) : Int) > 500))) || (decide (((a2.length : Nat) : Int) > 100))))))], []⟩ : ASt) _
  refine aops_step1 rfl (st_move rfl rfl) ?_
  refine aops_mid 4 (⟨177, [], [(0, .one (CV.ls byC a0)), (1, .one (.val (Sv a1))), (2, .one (CV.ls c_Int a2)), (3, .one (CV.ls c_Str a3)), (4, .one (.val (.int .i64 a4))), (49, .one (.val (.bool ((((decide (((a0.length : Nat) : Int) > 2000)) || (decide (((a1.length : Nat) : Int) > 500))) || (decide (((a2.length : Nat) : Int) > 100))) || (decide (((a3.length : Nat) : Int) > 100))))))], []⟩ : ASt) ?_ ?_
  · rcases Md.bool_or ((((decide (((a0.length : Nat) : Int) > 2000)) || (decide (((a1.length : Nat) : Int) > 500))) || (decide (((a2.length : Nat) : Int) > 100)))) with q5 | q5
    · skip
      refine aops_no rfl rfl rfl rfl rfl (by first | decide | (rw [q5]; decide)) ?_
      refine aops_no rfl rfl rfl rfl rfl (by first | decide | (rw [q5]; decide)) ?_
      refine aops_no rfl rfl rfl rfl rfl (by first | decide | (rw [q5]; decide)) ?_
      refine aops_step1 rfl (st_pick_yes rfl (by first | rfl | exact q5) rfl rfl) ?_
      refine aops_nil ?_
      show Weak _ _
      (refine weak_mk rfl rfl ?_ ?_ rfl <;> repeat' (first | exact trivial | refine ⟨?_, ?_⟩ | exact VLe.refl _ | exact BLe.refl _ | refine VLe.one (CLe.val ?_) | exact VLe.one (CLe.nil _) | exact VLe.one (CLe.emp _))) <;> (first | (rw [q5]; done) | (rw [q5]; rfl) | (simp [q5]; done))
    refine aops_yes rfl rfl rfl rfl q5 (st_move rfl rfl) ?_
    refine aops_yes rfl rfl rfl rfl q5 (ev_len_slc rfl rfl) ?_
    refine aops_yes rfl rfl rfl rfl q5 (ev_cmp rfl rfl rfl rfl) ?_
    refine aops_step1 rfl (st_pick_no rfl (by first | rfl | exact q5) rfl rfl) ?_
    refine aops_nil ?_
    show Weak _ _
    (refine weak_mk rfl rfl ?_ ?_ rfl <;> repeat' (first | exact trivial | refine ⟨?_, ?_⟩ | exact VLe.refl _ | exact BLe.refl _ | refine VLe.one (CLe.val ?_) | exact VLe.one (CLe.nil _) | exact VLe.one (CLe.emp _))) <;> (first | (rw [q5]; done) | (rw [q5]; rfl) | (simp [q5]; done))
  change AOps _ _ _ (⟨177, [], [(0, .one (CV.ls byC a0)), (1, .one (.val (Sv a1))), (2, .one (CV.ls c_Int a2)), (3, .one (CV.ls c_Str a3)), (4, .one (.val (.int .i64 a4))), (49, .one (.val (.bool ((((decide (((a0.length : Nat) : Int) > 2000)) || (decide (((a1.length : Nat) : Int) > 500))) || (decide (((a2.length : Nat) : Int) > 100))) || (decide (((a3.length : Nat) : Int) > 100))))))], []⟩ : ASt) _
  refine aops_nil ?_
  refine aw_cond rfl (fun c6 => ?_) (fun c6 => ?_)
  · replace h := Md.cond_t h c6
    refine aw_seq ?_
    refine aw_region ?_
    refine aops_step1 rfl (st_assign rfl rfl) ?_
    refine aops_nil ?_
    cases Option.some.inj h
    refine aw_ret ⟨rfl, ret_v (.inl ⟨_, rfl, rfl, fun _ e => nomatch e⟩) rfl rfl rfl ?_⟩
    (repeat' (first | exact TLe.refl _ | exact VLe.refl _ | exact CLe.refl _ | exact All2.nil | refine TLe.tup ?_ | refine TLe.v ?_ | refine All2.cons ?_ ?_ | refine VLe.agg ?_ | refine VLe.one ?_ | exact CLe.nil _ | exact CLe.emp _ | refine CLe.val ?_ | refine CLe.slc ?_ ?_))
  replace h := Md.cond_f h c6
  refine aw_skip ?_
  refine aw_seq ?_
  refine aw_seq ?_
  refine aw_region ?_
  refine aops_step1 rfl (st_assign rfl rfl) ?_
  refine aops_nil ?_
  refine aw_block ?_
  obtain ⟨o7, ho7, h⟩ := Md.bind_s h
  refine aw_loop_x (ι := {p : Nat × Nat // actorgridlaw1_WireTexts_loop1 k a3 p.1 p.2 = some o7}) (fun p => (⟨177, [], [(0, .one (CV.ls byC a0)), (1, .one (.val (Sv a1))), (2, .one (CV.ls c_Int a2)), (3, .one (CV.ls c_Str a3)), (4, .one (.val (.int .i64 a4))), (11, .one (.val (.int .i64 ((p.1.2 : Nat) : Int))))], []⟩ : ASt)) (fun p => p.1.1) ⟨(k, 0), ho7⟩ (by (refine weak_mk rfl rfl ?_ ?_ rfl <;> repeat' (first | exact trivial | refine ⟨?_, ?_⟩ | exact VLe.refl _ | exact BLe.refl _ | refine VLe.one (CLe.val ?_) | exact VLe.one (CLe.nil _) | exact VLe.one (CLe.emp _)))) 0 (ε := Unit) (fun x => (⟨177, [], [(0, .one (CV.ls byC a0)), (1, .one (.val (Sv a1))), (2, .one (CV.ls c_Int a2)), (3, .one (CV.ls c_Str a3)), (4, .one (.val (.int .i64 a4)))], []⟩ : ASt)) (fun x => Sum.inl x = o7) (fun _ _ w h => aw_weak w h) ?_ ?_
  · intro x7_0 hI7
    subst hI7
    replace h := Md.onS_l h
    change AW _ _ (⟨177, [], [(0, .one (CV.ls byC a0)), (1, .one (.val (Sv a1))), (2, .one (CV.ls c_Int a2)), (3, .one (CV.ls c_Str a3)), (4, .one (.val (.int .i64 a4)))], []⟩ : ASt) _
    refine aw_seq ?_
    refine aw_region ?_
    refine aops_step1 rfl (st_move rfl rfl) ?_
    refine aops_step1 rfl (st_move rfl rfl) ?_
    obtain ⟨x8, hx8, h⟩ := Md.bind_s h
    refine aops_step1 rfl (ev_call_v (wire_String_fn k a0 a4 x8 hx8) rfl [] (by repeat' (first | exact All2.nil | refine All2.cons ?_ ?_ | refine ArgV.one ?_ | refine ArgV.agg ?_ | exact ArgC.mk rfl | exact ArgC.lend rfl (by simp) | exact ArgC.le (CLe.nil _) rfl | exact ArgC.le (CLe.emp _) rfl | exact ArgC.le (CLe.any _) rfl)) rfl rfl rfl (.inl rfl) rfl) ?_
    refine aops_step1 rfl (st_movet rfl rfl) ?_
    refine aops_step1 rfl (ev_extract rfl rfl rfl) ?_
    refine aops_step1 rfl (ev_extract rfl rfl rfl) ?_
    refine aops_step1 rfl (ev_extract rfl rfl rfl) ?_
    refine aops_step1 rfl (st_assign rfl rfl) ?_
    refine aops_step1 rfl (st_assign rfl rfl) ?_
    refine aops_step1 rfl (st_assign rfl rfl) ?_
    refine aops_nil ?_
    refine aw_seq ?_
    refine aw_region ?_
    refine aops_step1 rfl (st_move rfl rfl) ?_
    refine aops_step1 rfl (st_move rfl rfl) ?_
    obtain ⟨x9, hx9, h⟩ := Md.bind_s h
    refine aops_step1 rfl (ev_call_v (actorgridref1_ReadString_fn k a0 a4 x9 hx9) rfl [] (by repeat' (first | exact All2.nil | refine All2.cons ?_ ?_ | refine ArgV.one ?_ | refine ArgV.agg ?_ | exact ArgC.mk rfl | exact ArgC.lend rfl (by simp) | exact ArgC.le (CLe.nil _) rfl | exact ArgC.le (CLe.emp _) rfl | exact ArgC.le (CLe.any _) rfl)) rfl rfl rfl (.inl rfl) rfl) ?_
    refine aops_step1 rfl (st_movet rfl rfl) ?_
    refine aops_step1 rfl (ev_extract rfl rfl rfl) ?_
    refine aops_step1 rfl (ev_extract rfl rfl rfl) ?_
    refine aops_step1 rfl (ev_extract rfl rfl rfl) ?_
    refine aops_step1 rfl (st_assign rfl rfl) ?_
    refine aops_step1 rfl (st_assign rfl rfl) ?_
    refine aops_step1 rfl (st_assign rfl rfl) ?_
    refine aops_nil ?_
    refine aw_seq ?_
    refine aw_region ?_
    refine aops_step1 rfl (st_move rfl rfl) ?_
    refine aops_step1 rfl (st_move rfl rfl) ?_
    obtain ⟨x10, hx10, h⟩ := Md.bind_s h
    refine aops_step1 rfl (ev_call_v (wire_IntList_fn k a0 a4 x10 hx10) rfl [] (by repeat' (first | exact All2.nil | refine All2.cons ?_ ?_ | refine ArgV.one ?_ | refine ArgV.agg ?_ | exact ArgC.mk rfl | exact ArgC.lend rfl (by simp) | exact ArgC.le (CLe.nil _) rfl | exact ArgC.le (CLe.emp _) rfl | exact ArgC.le (CLe.any _) rfl)) rfl rfl rfl (.inl rfl) rfl) ?_
    refine aops_step1 rfl (st_movet rfl rfl) ?_
    refine aops_step1 rfl (ev_extract rfl rfl rfl) ?_
    refine aops_step1 rfl (ev_extract rfl rfl rfl) ?_
    refine aops_step1 rfl (ev_extract rfl rfl rfl) ?_
    refine aops_step1 rfl (st_assign rfl rfl) ?_
    refine aops_step1 rfl (st_assign rfl rfl) ?_
    refine aops_step1 rfl (st_assign rfl rfl) ?_
    refine aops_nil ?_
    refine aw_seq ?_
    refine aw_region ?_
    refine aops_step1 rfl (st_move rfl rfl) ?_
    refine aops_step1 rfl (st_move rfl rfl) ?_
    obtain ⟨x11, hx11, h⟩ := Md.bind_s h
    refine aops_step1 rfl (ev_call_v (actorgridref1_ReadIntList_fn k a0 a4 x11 hx11) rfl [] (by repeat' (first | exact All2.nil | refine All2.cons ?_ ?_ | refine ArgV.one ?_ | refine ArgV.agg ?_ | exact ArgC.mk rfl | exact ArgC.lend rfl (by simp) | exact ArgC.le (CLe.nil _) rfl | exact ArgC.le (CLe.emp _) rfl | exact ArgC.le (CLe.any _) rfl)) rfl rfl rfl (.inl rfl) rfl) ?_
    refine aops_step1 rfl (st_movet rfl rfl) ?_
    refine aops_step1 rfl (ev_extract rfl rfl rfl) ?_
    refine aops_step1 rfl (ev_extract rfl rfl rfl) ?_
    refine aops_step1 rfl (ev_extract rfl rfl rfl) ?_
    refine aops_step1 rfl (st_assign rfl rfl) ?_
    refine aops_step1 rfl (st_assign rfl rfl) ?_
    refine aops_step1 rfl (st_assign rfl rfl) ?_
    refine aops_nil ?_
    refine aw_seq ?_
    refine aw_region ?_
    refine aops_step1 rfl (st_move rfl rfl) ?_
    refine aops_step1 rfl (st_move rfl rfl) ?_
    obtain ⟨x12, hx12, h⟩ := Md.bind_s h
    refine aops_step1 rfl (ev_call_v (wire_StringList_fn k a0 a4 x12 hx12) rfl [] (by repeat' (first | exact All2.nil | refine All2.cons ?_ ?_ | refine ArgV.one ?_ | refine ArgV.agg ?_ | exact ArgC.mk rfl | exact ArgC.lend rfl (by simp) | exact ArgC.le (CLe.nil _) rfl | exact ArgC.le (CLe.emp _) rfl | exact ArgC.le (CLe.any _) rfl)) rfl rfl rfl (.inl rfl) rfl) ?_
    refine aops_step1 rfl (st_movet rfl rfl) ?_
    refine aops_step1 rfl (ev_extract rfl rfl rfl) ?_
    refine aops_step1 rfl (ev_extract rfl rfl rfl) ?_
    refine aops_step1 rfl (ev_extract rfl rfl rfl) ?_
    refine aops_step1 rfl (st_assign rfl rfl) ?_
    refine aops_step1 rfl (st_assign rfl rfl) ?_
    refine aops_step1 rfl (st_assign rfl rfl) ?_
    refine aops_nil ?_
    refine aw_seq ?_
    refine aw_region ?_
    refine aops_step1 rfl (st_move rfl rfl) ?_
    refine aops_step1 rfl (st_move rfl rfl) ?_
    obtain ⟨x13, hx13, h⟩ := Md.bind_s h
    refine aops_step1 rfl (ev_call_v (actorgridref1_ReadStringList_fn k a0 a4 x13 hx13) rfl [] (by repeat' (first | exact All2.nil | refine All2.cons ?_ ?_ | refine ArgV.one ?_ | refine ArgV.agg ?_ | exact ArgC.mk rfl | exact ArgC.lend rfl (by simp) | exact ArgC.le (CLe.nil _) rfl | exact ArgC.le (CLe.emp _) rfl | exact ArgC.le (CLe.any _) rfl)) rfl rfl rfl (.inl rfl) rfl) ?_
    refine aops_step1 rfl (st_movet rfl rfl) ?_
    refine aops_step1 rfl (ev_extract rfl rfl rfl) ?_
    refine aops_step1 rfl (ev_extract rfl rfl rfl) ?_
    refine aops_step1 rfl (ev_extract rfl rfl rfl) ?_
    refine aops_step1 rfl (st_assign rfl rfl) ?_
    refine aops_step1 rfl (st_assign rfl rfl) ?_
    refine aops_step1 rfl (st_assign rfl rfl) ?_
    refine aops_nil ?_
    refine aw_seq ?_
    refine aw_seq ?_
    refine aw_region ?_
    refine aops_step1 rfl (st_move rfl rfl) ?_
    refine aops_step1 rfl (st_move rfl rfl) ?_
    refine aops_step1 rfl (st_str_ne rfl rfl rfl) ?_
    refine aops_step1 rfl (st_move rfl rfl) ?_
    refine aops_mid 4 (⟨177, [], [(0, .one (CV.ls byC a0)), (1, .one (.val (Sv a1))), (2, .one (CV.ls c_Int a2)), (3, .one (CV.ls c_Str a3)), (14, .one (.val (.int .i64 x8.2.2))), (17, .one (.val (.int .i64 x9.2.2))), (18, .one (CV.ls c_Int x10.1)), (19, .one (.val (.int .i64 x10.2.1))), (20, .one (.val (.int .i64 x10.2.2))), (21, .one (CV.ls c_Int x11.1)), (22, .one (.val (.int .i64 x11.2.1))), (23, .one (.val (.int .i64 x11.2.2))), (24, .one (CV.ls c_Str x12.1)), (25, .one (.val (.int .i64 x12.2.1))), (26, .one (.val (.int .i64 x12.2.2))), (27, .one (CV.ls c_Str x13.1)), (28, .one (.val (.int .i64 x13.2.1))), (29, .one (.val (.int .i64 x13.2.2))), (111, .one (.val (.bool ((!(decide (x8.1 = x9.1))) || (x8.2.1 != x9.2.1)))))], []⟩ : ASt) ?_ ?_
    · rcases Md.bool_or ((!(decide (x8.1 = x9.1)))) with q14 | q14
      · skip
        refine aops_no rfl rfl rfl rfl rfl (by first | decide | (rw [q14]; decide)) ?_
        refine aops_no rfl rfl rfl rfl rfl (by first | decide | (rw [q14]; decide)) ?_
        refine aops_no rfl rfl rfl rfl rfl (by first | decide | (rw [q14]; decide)) ?_
        refine aops_step1 rfl (st_pick_yes rfl (by first | rfl | exact q14) rfl rfl) ?_
        refine aops_nil ?_
        show Weak _ _
        (refine weak_mk rfl rfl ?_ ?_ rfl <;> repeat' (first | exact trivial | refine ⟨?_, ?_⟩ | exact VLe.refl _ | exact BLe.refl _ | refine VLe.one (CLe.val ?_) | exact VLe.one (CLe.nil _) | exact VLe.one (CLe.emp _))) <;> (first | (rw [q14]; done) | (rw [q14]; rfl) | (simp [q14]; done))
      refine aops_yes rfl rfl rfl rfl q14 (st_move rfl rfl) ?_
      refine aops_yes rfl rfl rfl rfl q14 (st_move rfl rfl) ?_
      refine aops_yes rfl rfl rfl rfl q14 (ev_cmp rfl rfl rfl rfl) ?_
      refine aops_step1 rfl (st_pick_no rfl (by first | rfl | exact q14) rfl rfl) ?_
      refine aops_nil ?_
      show Weak _ _
      (refine weak_mk rfl rfl ?_ ?_ rfl <;> repeat' (first | exact trivial | refine ⟨?_, ?_⟩ | exact VLe.refl _ | exact BLe.refl _ | refine VLe.one (CLe.val ?_) | exact VLe.one (CLe.nil _) | exact VLe.one (CLe.emp _))) <;> (first | (rw [q14]; done) | (rw [q14]; rfl) | (simp [q14]; done))
    change AOps _ _ _ (⟨177, [], [(0, .one (CV.ls byC a0)), (1, .one (.val (Sv a1))), (2, .one (CV.ls c_Int a2)), (3, .one (CV.ls c_Str a3)), (14, .one (.val (.int .i64 x8.2.2))), (17, .one (.val (.int .i64 x9.2.2))), (18, .one (CV.ls c_Int x10.1)), (19, .one (.val (.int .i64 x10.2.1))), (20, .one (.val (.int .i64 x10.2.2))), (21, .one (CV.ls c_Int x11.1)), (22, .one (.val (.int .i64 x11.2.1))), (23, .one (.val (.int .i64 x11.2.2))), (24, .one (CV.ls c_Str x12.1)), (25, .one (.val (.int .i64 x12.2.1))), (26, .one (.val (.int .i64 x12.2.2))), (27, .one (CV.ls c_Str x13.1)), (28, .one (.val (.int .i64 x13.2.1))), (29, .one (.val (.int .i64 x13.2.2))), (111, .one (.val (.bool ((!(decide (x8.1 = x9.1))) || (x8.2.1 != x9.2.1)))))], []⟩ : ASt) _
    refine aops_step1 rfl (st_move rfl rfl) ?_
    refine aops_mid 4 (⟨177, [], [(0, .one (CV.ls byC a0)), (1, .one (.val (Sv a1))), (2, .one (CV.ls c_Int a2)), (3, .one (CV.ls c_Str a3)), (18, .one (CV.ls c_Int x10.1)), (19, .one (.val (.int .i64 x10.2.1))), (20, .one (.val (.int .i64 x10.2.2))), (21, .one (CV.ls c_Int x11.1)), (22, .one (.val (.int .i64 x11.2.1))), (23, .one (.val (.int .i64 x11.2.2))), (24, .one (CV.ls c_Str x12.1)), (25, .one (.val (.int .i64 x12.2.1))), (26, .one (.val (.int .i64 x12.2.2))), (27, .one (CV.ls c_Str x13.1)), (28, .one (.val (.int .i64 x13.2.1))), (29, .one (.val (.int .i64 x13.2.2))), (116, .one (.val (.bool (((!(decide (x8.1 = x9.1))) || (x8.2.1 != x9.2.1)) || (x8.2.2 != x9.2.2)))))], []⟩ : ASt) ?_ ?_
    · rcases Md.bool_or (((!(decide (x8.1 = x9.1))) || (x8.2.1 != x9.2.1))) with q15 | q15
      · skip
        refine aops_no rfl rfl rfl rfl rfl (by first | decide | (rw [q15]; decide)) ?_
        refine aops_no rfl rfl rfl rfl rfl (by first | decide | (rw [q15]; decide)) ?_
        refine aops_no rfl rfl rfl rfl rfl (by first | decide | (rw [q15]; decide)) ?_
        refine aops_step1 rfl (st_pick_yes rfl (by first | rfl | exact q15) rfl rfl) ?_
        refine aops_nil ?_
        show Weak _ _
        (refine weak_mk rfl rfl ?_ ?_ rfl <;> repeat' (first | exact trivial | refine ⟨?_, ?_⟩ | exact VLe.refl _ | exact BLe.refl _ | refine VLe.one (CLe.val ?_) | exact VLe.one (CLe.nil _) | exact VLe.one (CLe.emp _))) <;> (first | (rw [q15]; done) | (rw [q15]; rfl) | (simp [q15]; done))
      refine aops_yes rfl rfl rfl rfl q15 (st_move rfl rfl) ?_
      refine aops_yes rfl rfl rfl rfl q15 (st_move rfl rfl) ?_
      refine aops_yes rfl rfl rfl rfl q15 (ev_cmp rfl rfl rfl rfl) ?_
      refine aops_step1 rfl (st_pick_no rfl (by first | rfl | exact q15) rfl rfl) ?_
      refine aops_nil ?_
      show Weak _ _
      (refine weak_mk rfl rfl ?_ ?_ rfl <;> repeat' (first | exact trivial | refine ⟨?_, ?_⟩ | exact VLe.refl _ | exact BLe.refl _ | refine VLe.one (CLe.val ?_) | exact VLe.one (CLe.nil _) | exact VLe.one (CLe.emp _))) <;> (first | (rw [q15]; done) | (rw [q15]; rfl) | (simp [q15]; done))
    change AOps _ _ _ (⟨177, [], [(0, .one (CV.ls byC a0)), (1, .one (.val (Sv a1))), (2, .one (CV.ls c_Int a2)), (3, .one (CV.ls c_Str a3)), (18, .one (CV.ls c_Int x10.1)), (19, .one (.val (.int .i64 x10.2.1))), (20, .one (.val (.int .i64 x10.2.2))), (21, .one (CV.ls c_Int x11.1)), (22, .one (.val (.int .i64 x11.2.1))), (23, .one (.val (.int .i64 x11.2.2))), (24, .one (CV.ls c_Str x12.1)), (25, .one (.val (.int .i64 x12.2.1))), (26, .one (.val (.int .i64 x12.2.2))), (27, .one (CV.ls c_Str x13.1)), (28, .one (.val (.int .i64 x13.2.1))), (29, .one (.val (.int .i64 x13.2.2))), (116, .one (.val (.bool (((!(decide (x8.1 = x9.1))) || (x8.2.1 != x9.2.1)) || (x8.2.2 != x9.2.2)))))], []⟩ : ASt) _
    refine aops_step1 rfl (st_move rfl rfl) ?_
    obtain ⟨o16, j16, h⟩ := Md.bind_s h
    refine aops_cut 5 (ε := Bool) (fun x16 => (⟨177, [], [(0, .one (CV.ls byC a0)), (1, .one (.val (Sv a1))), (2, .one (CV.ls c_Int a2)), (3, .one (CV.ls c_Str a3)), (19, .one (.val (.int .i64 x10.2.1))), (20, .one (.val (.int .i64 x10.2.2))), (22, .one (.val (.int .i64 x11.2.1))), (23, .one (.val (.int .i64 x11.2.2))), (24, .one (CV.ls c_Str x12.1)), (25, .one (.val (.int .i64 x12.2.1))), (26, .one (.val (.int .i64 x12.2.2))), (27, .one (CV.ls c_Str x13.1)), (28, .one (.val (.int .i64 x13.2.1))), (29, .one (.val (.int .i64 x13.2.2))), (122, .one (.val (.bool x16)))], []⟩ : ASt)) (fun x16 => x16 = o16) ?_ ?_
    · intro x16 hI16
      subst hI16
      change AOps _ _ _ (⟨177, [], [(0, .one (CV.ls byC a0)), (1, .one (.val (Sv a1))), (2, .one (CV.ls c_Int a2)), (3, .one (CV.ls c_Str a3)), (19, .one (.val (.int .i64 x10.2.1))), (20, .one (.val (.int .i64 x10.2.2))), (22, .one (.val (.int .i64 x11.2.1))), (23, .one (.val (.int .i64 x11.2.2))), (24, .one (CV.ls c_Str x12.1)), (25, .one (.val (.int .i64 x12.2.1))), (26, .one (.val (.int .i64 x12.2.2))), (27, .one (CV.ls c_Str x13.1)), (28, .one (.val (.int .i64 x13.2.1))), (29, .one (.val (.int .i64 x13.2.2))), (122, .one (.val (.bool x16)))], []⟩ : ASt) _
      refine aops_step1 rfl (st_move rfl rfl) ?_
      refine aops_mid 4 (⟨177, [], [(0, .one (CV.ls byC a0)), (1, .one (.val (Sv a1))), (2, .one (CV.ls c_Int a2)), (3, .one (CV.ls c_Str a3)), (20, .one (.val (.int .i64 x10.2.2))), (23, .one (.val (.int .i64 x11.2.2))), (24, .one (CV.ls c_Str x12.1)), (25, .one (.val (.int .i64 x12.2.1))), (26, .one (.val (.int .i64 x12.2.2))), (27, .one (CV.ls c_Str x13.1)), (28, .one (.val (.int .i64 x13.2.1))), (29, .one (.val (.int .i64 x13.2.2))), (127, .one (.val (.bool (x16 || (x10.2.1 != x11.2.1)))))], []⟩ : ASt) ?_ ?_
      · rcases Md.bool_or (x16) with q17 | q17
        · skip
          refine aops_no rfl rfl rfl rfl rfl (by first | decide | (rw [q17]; decide)) ?_
          refine aops_no rfl rfl rfl rfl rfl (by first | decide | (rw [q17]; decide)) ?_
          refine aops_no rfl rfl rfl rfl rfl (by first | decide | (rw [q17]; decide)) ?_
          refine aops_step1 rfl (st_pick_yes rfl (by first | rfl | exact q17) rfl rfl) ?_
          refine aops_nil ?_
          show Weak _ _
          (refine weak_mk rfl rfl ?_ ?_ rfl <;> repeat' (first | exact trivial | refine ⟨?_, ?_⟩ | exact VLe.refl _ | exact BLe.refl _ | refine VLe.one (CLe.val ?_) | exact VLe.one (CLe.nil _) | exact VLe.one (CLe.emp _))) <;> (first | (rw [q17]; done) | (rw [q17]; rfl) | (simp [q17]; done))
        refine aops_yes rfl rfl rfl rfl q17 (st_move rfl rfl) ?_
        refine aops_yes rfl rfl rfl rfl q17 (st_move rfl rfl) ?_
        refine aops_yes rfl rfl rfl rfl q17 (ev_cmp rfl rfl rfl rfl) ?_
        refine aops_step1 rfl (st_pick_no rfl (by first | rfl | exact q17) rfl rfl) ?_
        refine aops_nil ?_
        show Weak _ _
        (refine weak_mk rfl rfl ?_ ?_ rfl <;> repeat' (first | exact trivial | refine ⟨?_, ?_⟩ | exact VLe.refl _ | exact BLe.refl _ | refine VLe.one (CLe.val ?_) | exact VLe.one (CLe.nil _) | exact VLe.one (CLe.emp _))) <;> (first | (rw [q17]; done) | (rw [q17]; rfl) | (simp [q17]; done))
      change AOps _ _ _ (⟨177, [], [(0, .one (CV.ls byC a0)), (1, .one (.val (Sv a1))), (2, .one (CV.ls c_Int a2)), (3, .one (CV.ls c_Str a3)), (20, .one (.val (.int .i64 x10.2.2))), (23, .one (.val (.int .i64 x11.2.2))), (24, .one (CV.ls c_Str x12.1)), (25, .one (.val (.int .i64 x12.2.1))), (26, .one (.val (.int .i64 x12.2.2))), (27, .one (CV.ls c_Str x13.1)), (28, .one (.val (.int .i64 x13.2.1))), (29, .one (.val (.int .i64 x13.2.2))), (127, .one (.val (.bool (x16 || (x10.2.1 != x11.2.1)))))], []⟩ : ASt) _
      refine aops_step1 rfl (st_move rfl rfl) ?_
      refine aops_mid 4 (⟨177, [], [(0, .one (CV.ls byC a0)), (1, .one (.val (Sv a1))), (2, .one (CV.ls c_Int a2)), (3, .one (CV.ls c_Str a3)), (24, .one (CV.ls c_Str x12.1)), (25, .one (.val (.int .i64 x12.2.1))), (26, .one (.val (.int .i64 x12.2.2))), (27, .one (CV.ls c_Str x13.1)), (28, .one (.val (.int .i64 x13.2.1))), (29, .one (.val (.int .i64 x13.2.2))), (132, .one (.val (.bool ((x16 || (x10.2.1 != x11.2.1)) || (x10.2.2 != x11.2.2)))))], []⟩ : ASt) ?_ ?_
      · rcases Md.bool_or ((x16 || (x10.2.1 != x11.2.1))) with q18 | q18
        · skip
          refine aops_no rfl rfl rfl rfl rfl (by first | decide | (rw [q18]; decide)) ?_
          refine aops_no rfl rfl rfl rfl rfl (by first | decide | (rw [q18]; decide)) ?_
          refine aops_no rfl rfl rfl rfl rfl (by first | decide | (rw [q18]; decide)) ?_
          refine aops_step1 rfl (st_pick_yes rfl (by first | rfl | exact q18) rfl rfl) ?_
          refine aops_nil ?_
          show Weak _ _
          (refine weak_mk rfl rfl ?_ ?_ rfl <;> repeat' (first | exact trivial | refine ⟨?_, ?_⟩ | exact VLe.refl _ | exact BLe.refl _ | refine VLe.one (CLe.val ?_) | exact VLe.one (CLe.nil _) | exact VLe.one (CLe.emp _))) <;> (first | (rw [q18]; done) | (rw [q18]; rfl) | (simp [q18]; done))
        refine aops_yes rfl rfl rfl rfl q18 (st_move rfl rfl) ?_
        refine aops_yes rfl rfl rfl rfl q18 (st_move rfl rfl) ?_
        refine aops_yes rfl rfl rfl rfl q18 (ev_cmp rfl rfl rfl rfl) ?_
        refine aops_step1 rfl (st_pick_no rfl (by first | rfl | exact q18) rfl rfl) ?_
        refine aops_nil ?_
        show Weak _ _
        (refine weak_mk rfl rfl ?_ ?_ rfl <;> repeat' (first | exact trivial | refine ⟨?_, ?_⟩ | exact VLe.refl _ | exact BLe.refl _ | refine VLe.one (CLe.val ?_) | exact VLe.one (CLe.nil _) | exact VLe.one (CLe.emp _))) <;> (first | (rw [q18]; done) | (rw [q18]; rfl) | (simp [q18]; done))
      change AOps _ _ _ (⟨177, [], [(0, .one (CV.ls byC a0)), (1, .one (.val (Sv a1))), (2, .one (CV.ls c_Int a2)), (3, .one (CV.ls c_Str a3)), (24, .one (CV.ls c_Str x12.1)), (25, .one (.val (.int .i64 x12.2.1))), (26, .one (.val (.int .i64 x12.2.2))), (27, .one (CV.ls c_Str x13.1)), (28, .one (.val (.int .i64 x13.2.1))), (29, .one (.val (.int .i64 x13.2.2))), (132, .one (.val (.bool ((x16 || (x10.2.1 != x11.2.1)) || (x10.2.2 != x11.2.2)))))], []⟩ : ASt) _
      refine aops_step1 rfl (st_move rfl rfl) ?_
      obtain ⟨o19, j19, h⟩ := Md.bind_s h
      refine aops_cut 5 (ε := Bool) (fun x19 => (⟨177, [], [(0, .one (CV.ls byC a0)), (1, .one (.val (Sv a1))), (2, .one (CV.ls c_Int a2)), (3, .one (CV.ls c_Str a3)), (25, .one (.val (.int .i64 x12.2.1))), (26, .one (.val (.int .i64 x12.2.2))), (28, .one (.val (.int .i64 x13.2.1))), (29, .one (.val (.int .i64 x13.2.2))), (138, .one (.val (.bool x19)))], []⟩ : ASt)) (fun x19 => x19 = o19) ?_ ?_
      · intro x19 hI19
        subst hI19
        change AOps _ _ _ (⟨177, [], [(0, .one (CV.ls byC a0)), (1, .one (.val (Sv a1))), (2, .one (CV.ls c_Int a2)), (3, .one (CV.ls c_Str a3)), (25, .one (.val (.int .i64 x12.2.1))), (26, .one (.val (.int .i64 x12.2.2))), (28, .one (.val (.int .i64 x13.2.1))), (29, .one (.val (.int .i64 x13.2.2))), (138, .one (.val (.bool x19)))], []⟩ : ASt) _
        refine aops_step1 rfl (st_move rfl rfl) ?_
        refine aops_mid 4 (⟨177, [], [(0, .one (CV.ls byC a0)), (1, .one (.val (Sv a1))), (2, .one (CV.ls c_Int a2)), (3, .one (CV.ls c_Str a3)), (26, .one (.val (.int .i64 x12.2.2))), (29, .one (.val (.int .i64 x13.2.2))), (143, .one (.val (.bool (x19 || (x12.2.1 != x13.2.1)))))], []⟩ : ASt) ?_ ?_
        · rcases Md.bool_or (x19) with q20 | q20
          · skip
            refine aops_no rfl rfl rfl rfl rfl (by first | decide | (rw [q20]; decide)) ?_
            refine aops_no rfl rfl rfl rfl rfl (by first | decide | (rw [q20]; decide)) ?_
            refine aops_no rfl rfl rfl rfl rfl (by first | decide | (rw [q20]; decide)) ?_
            refine aops_step1 rfl (st_pick_yes rfl (by first | rfl | exact q20) rfl rfl) ?_
            refine aops_nil ?_
            show Weak _ _
            (refine weak_mk rfl rfl ?_ ?_ rfl <;> repeat' (first | exact trivial | refine ⟨?_, ?_⟩ | exact VLe.refl _ | exact BLe.refl _ | refine VLe.one (CLe.val ?_) | exact VLe.one (CLe.nil _) | exact VLe.one (CLe.emp _))) <;> (first | (rw [q20]; done) | (rw [q20]; rfl) | (simp [q20]; done))
          refine aops_yes rfl rfl rfl rfl q20 (st_move rfl rfl) ?_
          refine aops_yes rfl rfl rfl rfl q20 (st_move rfl rfl) ?_
          refine aops_yes rfl rfl rfl rfl q20 (ev_cmp rfl rfl rfl rfl) ?_
          refine aops_step1 rfl (st_pick_no rfl (by first | rfl | exact q20) rfl rfl) ?_
          refine aops_nil ?_
          show Weak _ _
          (refine weak_mk rfl rfl ?_ ?_ rfl <;> repeat' (first | exact trivial | refine ⟨?_, ?_⟩ | exact VLe.refl _ | exact BLe.refl _ | refine VLe.one (CLe.val ?_) | exact VLe.one (CLe.nil _) | exact VLe.one (CLe.emp _))) <;> (first | (rw [q20]; done) | (rw [q20]; rfl) | (simp [q20]; done))
        change AOps _ _ _ (⟨177, [], [(0, .one (CV.ls byC a0)), (1, .one (.val (Sv a1))), (2, .one (CV.ls c_Int a2)), (3, .one (CV.ls c_Str a3)), (26, .one (.val (.int .i64 x12.2.2))), (29, .one (.val (.int .i64 x13.2.2))), (143, .one (.val (.bool (x19 || (x12.2.1 != x13.2.1)))))], []⟩ : ASt) _
        refine aops_step1 rfl (st_move rfl rfl) ?_
        refine aops_mid 4 (⟨177, [], [(0, .one (CV.ls byC a0)), (1, .one (.val (Sv a1))), (2, .one (CV.ls c_Int a2)), (3, .one (CV.ls c_Str a3)), (148, .one (.val (.bool ((x19 || (x12.2.1 != x13.2.1)) || (x12.2.2 != x13.2.2)))))], []⟩ : ASt) ?_ ?_
        · rcases Md.bool_or ((x19 || (x12.2.1 != x13.2.1))) with q21 | q21
          · skip
            refine aops_no rfl rfl rfl rfl rfl (by first | decide | (rw [q21]; decide)) ?_
            refine aops_no rfl rfl rfl rfl rfl (by first | decide | (rw [q21]; decide)) ?_
            refine aops_no rfl rfl rfl rfl rfl (by first | decide | (rw [q21]; decide)) ?_
            refine aops_step1 rfl (st_pick_yes rfl (by first | rfl | exact q21) rfl rfl) ?_
            refine aops_nil ?_
            show Weak _ _
            (refine weak_mk rfl rfl ?_ ?_ rfl <;> repeat' (first | exact trivial | refine ⟨?_, ?_⟩ | exact VLe.refl _ | exact BLe.refl _ | refine VLe.one (CLe.val ?_) | exact VLe.one (CLe.nil _) | exact VLe.one (CLe.emp _))) <;> (first | (rw [q21]; done) | (rw [q21]; rfl) | (simp [q21]; done))
          refine aops_yes rfl rfl rfl rfl q21 (st_move rfl rfl) ?_
          refine aops_yes rfl rfl rfl rfl q21 (st_move rfl rfl) ?_
          refine aops_yes rfl rfl rfl rfl q21 (ev_cmp rfl rfl rfl rfl) ?_
          refine aops_step1 rfl (st_pick_no rfl (by first | rfl | exact q21) rfl rfl) ?_
          refine aops_nil ?_
          show Weak _ _
          (refine weak_mk rfl rfl ?_ ?_ rfl <;> repeat' (first | exact trivial | refine ⟨?_, ?_⟩ | exact VLe.refl _ | exact BLe.refl _ | refine VLe.one (CLe.val ?_) | exact VLe.one (CLe.nil _) | exact VLe.one (CLe.emp _))) <;> (first | (rw [q21]; done) | (rw [q21]; rfl) | (simp [q21]; done))
        change AOps _ _ _ (⟨177, [], [(0, .one (CV.ls byC a0)), (1, .one (.val (Sv a1))), (2, .one (CV.ls c_Int a2)), (3, .one (CV.ls c_Str a3)), (148, .one (.val (.bool ((x19 || (x12.2.1 != x13.2.1)) || (x12.2.2 != x13.2.2)))))], []⟩ : ASt) _
        refine aops_nil ?_
        refine aw_cond rfl (fun c22 => ?_) (fun c22 => ?_)
        · replace h := Md.cond_t h c22
          refine aw_seq ?_
          refine aw_region ?_
          refine aops_step1 rfl (st_assign rfl rfl) ?_
          refine aops_nil ?_
          cases Option.some.inj h
          refine aw_ret ⟨rfl, ret_v (.inl ⟨_, rfl, rfl, fun _ e => nomatch e⟩) rfl rfl rfl ?_⟩
          (repeat' (first | exact TLe.refl _ | exact VLe.refl _ | exact CLe.refl _ | exact All2.nil | refine TLe.tup ?_ | refine TLe.v ?_ | refine All2.cons ?_ ?_ | refine VLe.agg ?_ | refine VLe.one ?_ | exact CLe.nil _ | exact CLe.emp _ | refine CLe.val ?_ | refine CLe.slc ?_ ?_))
        replace h := Md.cond_f h c22
        refine aw_skip ?_
        refine aw_seq ?_
        refine aw_region ?_
        refine aops_step1 rfl (st_move rfl rfl) ?_
        refine aops_step1 rfl (st_move rfl rfl) ?_
        obtain ⟨x23, hx23, h⟩ := Md.bind_s h
        refine aops_step1 rfl (st_call_r (r' := .one (.own 0)) 0 rfl (wire_AppendString_fn k a0 a1 x23 hx23) rfl [] (by repeat' (first | exact All2.nil | refine All2.cons ?_ ?_ | refine ArgV.one ?_ | refine ArgV.agg ?_ | exact ArgC.mk rfl | exact ArgC.lend rfl (by simp) | exact ArgC.le (CLe.nil _) rfl | exact ArgC.le (CLe.emp _) rfl | exact ArgC.le (CLe.any _) rfl)) rfl rfl rfl (.inl rfl) rfl rfl) ?_
        refine aops_step1 rfl (st_move rfl rfl) ?_
        refine aops_step1 rfl (st_move rfl rfl) ?_
        obtain ⟨x24, hx24, h⟩ := Md.bind_s h
        refine aops_step1 rfl (st_call_r (r' := .one (.own 1)) 1 rfl (actorgridref1_String_fn k a1 x24 hx24) rfl [] (by repeat' (first | exact All2.nil | refine All2.cons ?_ ?_ | refine ArgV.one ?_ | refine ArgV.agg ?_ | exact ArgC.mk rfl | exact ArgC.lend rfl (by simp) | exact ArgC.le (CLe.nil _) rfl | exact ArgC.le (CLe.emp _) rfl | exact ArgC.le (CLe.any _) rfl)) rfl rfl rfl (.inl rfl) rfl rfl) ?_
        obtain ⟨x25, hx25, h⟩ := Md.bind_s h
        refine aops_step1 rfl (st_call_r (r' := .one (.own 2)) 2 rfl (actorgridlaw1_join_fn k a0 x24 x25 hx25) rfl [1] (by repeat' (first | exact All2.nil | refine All2.cons ?_ ?_ | refine ArgV.one ?_ | refine ArgV.agg ?_ | exact ArgC.mk rfl | exact ArgC.lend rfl (by simp) | exact ArgC.le (CLe.nil _) rfl | exact ArgC.le (CLe.emp _) rfl | exact ArgC.le (CLe.any _) rfl)) rfl rfl rfl (.inr ⟨rfl, fun _ _ => rfl⟩) rfl rfl) ?_
        obtain ⟨x26, hx26, h⟩ := Md.bind_s h
        refine aops_step1 rfl (ev_call_v (actorgridlaw1_same_fn k x23 x25 x26 hx26) rfl [0, 2] (by repeat' (first | exact All2.nil | refine All2.cons ?_ ?_ | refine ArgV.one ?_ | refine ArgV.agg ?_ | exact ArgC.mk rfl | exact ArgC.lend rfl (by simp) | exact ArgC.le (CLe.nil _) rfl | exact ArgC.le (CLe.emp _) rfl | exact ArgC.le (CLe.any _) rfl)) rfl rfl rfl (.inr rfl) rfl) ?_
        refine aops_step1 rfl (st_move rfl rfl) ?_
        obtain ⟨o27, j27, h⟩ := Md.bind_s h
        refine aops_cut 9 (ε := Bool) (fun x27 => (⟨177, [], [(0, .one (CV.ls byC a0)), (3, .one (CV.ls c_Str a3)), (166, .one (.val (.bool x27)))], []⟩ : ASt)) (fun x27 => x27 = o27) ?_ ?_
        · intro x27 hI27
          subst hI27
          change AOps _ _ _ (⟨177, [], [(0, .one (CV.ls byC a0)), (3, .one (CV.ls c_Str a3)), (166, .one (.val (.bool x27)))], []⟩ : ASt) _
          refine aops_step1 rfl (st_move rfl rfl) ?_
          obtain ⟨o28, j28, h⟩ := Md.bind_s h
          refine aops_cut 9 (ε := Bool) (fun x28 => (⟨177, [], [(176, .one (.val (.bool x28)))], []⟩ : ASt)) (fun x28 => x28 = o28) ?_ ?_
          · intro x28 hI28
            subst hI28
            change AOps _ _ _ (⟨177, [], [(176, .one (.val (.bool x28)))], []⟩ : ASt) _
            refine aops_step1 rfl (st_assign rfl rfl) ?_
            refine aops_nil ?_
            cases Option.some.inj h
            refine aw_ret ⟨rfl, ret_v (.inl ⟨_, rfl, rfl, fun _ e => nomatch e⟩) rfl rfl rfl ?_⟩
            (repeat' (first | exact TLe.refl _ | exact VLe.refl _ | exact CLe.refl _ | exact All2.nil | refine TLe.tup ?_ | refine TLe.v ?_ | refine All2.cons ?_ ?_ | refine VLe.agg ?_ | refine VLe.one ?_ | exact CLe.nil _ | exact CLe.emp _ | refine CLe.val ?_ | refine CLe.slc ?_ ?_))
          rcases Md.bool_or (x27) with q28 | q28
          · replace j28 := Md.cond_t j28 q28
            refine aops_yes rfl rfl rfl rfl q28 (st_move rfl rfl) ?_
            refine aops_yes rfl rfl rfl rfl q28 (st_move rfl rfl) ?_
            obtain ⟨x29, hx29, j28⟩ := Md.bind_s j28
            refine aops_yes rfl rfl rfl rfl q28 (st_call_r (r' := .one (.own 3)) 3 rfl (wire_AppendStrings_fn k a0 a3 x29 hx29) rfl [] (by repeat' (first | exact All2.nil | refine All2.cons ?_ ?_ | refine ArgV.one ?_ | refine ArgV.agg ?_ | exact ArgC.mk rfl | exact ArgC.lend rfl (by simp) | exact ArgC.le (CLe.nil _) rfl | exact ArgC.le (CLe.emp _) rfl | exact ArgC.le (CLe.any _) rfl)) rfl rfl rfl (.inl rfl) rfl rfl) ?_
            refine aops_yes rfl rfl rfl rfl q28 (st_move rfl rfl) ?_
            refine aops_yes rfl rfl rfl rfl q28 (st_move rfl rfl) ?_
            obtain ⟨x30, hx30, j28⟩ := Md.bind_s j28
            refine aops_yes rfl rfl rfl rfl q28 (st_call_r (r' := .one (.own 4)) 4 rfl (actorgridref1_StringList_fn k a3 x30 hx30) rfl [] (by repeat' (first | exact All2.nil | refine All2.cons ?_ ?_ | refine ArgV.one ?_ | refine ArgV.agg ?_ | exact ArgC.mk rfl | exact ArgC.lend rfl (by simp) | exact ArgC.le (CLe.nil _) rfl | exact ArgC.le (CLe.emp _) rfl | exact ArgC.le (CLe.any _) rfl)) rfl rfl rfl (.inl rfl) rfl rfl) ?_
            obtain ⟨x31, hx31, j28⟩ := Md.bind_s j28
            refine aops_yes rfl rfl rfl rfl q28 (st_call_r (r' := .one (.own 5)) 5 rfl (actorgridlaw1_join_fn k a0 x30 x31 hx31) rfl [4] (by repeat' (first | exact All2.nil | refine All2.cons ?_ ?_ | refine ArgV.one ?_ | refine ArgV.agg ?_ | exact ArgC.mk rfl | exact ArgC.lend rfl (by simp) | exact ArgC.le (CLe.nil _) rfl | exact ArgC.le (CLe.emp _) rfl | exact ArgC.le (CLe.any _) rfl)) rfl rfl rfl (.inr ⟨rfl, fun _ _ => rfl⟩) rfl rfl) ?_
            obtain ⟨x32, hx32, j28⟩ := Md.bind_s j28
            refine aops_yes rfl rfl rfl rfl q28 (ev_call_v (actorgridlaw1_same_fn k x29 x31 x32 hx32) rfl [3, 5] (by repeat' (first | exact All2.nil | refine All2.cons ?_ ?_ | refine ArgV.one ?_ | refine ArgV.agg ?_ | exact ArgC.mk rfl | exact ArgC.lend rfl (by simp) | exact ArgC.le (CLe.nil _) rfl | exact ArgC.le (CLe.emp _) rfl | exact ArgC.le (CLe.any _) rfl)) rfl rfl rfl (.inr rfl) rfl) ?_
            refine aops_step1 rfl (st_pick_yes rfl (by first | rfl | exact q28) rfl rfl) ?_
            refine aops_nil ?_
            show ∃ _x : Bool, _ = _ ∧ Weak _ _
            exact ⟨x32, Option.some.inj j28, (by (refine weak_mk rfl rfl ?_ ?_ rfl <;> repeat' (first | exact trivial | refine ⟨?_, ?_⟩ | exact VLe.refl _ | exact BLe.refl _ | refine VLe.one (CLe.val ?_) | exact VLe.one (CLe.nil _) | exact VLe.one (CLe.emp _))))⟩
          replace j28 := Md.cond_f j28 q28
          refine aops_no rfl rfl rfl rfl rfl (by first | decide | (rw [q28]; decide)) ?_
          refine aops_no rfl rfl rfl rfl rfl (by first | decide | (rw [q28]; decide)) ?_
          refine aops_no rfl rfl rfl rfl rfl (by first | decide | (rw [q28]; decide)) ?_
          refine aops_no rfl rfl rfl rfl rfl (by first | decide | (rw [q28]; decide)) ?_
          refine aops_no rfl rfl rfl rfl rfl (by first | decide | (rw [q28]; decide)) ?_
          refine aops_no rfl rfl rfl rfl rfl (by first | decide | (rw [q28]; decide)) ?_
          refine aops_no rfl rfl rfl rfl rfl (by first | decide | (rw [q28]; decide)) ?_
          refine aops_no rfl rfl rfl rfl rfl (by first | decide | (rw [q28]; decide)) ?_
          refine aops_step1 rfl (st_pick_no rfl (by first | rfl | exact q28) rfl rfl) ?_
          refine aops_nil ?_
          show ∃ _x : Bool, _ = _ ∧ Weak _ _
          exact ⟨false, Option.some.inj j28, (by (refine weak_mk rfl rfl ?_ ?_ rfl <;> repeat' (first | exact trivial | refine ⟨?_, ?_⟩ | exact VLe.refl _ | exact BLe.refl _ | refine VLe.one (CLe.val ?_) | exact VLe.one (CLe.nil _) | exact VLe.one (CLe.emp _))))⟩
        rcases Md.bool_or (x26) with q27 | q27
        · replace j27 := Md.cond_t j27 q27
          refine aops_yes rfl rfl rfl rfl q27 (st_move rfl rfl) ?_
          refine aops_yes rfl rfl rfl rfl q27 (st_move rfl rfl) ?_
          obtain ⟨x33, hx33, j27⟩ := Md.bind_s j27
          refine aops_yes rfl rfl rfl rfl q27 (st_call_r (r' := .one (.own 3)) 3 rfl (wire_AppendInts_fn k a0 a2 x33 hx33) rfl [] (by repeat' (first | exact All2.nil | refine All2.cons ?_ ?_ | refine ArgV.one ?_ | refine ArgV.agg ?_ | exact ArgC.mk rfl | exact ArgC.lend rfl (by simp) | exact ArgC.le (CLe.nil _) rfl | exact ArgC.le (CLe.emp _) rfl | exact ArgC.le (CLe.any _) rfl)) rfl rfl rfl (.inl rfl) rfl rfl) ?_
          refine aops_yes rfl rfl rfl rfl q27 (st_move rfl rfl) ?_
          refine aops_yes rfl rfl rfl rfl q27 (st_move rfl rfl) ?_
          obtain ⟨x34, hx34, j27⟩ := Md.bind_s j27
          refine aops_yes rfl rfl rfl rfl q27 (st_call_r (r' := .one (.own 4)) 4 rfl (actorgridref1_IntList_fn k a2 x34 hx34) rfl [] (by repeat' (first | exact All2.nil | refine All2.cons ?_ ?_ | refine ArgV.one ?_ | refine ArgV.agg ?_ | exact ArgC.mk rfl | exact ArgC.lend rfl (by simp) | exact ArgC.le (CLe.nil _) rfl | exact ArgC.le (CLe.emp _) rfl | exact ArgC.le (CLe.any _) rfl)) rfl rfl rfl (.inl rfl) rfl rfl) ?_
          obtain ⟨x35, hx35, j27⟩ := Md.bind_s j27
          refine aops_yes rfl rfl rfl rfl q27 (st_call_r (r' := .one (.own 5)) 5 rfl (actorgridlaw1_join_fn k a0 x34 x35 hx35) rfl [4] (by repeat' (first | exact All2.nil | refine All2.cons ?_ ?_ | refine ArgV.one ?_ | refine ArgV.agg ?_ | exact ArgC.mk rfl | exact ArgC.lend rfl (by simp) | exact ArgC.le (CLe.nil _) rfl | exact ArgC.le (CLe.emp _) rfl | exact ArgC.le (CLe.any _) rfl)) rfl rfl rfl (.inr ⟨rfl, fun _ _ => rfl⟩) rfl rfl) ?_
          obtain ⟨x36, hx36, j27⟩ := Md.bind_s j27
          refine aops_yes rfl rfl rfl rfl q27 (ev_call_v (actorgridlaw1_same_fn k x33 x35 x36 hx36) rfl [3, 5] (by repeat' (first | exact All2.nil | refine All2.cons ?_ ?_ | refine ArgV.one ?_ | refine ArgV.agg ?_ | exact ArgC.mk rfl | exact ArgC.lend rfl (by simp) | exact ArgC.le (CLe.nil _) rfl | exact ArgC.le (CLe.emp _) rfl | exact ArgC.le (CLe.any _) rfl)) rfl rfl rfl (.inr rfl) rfl) ?_
          refine aops_step1 rfl (st_pick_yes rfl (by first | rfl | exact q27) rfl rfl) ?_
          refine aops_nil ?_
          show ∃ _x : Bool, _ = _ ∧ Weak _ _
          exact ⟨x36, Option.some.inj j27, (by (refine weak_mk rfl rfl ?_ ?_ rfl <;> repeat' (first | exact trivial | refine ⟨?_, ?_⟩ | exact VLe.refl _ | exact BLe.refl _ | refine VLe.one (CLe.val ?_) | exact VLe.one (CLe.nil _) | exact VLe.one (CLe.emp _))))⟩
        replace j27 := Md.cond_f j27 q27
        refine aops_no rfl rfl rfl rfl rfl (by first | decide | (rw [q27]; decide)) ?_
        refine aops_no rfl rfl rfl rfl rfl (by first | decide | (rw [q27]; decide)) ?_
        refine aops_no rfl rfl rfl rfl rfl (by first | decide | (rw [q27]; decide)) ?_
        refine aops_no rfl rfl rfl rfl rfl (by first | decide | (rw [q27]; decide)) ?_
        refine aops_no rfl rfl rfl rfl rfl (by first | decide | (rw [q27]; decide)) ?_
        refine aops_no rfl rfl rfl rfl rfl (by first | decide | (rw [q27]; decide)) ?_
        refine aops_no rfl rfl rfl rfl rfl (by first | decide | (rw [q27]; decide)) ?_
        refine aops_no rfl rfl rfl rfl rfl (by first | decide | (rw [q27]; decide)) ?_
        refine aops_step1 rfl (st_pick_no rfl (by first | rfl | exact q27) rfl rfl) ?_
        refine aops_nil ?_
        show ∃ _x : Bool, _ = _ ∧ Weak _ _
        exact ⟨false, Option.some.inj j27, (by (refine weak_mk rfl rfl ?_ ?_ rfl <;> repeat' (first | exact trivial | refine ⟨?_, ?_⟩ | exact VLe.refl _ | exact BLe.refl _ | refine VLe.one (CLe.val ?_) | exact VLe.one (CLe.nil _) | exact VLe.one (CLe.emp _))))⟩
      rcases Md.bool_or (((x16 || (x10.2.1 != x11.2.1)) || (x10.2.2 != x11.2.2))) with q19 | q19
      · replace j19 := Md.cond_t j19 q19
        refine aops_no rfl rfl rfl rfl rfl (by first | decide | (rw [q19]; decide)) ?_
        refine aops_no rfl rfl rfl rfl rfl (by first | decide | (rw [q19]; decide)) ?_
        refine aops_no rfl rfl rfl rfl rfl (by first | decide | (rw [q19]; decide)) ?_
        refine aops_no rfl rfl rfl rfl rfl (by first | decide | (rw [q19]; decide)) ?_
        refine aops_step1 rfl (st_pick_yes rfl (by first | rfl | exact q19) rfl rfl) ?_
        refine aops_nil ?_
        show ∃ _x : Bool, _ = _ ∧ Weak _ _
        exact ⟨true, Option.some.inj j19, (by (refine weak_mk rfl rfl ?_ ?_ rfl <;> repeat' (first | exact trivial | refine ⟨?_, ?_⟩ | exact VLe.refl _ | exact BLe.refl _ | refine VLe.one (CLe.val ?_) | exact VLe.one (CLe.nil _) | exact VLe.one (CLe.emp _))))⟩
      replace j19 := Md.cond_f j19 q19
      refine aops_yes rfl rfl rfl rfl q19 (st_move rfl rfl) ?_
      refine aops_yes rfl rfl rfl rfl q19 (st_move rfl rfl) ?_
      obtain ⟨x37, hx37, j19⟩ := Md.bind_s j19
      refine aops_yes rfl rfl rfl rfl q19 (ev_call_v (actorgridref1_SameStrings_fn k x12.1 x13.1 x37 hx37) rfl [] (by repeat' (first | exact All2.nil | refine All2.cons ?_ ?_ | refine ArgV.one ?_ | refine ArgV.agg ?_ | exact ArgC.mk rfl | exact ArgC.lend rfl (by simp) | exact ArgC.le (CLe.nil _) rfl | exact ArgC.le (CLe.emp _) rfl | exact ArgC.le (CLe.any _) rfl)) rfl rfl rfl (.inl rfl) rfl) ?_
      refine aops_yes rfl rfl rfl rfl q19 (ev_not rfl rfl) ?_
      refine aops_step1 rfl (st_pick_no rfl (by first | rfl | exact q19) rfl rfl) ?_
      refine aops_nil ?_
      show ∃ _x : Bool, _ = _ ∧ Weak _ _
      exact ⟨(!x37), Option.some.inj j19, (by (refine weak_mk rfl rfl ?_ ?_ rfl <;> repeat' (first | exact trivial | refine ⟨?_, ?_⟩ | exact VLe.refl _ | exact BLe.refl _ | refine VLe.one (CLe.val ?_) | exact VLe.one (CLe.nil _) | exact VLe.one (CLe.emp _))))⟩
    rcases Md.bool_or ((((!(decide (x8.1 = x9.1))) || (x8.2.1 != x9.2.1)) || (x8.2.2 != x9.2.2))) with q16 | q16
    · replace j16 := Md.cond_t j16 q16
      refine aops_no rfl rfl rfl rfl rfl (by first | decide | (rw [q16]; decide)) ?_
      refine aops_no rfl rfl rfl rfl rfl (by first | decide | (rw [q16]; decide)) ?_
      refine aops_no rfl rfl rfl rfl rfl (by first | decide | (rw [q16]; decide)) ?_
      refine aops_no rfl rfl rfl rfl rfl (by first | decide | (rw [q16]; decide)) ?_
      refine aops_step1 rfl (st_pick_yes rfl (by first | rfl | exact q16) rfl rfl) ?_
      refine aops_nil ?_
      show ∃ _x : Bool, _ = _ ∧ Weak _ _
      exact ⟨true, Option.some.inj j16, (by (refine weak_mk rfl rfl ?_ ?_ rfl <;> repeat' (first | exact trivial | refine ⟨?_, ?_⟩ | exact VLe.refl _ | exact BLe.refl _ | refine VLe.one (CLe.val ?_) | exact VLe.one (CLe.nil _) | exact VLe.one (CLe.emp _))))⟩
    replace j16 := Md.cond_f j16 q16
    refine aops_yes rfl rfl rfl rfl q16 (st_move rfl rfl) ?_
    refine aops_yes rfl rfl rfl rfl q16 (st_move rfl rfl) ?_
    obtain ⟨x38, hx38, j16⟩ := Md.bind_s j16
    refine aops_yes rfl rfl rfl rfl q16 (ev_call_v (actorgridref1_SameInts_fn k x10.1 x11.1 x38 hx38) rfl [] (by repeat' (first | exact All2.nil | refine All2.cons ?_ ?_ | refine ArgV.one ?_ | refine ArgV.agg ?_ | exact ArgC.mk rfl | exact ArgC.lend rfl (by simp) | exact ArgC.le (CLe.nil _) rfl | exact ArgC.le (CLe.emp _) rfl | exact ArgC.le (CLe.any _) rfl)) rfl rfl rfl (.inl rfl) rfl) ?_
    refine aops_yes rfl rfl rfl rfl q16 (ev_not rfl rfl) ?_
    refine aops_step1 rfl (st_pick_no rfl (by first | rfl | exact q16) rfl rfl) ?_
    refine aops_nil ?_
    show ∃ _x : Bool, _ = _ ∧ Weak _ _
    exact ⟨(!x38), Option.some.inj j16, (by (refine weak_mk rfl rfl ?_ ?_ rfl <;> repeat' (first | exact trivial | refine ⟨?_, ?_⟩ | exact VLe.refl _ | exact BLe.refl _ | refine VLe.one (CLe.val ?_) | exact VLe.one (CLe.nil _) | exact VLe.one (CLe.emp _))))⟩
  intro p7
  obtain ⟨⟨n7, s7_0⟩, l7⟩ := p7
  change AW _ _ (⟨177, [], [(0, .one (CV.ls byC a0)), (1, .one (.val (Sv a1))), (2, .one (CV.ls c_Int a2)), (3, .one (CV.ls c_Str a3)), (4, .one (.val (.int .i64 a4))), (11, .one (.val (.int .i64 ((s7_0 : Nat) : Int))))], []⟩ : ASt) _
  replace l7 : actorgridlaw1_WireTexts_loop1 k a3 n7 s7_0 = some o7 := l7
  rcases n7 with _ | n7
  · exact absurd (show none = some o7 from l7) nofun
  rw [actorgridlaw1_WireTexts_loop1] at l7
  refine aw_seq ?_
  refine aw_seq ?_
  refine aw_region ?_
  refine aops_step1 rfl (st_move rfl rfl) ?_
  refine aops_step1 rfl (st_move rfl rfl) ?_
  refine aops_step1 rfl (ev_len_slc rfl rfl) ?_
  refine aops_step1 rfl (ev_cmp rfl rfl rfl rfl) ?_
  refine aops_nil ?_
  refine aw_cond rfl (fun c39 => ?_) (fun c39 => ?_)
  · replace l7 := Md.cond_t l7 c39
    refine aw_skip ?_
    refine aw_seq ?_
    refine aw_block ?_
    refine aw_seq ?_
    refine aw_region ?_
    refine aops_step1 rfl (st_move rfl rfl) ?_
    refine aops_step1 rfl (st_move rfl rfl) ?_
    obtain ⟨g40, l7⟩ := Md.ifp_s l7
    refine aops_step1 rfl (ev_index_in rfl rfl rfl g40 rfl rfl) ?_
    refine aops_step1 rfl (ev_load_in rfl rfl rfl) ?_
    refine aops_step1 rfl (st_len_str rfl rfl) ?_
    refine aops_step1 rfl (ev_cmp rfl rfl rfl rfl) ?_
    refine aops_nil ?_
    refine aw_cond rfl (fun c41 => ?_) (fun c41 => ?_)
    · replace l7 := Md.cond_t l7 c41
      refine aw_seq ?_
      refine aw_region ?_
      refine aops_step1 rfl (st_assign rfl rfl) ?_
      refine aops_nil ?_
      cases Option.some.inj l7
      replace h := Md.onS_r h
      cases Option.some.inj h
      refine aw_ret ⟨rfl, ret_v (.inl ⟨_, rfl, rfl, fun _ e => nomatch e⟩) rfl rfl rfl ?_⟩
      (repeat' (first | exact TLe.refl _ | exact VLe.refl _ | exact CLe.refl _ | exact All2.nil | refine TLe.tup ?_ | refine TLe.v ?_ | refine All2.cons ?_ ?_ | refine VLe.agg ?_ | refine VLe.one ?_ | exact CLe.nil _ | exact CLe.emp _ | refine CLe.val ?_ | refine CLe.slc ?_ ?_))
    replace l7 := Md.cond_f l7 c41
    refine aw_skip ?_
    refine aw_region ?_
    refine aops_step1 rfl (st_move rfl rfl) ?_
    obtain ⟨g42, l7⟩ := Md.ifp_s l7
    refine aops_step1 rfl (ev_add rfl rfl rfl (Md.nat_add g42)) ?_
    refine aops_step1 rfl (st_assign rfl rfl) ?_
    refine aops_nil ?_
    exact ⟨⟨(n7, (s7_0 + 1)), l7⟩, Nat.lt_succ_self _, (by (refine weak_mk rfl rfl ?_ ?_ rfl <;> repeat' (first | exact trivial | refine ⟨?_, ?_⟩ | exact VLe.refl _ | exact BLe.refl _ | refine VLe.one (CLe.val ?_) | exact VLe.one (CLe.nil _) | exact VLe.one (CLe.emp _))))⟩
  replace l7 := Md.cond_f l7 c39
  refine aw_exit ?_
  show ∃ _x : Unit, _ = _ ∧ Weak _ _
  exact ⟨(), Option.some.inj l7, (by (refine weak_mk rfl rfl ?_ ?_ rfl <;> repeat' (first | exact trivial | refine ⟨?_, ?_⟩ | exact VLe.refl _ | exact BLe.refl _ | refine VLe.one (CLe.val ?_) | exact VLe.one (CLe.nil _) | exact VLe.one (CLe.emp _))))⟩
end Md
end Go.Proofs.Ytbnjdkpangmneaa
