/-
  WlRoundTrip: where a function's model gives a value, the function returns what reads as it (printed by wip/tools/auto.py). Condition of each: the model gives a value.
-/
import Derived.Test.YtbnjdkpangmneaaWlRoundTripM
import Derived.Test.YtbnjdkpangmneaaWireL
namespace Go.Proofs.Ytbnjdkpangmneaa
open Go.ChangeShapes Go.WideShapes Go.RowKit
open Abs
set_option linter.unusedVariables false
set_option linter.unusedSimpArgs false
set_option maxRecDepth 10000
namespace Md
set_option maxHeartbeats 2000000 in
theorem actorgridlaw1_WireRoundTrip_fn (k : Nat) (a0 : Value) (a1 : UInt64) (a2 : Int) (a3 : List UInt8) (a4 : List UInt8) (r : Bool) (h : actorgridlaw1_WireRoundTrip k a0 a1 a2 a3 a4 = some r) : FnC Try.prog 12 [.agg [.val (.int .i64 a0.Kind), .val (.int .i64 a0.N), .val (Sv a0.S), CV.ls c_Int a0.I, CV.ls c_Str a0.L], .one (.val (.int .u64 (a1.toNat : Int))), .one (.val (.int .i64 a2)), .one (CV.ls byC a3), .one (CV.ls byC a4)] [] (Det (.one (.val (.bool r))) []) := by
  unfold actorgridlaw1_WireRoundTrip at h
  refine fn_intro' 134 Try.func12 rfl rfl rfl ?_
  refine aw_seq ?_
  refine aw_region ?_
  refine aops_step1 rfl (st_box 0 rfl rfl rfl rfl) ?_
  refine aops_step1 rfl (st_assign rfl rfl) ?_
  refine aops_nil ?_
  refine aw_seq ?_
  refine aw_seq ?_
  refine aw_region ?_
  obtain ⟨x1, hx1, h⟩ := Md.bind_s h
  refine aops_step1 rfl (ev_call_v (actorgridlaw1_awake_fn k x1 hx1) rfl [] (by repeat' (first | exact All2.nil | refine All2.cons ?_ ?_ | refine ArgV.one ?_ | refine ArgV.agg ?_ | exact ArgC.mk rfl | exact ArgC.lend rfl (by simp) | exact ArgC.le (CLe.nil _) rfl | exact ArgC.le (CLe.emp _) rfl | exact ArgC.le (CLe.any _) rfl)) rfl rfl rfl (.inl rfl) rfl) ?_
  refine aops_step1 rfl (ev_not rfl rfl) ?_
  refine aops_nil ?_
  refine aw_cond rfl (fun c2 => ?_) (fun c2 => ?_)
  · replace h := Md.cond_t h c2
    refine aw_seq ?_
    refine aw_region ?_
    refine aops_step1 rfl (st_assign rfl rfl) ?_
    refine aops_nil ?_
    cases Option.some.inj h
    refine aw_ret ⟨rfl, ret_v (.inl ⟨_, rfl, rfl, fun _ e => nomatch e⟩) rfl rfl rfl ?_⟩
    (repeat' (first | exact TLe.refl _ | exact VLe.refl _ | exact CLe.refl _ | exact All2.nil | refine TLe.tup ?_ | refine TLe.v ?_ | refine All2.cons ?_ ?_ | refine VLe.agg ?_ | refine VLe.one ?_ | exact CLe.nil _ | exact CLe.emp _ | refine CLe.val ?_ | refine CLe.slc ?_ ?_))
  replace h := Md.cond_f h c2
  refine aw_skip ?_
  refine aw_seq ?_
  refine aw_seq ?_
  refine aw_region ?_
  refine aops_step1 rfl (ev_loads (ds := [_, _, _, _, _]) rfl rfl rfl rfl rfl) ?_
  obtain ⟨x3, hx3, h⟩ := Md.bind_s h
  refine aops_step1 rfl (ev_call_v (actorgridlaw1_Small_fn k a0 x3 hx3) rfl [] (by repeat' (first | exact All2.nil | refine All2.cons ?_ ?_ | refine ArgV.one ?_ | refine ArgV.agg ?_ | exact ArgC.mk rfl | exact ArgC.lend rfl (by simp) | exact ArgC.le (CLe.nil _) rfl | exact ArgC.le (CLe.emp _) rfl | exact ArgC.le (CLe.any _) rfl)) rfl rfl rfl (.inl rfl) rfl) ?_
  refine aops_step1 rfl (ev_not rfl rfl) ?_
  refine aops_step1 rfl (st_move rfl rfl) ?_
  obtain ⟨o4, j4, h⟩ := Md.bind_s h
  refine aops_cut 4 (ε := Bool) (fun x4 => (⟨134, [], [(1, .one (.val (.int .u64 (a1.toNat : Int)))), (2, .one (.val (.int .i64 a2))), (3, .one (CV.ls byC a3)), (4, .one (CV.ls byC a4)), (5, .one (.ptr 0 0)), (32, .one (.val (.bool x4)))], [(0, some (.box [.val (.int .i64 a0.Kind), .val (.int .i64 a0.N), .val (Sv a0.S), CV.ls c_Int a0.I, CV.ls c_Str a0.L]))]⟩ : ASt)) (fun x4 => x4 = o4) ?_ ?_
  · intro x4 hI4
    subst hI4
    change AOps _ _ _ (⟨134, [], [(1, .one (.val (.int .u64 (a1.toNat : Int)))), (2, .one (.val (.int .i64 a2))), (3, .one (CV.ls byC a3)), (4, .one (CV.ls byC a4)), (5, .one (.ptr 0 0)), (32, .one (.val (.bool x4)))], [(0, some (.box [.val (.int .i64 a0.Kind), .val (.int .i64 a0.N), .val (Sv a0.S), CV.ls c_Int a0.I, CV.ls c_Str a0.L]))]⟩ : ASt) _
    refine aops_step1 rfl (st_move rfl rfl) ?_
    refine aops_mid 4 (⟨134, [], [(1, .one (.val (.int .u64 (a1.toNat : Int)))), (2, .one (.val (.int .i64 a2))), (3, .one (CV.ls byC a3)), (4, .one (CV.ls byC a4)), (5, .one (.ptr 0 0)), (37, .one (.val (.bool (x4 || (decide (((a3.length : Nat) : Int) > 100))))))], [(0, some (.box [.val (.int .i64 a0.Kind), .val (.int .i64 a0.N), .val (Sv a0.S), CV.ls c_Int a0.I, CV.ls c_Str a0.L]))]⟩ : ASt) ?_ ?_
    · rcases Md.bool_or (x4) with q5 | q5
      · skip
        refine aops_no rfl rfl rfl rfl rfl (by first | decide | (rw [q5]; decide)) ?_
        refine aops_no rfl rfl rfl rfl rfl (by first | decide | (rw [q5]; decide)) ?_
        refine aops_no rfl rfl rfl rfl rfl (by first | decide | (rw [q5]; decide)) ?_
        refine aops_step1 rfl (st_pick_yes rfl (by first | rfl | exact q5) rfl rfl) ?_
        refine aops_nil ?_
        show Weak _ _
        (refine weak_mk rfl rfl ?_ ?_ rfl <;> repeat' (first | exact trivial | refine ⟨?_, ?_⟩ | exact VLe.refl _ | exact BLe.refl _ | refine VLe.one (CLe.val ?_) | exact VLe.one (CLe.nil _) | exact VLe.one (CLe.emp _))) <;> (first | (rw [q5]; done) | (rw [q5]; rfl) | (simp [q5]; done))
      refine aops_yes rfl rfl rfl rfl q5 (st_move rfl rfl) ?_
      refine aops_yes rfl rfl rfl rfl q5 (ev_len_slc rfl rfl) ?_
      refine aops_yes rfl rfl rfl rfl q5 (ev_cmp rfl rfl rfl rfl) ?_
      refine aops_step1 rfl (st_pick_no rfl (by first | rfl | exact q5) rfl rfl) ?_
      refine aops_nil ?_
      show Weak _ _
      (refine weak_mk rfl rfl ?_ ?_ rfl <;> repeat' (first | exact trivial | refine ⟨?_, ?_⟩ | exact VLe.refl _ | exact BLe.refl _ | refine VLe.one (CLe.val ?_) | exact VLe.one (CLe.nil _) | exact VLe.one (CLe.emp _))) <;> (first | (rw [q5]; done) | (rw [q5]; rfl) | (simp [q5]; done))
    change AOps _ _ _ (⟨134, [], [(1, .one (.val (.int .u64 (a1.toNat : Int)))), (2, .one (.val (.int .i64 a2))), (3, .one (CV.ls byC a3)), (4, .one (CV.ls byC a4)), (5, .one (.ptr 0 0)), (37, .one (.val (.bool (x4 || (decide (((a3.length : Nat) : Int) > 100))))))], [(0, some (.box [.val (.int .i64 a0.Kind), .val (.int .i64 a0.N), .val (Sv a0.S), CV.ls c_Int a0.I, CV.ls c_Str a0.L]))]⟩ : ASt) _
    refine aops_step1 rfl (st_move rfl rfl) ?_
    refine aops_mid 4 (⟨134, [], [(1, .one (.val (.int .u64 (a1.toNat : Int)))), (2, .one (.val (.int .i64 a2))), (3, .one (CV.ls byC a3)), (4, .one (CV.ls byC a4)), (5, .one (.ptr 0 0)), (42, .one (.val (.bool ((x4 || (decide (((a3.length : Nat) : Int) > 100))) || (decide (((a4.length : Nat) : Int) > 100))))))], [(0, some (.box [.val (.int .i64 a0.Kind), .val (.int .i64 a0.N), .val (Sv a0.S), CV.ls c_Int a0.I, CV.ls c_Str a0.L]))]⟩ : ASt) ?_ ?_
    · rcases Md.bool_or ((x4 || (decide (((a3.length : Nat) : Int) > 100)))) with q6 | q6
      · skip
        refine aops_no rfl rfl rfl rfl rfl (by first | decide | (rw [q6]; decide)) ?_
        refine aops_no rfl rfl rfl rfl rfl (by first | decide | (rw [q6]; decide)) ?_
        refine aops_no rfl rfl rfl rfl rfl (by first | decide | (rw [q6]; decide)) ?_
        refine aops_step1 rfl (st_pick_yes rfl (by first | rfl | exact q6) rfl rfl) ?_
        refine aops_nil ?_
        show Weak _ _
        (refine weak_mk rfl rfl ?_ ?_ rfl <;> repeat' (first | exact trivial | refine ⟨?_, ?_⟩ | exact VLe.refl _ | exact BLe.refl _ | refine VLe.one (CLe.val ?_) | exact VLe.one (CLe.nil _) | exact VLe.one (CLe.emp _))) <;> (first | (rw [q6]; done) | (rw [q6]; rfl) | (simp [q6]; done))
      refine aops_yes rfl rfl rfl rfl q6 (st_move rfl rfl) ?_
      refine aops_yes rfl rfl rfl rfl q6 (ev_len_slc rfl rfl) ?_
      refine aops_yes rfl rfl rfl rfl q6 (ev_cmp rfl rfl rfl rfl) ?_
      refine aops_step1 rfl (st_pick_no rfl (by first | rfl | exact q6) rfl rfl) ?_
      refine aops_nil ?_
      show Weak _ _
      (refine weak_mk rfl rfl ?_ ?_ rfl <;> repeat' (first | exact trivial | refine ⟨?_, ?_⟩ | exact VLe.refl _ | exact BLe.refl _ | refine VLe.one (CLe.val ?_) | exact VLe.one (CLe.nil _) | exact VLe.one (CLe.emp _))) <;> (first | (rw [q6]; done) | (rw [q6]; rfl) | (simp [q6]; done))
    change AOps _ _ _ (⟨134, [], [(1, .one (.val (.int .u64 (a1.toNat : Int)))), (2, .one (.val (.int .i64 a2))), (3, .one (CV.ls byC a3)), (4, .one (CV.ls byC a4)), (5, .one (.ptr 0 0)), (42, .one (.val (.bool ((x4 || (decide (((a3.length : Nat) : Int) > 100))) || (decide (((a4.length : Nat) : Int) > 100))))))], [(0, some (.box [.val (.int .i64 a0.Kind), .val (.int .i64 a0.N), .val (Sv a0.S), CV.ls c_Int a0.I, CV.ls c_Str a0.L]))]⟩ : ASt) _
    refine aops_nil ?_
    refine aw_cond rfl (fun c7 => ?_) (fun c7 => ?_)
    · replace h := Md.cond_t h c7
      refine aw_seq ?_
      refine aw_region ?_
      refine aops_step1 rfl (st_assign rfl rfl) ?_
      refine aops_nil ?_
      cases Option.some.inj h
      refine aw_ret ⟨rfl, ret_v (.inl ⟨_, rfl, rfl, fun _ e => nomatch e⟩) rfl rfl rfl ?_⟩
      (repeat' (first | exact TLe.refl _ | exact VLe.refl _ | exact CLe.refl _ | exact All2.nil | refine TLe.tup ?_ | refine TLe.v ?_ | refine All2.cons ?_ ?_ | refine VLe.agg ?_ | refine VLe.one ?_ | exact CLe.nil _ | exact CLe.emp _ | refine CLe.val ?_ | refine CLe.slc ?_ ?_))
    replace h := Md.cond_f h c7
    refine aw_skip ?_
    refine aw_seq ?_
    refine aw_region ?_
    refine aops_step1 rfl (ev_loads (ds := [_, _, _, _, _]) rfl rfl rfl rfl rfl) ?_
    obtain ⟨x8, hx8, h⟩ := Md.bind_s h
    refine aops_step1 rfl (ev_call_v (wire_AppendValue_fn k ([] : List UInt8) a0 x8 hx8) rfl [] (by repeat' (first | exact All2.nil | refine All2.cons ?_ ?_ | refine ArgV.one ?_ | refine ArgV.agg ?_ | exact ArgC.mk rfl | exact ArgC.lend rfl (by simp) | exact ArgC.le (CLe.nil _) rfl | exact ArgC.le (CLe.emp _) rfl | exact ArgC.le (CLe.any _) rfl)) rfl rfl rfl (.inl rfl) rfl) ?_
    refine aops_step1 rfl (st_assign rfl rfl) ?_
    refine aops_nil ?_
    refine aw_seq ?_
    refine aw_region ?_
    refine aops_step1 rfl (st_move rfl rfl) ?_
    refine aops_step1 rfl (st_move rfl rfl) ?_
    obtain ⟨x9, hx9, h⟩ := Md.bind_s h
    refine aops_step1 rfl (st_call_r (r' := .one (.own 1)) 1 rfl (actorgridlaw1_join_fn k x8 a4 x9 hx9) rfl [] (by repeat' (first | exact All2.nil | refine All2.cons ?_ ?_ | refine ArgV.one ?_ | refine ArgV.agg ?_ | exact ArgC.mk rfl | exact ArgC.lend rfl (by simp) | exact ArgC.le (CLe.nil _) rfl | exact ArgC.le (CLe.emp _) rfl | exact ArgC.le (CLe.any _) rfl)) rfl rfl rfl (.inl rfl) rfl rfl) ?_
    obtain ⟨x10, hx10, h⟩ := Md.bind_s h
    refine aops_freeze 1 rfl ?_
    refine aops_step1 rfl (ev_call_v (wire_Value_fn k x9 x10 hx10) rfl [] (by repeat' (first | exact All2.nil | refine All2.cons ?_ ?_ | refine ArgV.one ?_ | refine ArgV.agg ?_ | exact ArgC.mk rfl | exact ArgC.lend rfl (by simp) | exact ArgC.le (CLe.nil _) rfl | exact ArgC.le (CLe.emp _) rfl | exact ArgC.le (CLe.any _) rfl)) rfl rfl rfl (.inl rfl) rfl) ?_
    refine aops_step1 rfl (st_movet rfl rfl) ?_
    refine aops_step1 rfl (ev_extract rfl rfl rfl) ?_
    refine aops_step1 rfl (ev_extract rfl rfl rfl) ?_
    refine aops_step1 rfl (ev_extract rfl rfl rfl) ?_
    refine aops_step1 rfl (st_alloc (cs := [.val (.int .i64 0), .val (.int .i64 0), .val (Sv []), .val (.slice none 0 0), .val (.slice none 0 0)]) 2 rfl rfl rfl rfl rfl) ?_
    refine aops_step1 rfl (st_store (cs' := [_, _, _, _, _]) rfl rfl rfl rfl rfl rfl rfl rfl rfl) ?_
    refine aops_step1 rfl (st_assign rfl rfl) ?_
    refine aops_step1 rfl (st_assign rfl rfl) ?_
    refine aops_nil ?_
    refine aw_seq ?_
    refine aw_region ?_
    refine aops_step1 rfl (st_move rfl rfl) ?_
    obtain ⟨x11, hx11, h⟩ := Md.bind_s h
    refine aops_step1 rfl (st_call_r (r' := .one (.own 3)) 3 rfl (wire_AppendUint_fn k ([] : List UInt8) a1 x11 hx11) rfl [] (by repeat' (first | exact All2.nil | refine All2.cons ?_ ?_ | refine ArgV.one ?_ | refine ArgV.agg ?_ | exact ArgC.mk rfl | exact ArgC.lend rfl (by simp) | exact ArgC.le (CLe.nil _) rfl | exact ArgC.le (CLe.emp _) rfl | exact ArgC.le (CLe.any _) rfl)) rfl rfl rfl (.inl rfl) rfl rfl) ?_
    refine aops_step1 rfl (st_assign rfl rfl) ?_
    refine aops_nil ?_
    refine aw_seq ?_
    refine aw_region ?_
    refine aops_step1 rfl (st_move rfl rfl) ?_
    refine aops_step1 rfl (st_move rfl rfl) ?_
    obtain ⟨x12, hx12, h⟩ := Md.bind_s h
    refine aops_step1 rfl (st_call_r (r' := .one (.own 4)) 4 rfl (actorgridlaw1_join_fn k x11 a4 x12 hx12) rfl [3] (by repeat' (first | exact All2.nil | refine All2.cons ?_ ?_ | refine ArgV.one ?_ | refine ArgV.agg ?_ | exact ArgC.mk rfl | exact ArgC.lend rfl (by simp) | exact ArgC.le (CLe.nil _) rfl | exact ArgC.le (CLe.emp _) rfl | exact ArgC.le (CLe.any _) rfl)) rfl rfl rfl (.inr ⟨rfl, fun _ _ => rfl⟩) rfl rfl) ?_
    obtain ⟨x13, hx13, h⟩ := Md.bind_s h
    refine aops_step1 rfl (ev_call_v (wire_Uint_fn k x12 x13 hx13) rfl [4] (by repeat' (first | exact All2.nil | refine All2.cons ?_ ?_ | refine ArgV.one ?_ | refine ArgV.agg ?_ | exact ArgC.mk rfl | exact ArgC.lend rfl (by simp) | exact ArgC.le (CLe.nil _) rfl | exact ArgC.le (CLe.emp _) rfl | exact ArgC.le (CLe.any _) rfl)) rfl rfl rfl (.inr rfl) rfl) ?_
    refine aops_step1 rfl (st_movet rfl rfl) ?_
    refine aops_step1 rfl (ev_extract rfl rfl rfl) ?_
    refine aops_step1 rfl (ev_extract rfl rfl rfl) ?_
    refine aops_step1 rfl (ev_extract rfl rfl rfl) ?_
    refine aops_step1 rfl (st_assign rfl rfl) ?_
    refine aops_step1 rfl (st_assign rfl rfl) ?_
    refine aops_step1 rfl (st_assign rfl rfl) ?_
    refine aops_nil ?_
    refine aw_seq ?_
    refine aw_region ?_
    refine aops_step1 rfl (st_move rfl rfl) ?_
    obtain ⟨x14, hx14, h⟩ := Md.bind_s h
    refine aops_step1 rfl (st_call_r (r' := .one (.own 5)) 5 rfl (wire_AppendInt_fn k ([] : List UInt8) a2 x14 hx14) rfl [] (by repeat' (first | exact All2.nil | refine All2.cons ?_ ?_ | refine ArgV.one ?_ | refine ArgV.agg ?_ | exact ArgC.mk rfl | exact ArgC.lend rfl (by simp) | exact ArgC.le (CLe.nil _) rfl | exact ArgC.le (CLe.emp _) rfl | exact ArgC.le (CLe.any _) rfl)) rfl rfl rfl (.inl rfl) rfl rfl) ?_
    refine aops_step1 rfl (st_assign rfl rfl) ?_
    refine aops_nil ?_
    refine aw_seq ?_
    refine aw_region ?_
    refine aops_step1 rfl (st_move rfl rfl) ?_
    refine aops_step1 rfl (st_move rfl rfl) ?_
    obtain ⟨x15, hx15, h⟩ := Md.bind_s h
    refine aops_step1 rfl (st_call_r (r' := .one (.own 6)) 6 rfl (actorgridlaw1_join_fn k x14 a4 x15 hx15) rfl [5] (by repeat' (first | exact All2.nil | refine All2.cons ?_ ?_ | refine ArgV.one ?_ | refine ArgV.agg ?_ | exact ArgC.mk rfl | exact ArgC.lend rfl (by simp) | exact ArgC.le (CLe.nil _) rfl | exact ArgC.le (CLe.emp _) rfl | exact ArgC.le (CLe.any _) rfl)) rfl rfl rfl (.inr ⟨rfl, fun _ _ => rfl⟩) rfl rfl) ?_
    obtain ⟨x16, hx16, h⟩ := Md.bind_s h
    refine aops_step1 rfl (ev_call_v (wire_Int_fn k x15 x16 hx16) rfl [6] (by repeat' (first | exact All2.nil | refine All2.cons ?_ ?_ | refine ArgV.one ?_ | refine ArgV.agg ?_ | exact ArgC.mk rfl | exact ArgC.lend rfl (by simp) | exact ArgC.le (CLe.nil _) rfl | exact ArgC.le (CLe.emp _) rfl | exact ArgC.le (CLe.any _) rfl)) rfl rfl rfl (.inr rfl) rfl) ?_
    refine aops_step1 rfl (st_movet rfl rfl) ?_
    refine aops_step1 rfl (ev_extract rfl rfl rfl) ?_
    refine aops_step1 rfl (ev_extract rfl rfl rfl) ?_
    refine aops_step1 rfl (ev_extract rfl rfl rfl) ?_
    refine aops_step1 rfl (st_assign rfl rfl) ?_
    refine aops_step1 rfl (st_assign rfl rfl) ?_
    refine aops_step1 rfl (st_assign rfl rfl) ?_
    refine aops_nil ?_
    refine aw_seq ?_
    refine aw_region ?_
    refine aops_step1 rfl (st_move rfl rfl) ?_
    refine aops_step1 rfl (ev_cmp rfl rfl rfl rfl) ?_
    refine aops_step1 rfl (st_move rfl rfl) ?_
    refine aops_mid 5 (⟨134, [], [(1, .one (.val (.int .u64 (a1.toNat : Int)))), (2, .one (.val (.int .i64 a2))), (3, .one (CV.ls byC a3)), (5, .one (.ptr 0 0)), (11, .one (CV.ls byC x8)), (12, .one (.ptr 2 0)), (15, .one (.own 3)), (16, .one (.val (.int .u64 (x13.1.toNat : Int)))), (17, .one (.val (.int .i64 x13.2.1))), (18, .one (.val (.int .i64 x13.2.2))), (19, .one (.own 5)), (20, .one (.val (.int .i64 x16.1))), (21, .one (.val (.int .i64 x16.2.1))), (22, .one (.val (.int .i64 x16.2.2))), (80, .one (.val (.bool ((x10.2.2 == 0) && (x10.2.1 == ((x8.length : Nat) : Int))))))], [(0, some (.box [.val (.int .i64 a0.Kind), .val (.int .i64 a0.N), .val (Sv a0.S), CV.ls c_Int a0.I, CV.ls c_Str a0.L])), (2, some (.box [.val (.int .i64 x10.1.Kind), .val (.int .i64 x10.1.N), .val (Sv x10.1.S), CV.ls c_Int x10.1.I, CV.ls c_Str x10.1.L])), (3, some (.row 5 1 x11.length (lsEl byC x11))), (5, some (.row 5 1 x14.length (lsEl byC x14)))]⟩ : ASt) ?_ ?_
    · rcases Md.bool_or ((x10.2.2 == 0)) with q17 | q17
      · skip
        refine aops_yes rfl rfl rfl rfl q17 (st_move rfl rfl) ?_
        refine aops_yes rfl rfl rfl rfl q17 (st_move rfl rfl) ?_
        refine aops_yes rfl rfl rfl rfl q17 (ev_len_slc rfl rfl) ?_
        refine aops_yes rfl rfl rfl rfl q17 (ev_cmp rfl rfl rfl rfl) ?_
        refine aops_step1 rfl (st_pick_yes rfl (by first | rfl | exact q17) rfl rfl) ?_
        refine aops_nil ?_
        show Weak _ _
        (refine weak_mk rfl rfl ?_ ?_ rfl <;> repeat' (first | exact trivial | refine ⟨?_, ?_⟩ | exact VLe.refl _ | exact BLe.refl _ | refine VLe.one (CLe.val ?_) | exact VLe.one (CLe.nil _) | exact VLe.one (CLe.emp _))) <;> (first | (rw [q17]; done) | (rw [q17]; rfl) | (simp [q17]; done))
      refine aops_no rfl rfl rfl rfl rfl (by first | decide | (rw [q17]; decide)) ?_
      refine aops_no rfl rfl rfl rfl rfl (by first | decide | (rw [q17]; decide)) ?_
      refine aops_no rfl rfl rfl rfl rfl (by first | decide | (rw [q17]; decide)) ?_
      refine aops_no rfl rfl rfl rfl rfl (by first | decide | (rw [q17]; decide)) ?_
      refine aops_step1 rfl (st_pick_no rfl (by first | rfl | exact q17) rfl rfl) ?_
      refine aops_nil ?_
      show Weak _ _
      (refine weak_mk rfl rfl ?_ ?_ rfl <;> repeat' (first | exact trivial | refine ⟨?_, ?_⟩ | exact VLe.refl _ | exact BLe.refl _ | refine VLe.one (CLe.val ?_) | exact VLe.one (CLe.nil _) | exact VLe.one (CLe.emp _))) <;> (first | (rw [q17]; done) | (rw [q17]; rfl) | (simp [q17]; done))
    change AOps _ _ _ (⟨134, [], [(1, .one (.val (.int .u64 (a1.toNat : Int)))), (2, .one (.val (.int .i64 a2))), (3, .one (CV.ls byC a3)), (5, .one (.ptr 0 0)), (11, .one (CV.ls byC x8)), (12, .one (.ptr 2 0)), (15, .one (.own 3)), (16, .one (.val (.int .u64 (x13.1.toNat : Int)))), (17, .one (.val (.int .i64 x13.2.1))), (18, .one (.val (.int .i64 x13.2.2))), (19, .one (.own 5)), (20, .one (.val (.int .i64 x16.1))), (21, .one (.val (.int .i64 x16.2.1))), (22, .one (.val (.int .i64 x16.2.2))), (80, .one (.val (.bool ((x10.2.2 == 0) && (x10.2.1 == ((x8.length : Nat) : Int))))))], [(0, some (.box [.val (.int .i64 a0.Kind), .val (.int .i64 a0.N), .val (Sv a0.S), CV.ls c_Int a0.I, CV.ls c_Str a0.L])), (2, some (.box [.val (.int .i64 x10.1.Kind), .val (.int .i64 x10.1.N), .val (Sv x10.1.S), CV.ls c_Int x10.1.I, CV.ls c_Str x10.1.L])), (3, some (.row 5 1 x11.length (lsEl byC x11))), (5, some (.row 5 1 x14.length (lsEl byC x14)))]⟩ : ASt) _
    refine aops_step1 rfl (st_move rfl rfl) ?_
    obtain ⟨o18, j18, h⟩ := Md.bind_s h
    refine aops_cut 4 (ε := Bool) (fun x18 => (⟨134, [], [(1, .one (.val (.int .u64 (a1.toNat : Int)))), (2, .one (.val (.int .i64 a2))), (3, .one (CV.ls byC a3)), (5, .one (.ptr 0 0)), (11, .one (CV.ls byC x8)), (15, .one (.own 3)), (16, .one (.val (.int .u64 (x13.1.toNat : Int)))), (17, .one (.val (.int .i64 x13.2.1))), (18, .one (.val (.int .i64 x13.2.2))), (19, .one (.own 5)), (20, .one (.val (.int .i64 x16.1))), (21, .one (.val (.int .i64 x16.2.1))), (22, .one (.val (.int .i64 x16.2.2))), (85, .one (.val (.bool x18)))], [(0, some (.box [.val (.int .i64 a0.Kind), .val (.int .i64 a0.N), .val (Sv a0.S), CV.ls c_Int a0.I, CV.ls c_Str a0.L])), (3, some (.row 5 1 x11.length (lsEl byC x11))), (5, some (.row 5 1 x14.length (lsEl byC x14)))]⟩ : ASt)) (fun x18 => x18 = o18) ?_ ?_
    · intro x18 hI18
      subst hI18
      change AOps _ _ _ (⟨134, [], [(1, .one (.val (.int .u64 (a1.toNat : Int)))), (2, .one (.val (.int .i64 a2))), (3, .one (CV.ls byC a3)), (5, .one (.ptr 0 0)), (11, .one (CV.ls byC x8)), (15, .one (.own 3)), (16, .one (.val (.int .u64 (x13.1.toNat : Int)))), (17, .one (.val (.int .i64 x13.2.1))), (18, .one (.val (.int .i64 x13.2.2))), (19, .one (.own 5)), (20, .one (.val (.int .i64 x16.1))), (21, .one (.val (.int .i64 x16.2.1))), (22, .one (.val (.int .i64 x16.2.2))), (85, .one (.val (.bool x18)))], [(0, some (.box [.val (.int .i64 a0.Kind), .val (.int .i64 a0.N), .val (Sv a0.S), CV.ls c_Int a0.I, CV.ls c_Str a0.L])), (3, some (.row 5 1 x11.length (lsEl byC x11))), (5, some (.row 5 1 x14.length (lsEl byC x14)))]⟩ : ASt) _
      refine aops_step1 rfl (st_move rfl rfl) ?_
      refine aops_mid 3 (⟨134, [], [(1, .one (.val (.int .u64 (a1.toNat : Int)))), (2, .one (.val (.int .i64 a2))), (3, .one (CV.ls byC a3)), (5, .one (.ptr 0 0)), (11, .one (CV.ls byC x8)), (15, .one (.own 3)), (16, .one (.val (.int .u64 (x13.1.toNat : Int)))), (17, .one (.val (.int .i64 x13.2.1))), (19, .one (.own 5)), (20, .one (.val (.int .i64 x16.1))), (21, .one (.val (.int .i64 x16.2.1))), (22, .one (.val (.int .i64 x16.2.2))), (89, .one (.val (.bool (x18 && (x13.2.2 == 0)))))], [(0, some (.box [.val (.int .i64 a0.Kind), .val (.int .i64 a0.N), .val (Sv a0.S), CV.ls c_Int a0.I, CV.ls c_Str a0.L])), (3, some (.row 5 1 x11.length (lsEl byC x11))), (5, some (.row 5 1 x14.length (lsEl byC x14)))]⟩ : ASt) ?_ ?_
      · rcases Md.bool_or (x18) with q19 | q19
        · skip
          refine aops_yes rfl rfl rfl rfl q19 (st_move rfl rfl) ?_
          refine aops_yes rfl rfl rfl rfl q19 (ev_cmp rfl rfl rfl rfl) ?_
          refine aops_step1 rfl (st_pick_yes rfl (by first | rfl | exact q19) rfl rfl) ?_
          refine aops_nil ?_
          show Weak _ _
          (refine weak_mk rfl rfl ?_ ?_ rfl <;> repeat' (first | exact trivial | refine ⟨?_, ?_⟩ | exact VLe.refl _ | exact BLe.refl _ | refine VLe.one (CLe.val ?_) | exact VLe.one (CLe.nil _) | exact VLe.one (CLe.emp _))) <;> (first | (rw [q19]; done) | (rw [q19]; rfl) | (simp [q19]; done))
        refine aops_no rfl rfl rfl rfl rfl (by first | decide | (rw [q19]; decide)) ?_
        refine aops_no rfl rfl rfl rfl rfl (by first | decide | (rw [q19]; decide)) ?_
        refine aops_step1 rfl (st_pick_no rfl (by first | rfl | exact q19) rfl rfl) ?_
        refine aops_nil ?_
        show Weak _ _
        (refine weak_mk rfl rfl ?_ ?_ rfl <;> repeat' (first | exact trivial | refine ⟨?_, ?_⟩ | exact VLe.refl _ | exact BLe.refl _ | refine VLe.one (CLe.val ?_) | exact VLe.one (CLe.nil _) | exact VLe.one (CLe.emp _))) <;> (first | (rw [q19]; done) | (rw [q19]; rfl) | (simp [q19]; done))
      change AOps _ _ _ (⟨134, [], [(1, .one (.val (.int .u64 (a1.toNat : Int)))), (2, .one (.val (.int .i64 a2))), (3, .one (CV.ls byC a3)), (5, .one (.ptr 0 0)), (11, .one (CV.ls byC x8)), (15, .one (.own 3)), (16, .one (.val (.int .u64 (x13.1.toNat : Int)))), (17, .one (.val (.int .i64 x13.2.1))), (19, .one (.own 5)), (20, .one (.val (.int .i64 x16.1))), (21, .one (.val (.int .i64 x16.2.1))), (22, .one (.val (.int .i64 x16.2.2))), (89, .one (.val (.bool (x18 && (x13.2.2 == 0)))))], [(0, some (.box [.val (.int .i64 a0.Kind), .val (.int .i64 a0.N), .val (Sv a0.S), CV.ls c_Int a0.I, CV.ls c_Str a0.L])), (3, some (.row 5 1 x11.length (lsEl byC x11))), (5, some (.row 5 1 x14.length (lsEl byC x14)))]⟩ : ASt) _
      refine aops_step1 rfl (st_move rfl rfl) ?_
      refine aops_mid 5 (⟨134, [], [(1, .one (.val (.int .u64 (a1.toNat : Int)))), (2, .one (.val (.int .i64 a2))), (3, .one (CV.ls byC a3)), (5, .one (.ptr 0 0)), (11, .one (CV.ls byC x8)), (15, .one (.own 3)), (16, .one (.val (.int .u64 (x13.1.toNat : Int)))), (19, .one (.own 5)), (20, .one (.val (.int .i64 x16.1))), (21, .one (.val (.int .i64 x16.2.1))), (22, .one (.val (.int .i64 x16.2.2))), (95, .one (.val (.bool ((x18 && (x13.2.2 == 0)) && (x13.2.1 == ((x11.length : Nat) : Int))))))], [(0, some (.box [.val (.int .i64 a0.Kind), .val (.int .i64 a0.N), .val (Sv a0.S), CV.ls c_Int a0.I, CV.ls c_Str a0.L])), (3, some (.row 5 1 x11.length (lsEl byC x11))), (5, some (.row 5 1 x14.length (lsEl byC x14)))]⟩ : ASt) ?_ ?_
      · rcases Md.bool_or ((x18 && (x13.2.2 == 0))) with q20 | q20
        · skip
          refine aops_yes rfl rfl rfl rfl q20 (st_move rfl rfl) ?_
          refine aops_yes rfl rfl rfl rfl q20 (st_move rfl rfl) ?_
          refine aops_yes rfl rfl rfl rfl q20 (ev_len_own rfl rfl rfl) ?_
          refine aops_yes rfl rfl rfl rfl q20 (ev_cmp rfl rfl rfl rfl) ?_
          refine aops_step1 rfl (st_pick_yes rfl (by first | rfl | exact q20) rfl rfl) ?_
          refine aops_nil ?_
          show Weak _ _
          (refine weak_mk rfl rfl ?_ ?_ rfl <;> repeat' (first | exact trivial | refine ⟨?_, ?_⟩ | exact VLe.refl _ | exact BLe.refl _ | refine VLe.one (CLe.val ?_) | exact VLe.one (CLe.nil _) | exact VLe.one (CLe.emp _))) <;> (first | (rw [q20]; done) | (rw [q20]; rfl) | (simp [q20]; done))
        refine aops_no rfl rfl rfl rfl rfl (by first | decide | (rw [q20]; decide)) ?_
        refine aops_no rfl rfl rfl rfl rfl (by first | decide | (rw [q20]; decide)) ?_
        refine aops_no rfl rfl rfl rfl rfl (by first | decide | (rw [q20]; decide)) ?_
        refine aops_no rfl rfl rfl rfl rfl (by first | decide | (rw [q20]; decide)) ?_
        refine aops_step1 rfl (st_pick_no rfl (by first | rfl | exact q20) rfl rfl) ?_
        refine aops_nil ?_
        show Weak _ _
        (refine weak_mk rfl rfl ?_ ?_ rfl <;> repeat' (first | exact trivial | refine ⟨?_, ?_⟩ | exact VLe.refl _ | exact BLe.refl _ | refine VLe.one (CLe.val ?_) | exact VLe.one (CLe.nil _) | exact VLe.one (CLe.emp _))) <;> (first | (rw [q20]; done) | (rw [q20]; rfl) | (simp [q20]; done))
      change AOps _ _ _ (⟨134, [], [(1, .one (.val (.int .u64 (a1.toNat : Int)))), (2, .one (.val (.int .i64 a2))), (3, .one (CV.ls byC a3)), (5, .one (.ptr 0 0)), (11, .one (CV.ls byC x8)), (15, .one (.own 3)), (16, .one (.val (.int .u64 (x13.1.toNat : Int)))), (19, .one (.own 5)), (20, .one (.val (.int .i64 x16.1))), (21, .one (.val (.int .i64 x16.2.1))), (22, .one (.val (.int .i64 x16.2.2))), (95, .one (.val (.bool ((x18 && (x13.2.2 == 0)) && (x13.2.1 == ((x11.length : Nat) : Int))))))], [(0, some (.box [.val (.int .i64 a0.Kind), .val (.int .i64 a0.N), .val (Sv a0.S), CV.ls c_Int a0.I, CV.ls c_Str a0.L])), (3, some (.row 5 1 x11.length (lsEl byC x11))), (5, some (.row 5 1 x14.length (lsEl byC x14)))]⟩ : ASt) _
      refine aops_step1 rfl (st_move rfl rfl) ?_
      refine aops_mid 4 (⟨134, [], [(1, .one (.val (.int .u64 (a1.toNat : Int)))), (2, .one (.val (.int .i64 a2))), (3, .one (CV.ls byC a3)), (5, .one (.ptr 0 0)), (11, .one (CV.ls byC x8)), (15, .one (.own 3)), (19, .one (.own 5)), (20, .one (.val (.int .i64 x16.1))), (21, .one (.val (.int .i64 x16.2.1))), (22, .one (.val (.int .i64 x16.2.2))), (100, .one (.val (.bool (((x18 && (x13.2.2 == 0)) && (x13.2.1 == ((x11.length : Nat) : Int))) && ((x13.1.toNat : Int) == (a1.toNat : Int))))))], [(0, some (.box [.val (.int .i64 a0.Kind), .val (.int .i64 a0.N), .val (Sv a0.S), CV.ls c_Int a0.I, CV.ls c_Str a0.L])), (3, some (.row 5 1 x11.length (lsEl byC x11))), (5, some (.row 5 1 x14.length (lsEl byC x14)))]⟩ : ASt) ?_ ?_
      · rcases Md.bool_or (((x18 && (x13.2.2 == 0)) && (x13.2.1 == ((x11.length : Nat) : Int)))) with q21 | q21
        · skip
          refine aops_yes rfl rfl rfl rfl q21 (st_move rfl rfl) ?_
          refine aops_yes rfl rfl rfl rfl q21 (st_move rfl rfl) ?_
          refine aops_yes rfl rfl rfl rfl q21 (ev_cmp rfl rfl rfl rfl) ?_
          refine aops_step1 rfl (st_pick_yes rfl (by first | rfl | exact q21) rfl rfl) ?_
          refine aops_nil ?_
          show Weak _ _
          (refine weak_mk rfl rfl ?_ ?_ rfl <;> repeat' (first | exact trivial | refine ⟨?_, ?_⟩ | exact VLe.refl _ | exact BLe.refl _ | refine VLe.one (CLe.val ?_) | exact VLe.one (CLe.nil _) | exact VLe.one (CLe.emp _))) <;> (first | (rw [q21]; done) | (rw [q21]; rfl) | (simp [q21]; done))
        refine aops_no rfl rfl rfl rfl rfl (by first | decide | (rw [q21]; decide)) ?_
        refine aops_no rfl rfl rfl rfl rfl (by first | decide | (rw [q21]; decide)) ?_
        refine aops_no rfl rfl rfl rfl rfl (by first | decide | (rw [q21]; decide)) ?_
        refine aops_step1 rfl (st_pick_no rfl (by first | rfl | exact q21) rfl rfl) ?_
        refine aops_nil ?_
        show Weak _ _
        (refine weak_mk rfl rfl ?_ ?_ rfl <;> repeat' (first | exact trivial | refine ⟨?_, ?_⟩ | exact VLe.refl _ | exact BLe.refl _ | refine VLe.one (CLe.val ?_) | exact VLe.one (CLe.nil _) | exact VLe.one (CLe.emp _))) <;> (first | (rw [q21]; done) | (rw [q21]; rfl) | (simp [q21]; done))
      change AOps _ _ _ (⟨134, [], [(1, .one (.val (.int .u64 (a1.toNat : Int)))), (2, .one (.val (.int .i64 a2))), (3, .one (CV.ls byC a3)), (5, .one (.ptr 0 0)), (11, .one (CV.ls byC x8)), (15, .one (.own 3)), (19, .one (.own 5)), (20, .one (.val (.int .i64 x16.1))), (21, .one (.val (.int .i64 x16.2.1))), (22, .one (.val (.int .i64 x16.2.2))), (100, .one (.val (.bool (((x18 && (x13.2.2 == 0)) && (x13.2.1 == ((x11.length : Nat) : Int))) && ((x13.1.toNat : Int) == (a1.toNat : Int))))))], [(0, some (.box [.val (.int .i64 a0.Kind), .val (.int .i64 a0.N), .val (Sv a0.S), CV.ls c_Int a0.I, CV.ls c_Str a0.L])), (3, some (.row 5 1 x11.length (lsEl byC x11))), (5, some (.row 5 1 x14.length (lsEl byC x14)))]⟩ : ASt) _
      refine aops_step1 rfl (st_move rfl rfl) ?_
      refine aops_mid 3 (⟨134, [], [(1, .one (.val (.int .u64 (a1.toNat : Int)))), (2, .one (.val (.int .i64 a2))), (3, .one (CV.ls byC a3)), (5, .one (.ptr 0 0)), (11, .one (CV.ls byC x8)), (15, .one (.own 3)), (19, .one (.own 5)), (20, .one (.val (.int .i64 x16.1))), (21, .one (.val (.int .i64 x16.2.1))), (104, .one (.val (.bool ((((x18 && (x13.2.2 == 0)) && (x13.2.1 == ((x11.length : Nat) : Int))) && ((x13.1.toNat : Int) == (a1.toNat : Int))) && (x16.2.2 == 0)))))], [(0, some (.box [.val (.int .i64 a0.Kind), .val (.int .i64 a0.N), .val (Sv a0.S), CV.ls c_Int a0.I, CV.ls c_Str a0.L])), (3, some (.row 5 1 x11.length (lsEl byC x11))), (5, some (.row 5 1 x14.length (lsEl byC x14)))]⟩ : ASt) ?_ ?_
      · rcases Md.bool_or ((((x18 && (x13.2.2 == 0)) && (x13.2.1 == ((x11.length : Nat) : Int))) && ((x13.1.toNat : Int) == (a1.toNat : Int)))) with q22 | q22
        · skip
          refine aops_yes rfl rfl rfl rfl q22 (st_move rfl rfl) ?_
          refine aops_yes rfl rfl rfl rfl q22 (ev_cmp rfl rfl rfl rfl) ?_
          refine aops_step1 rfl (st_pick_yes rfl (by first | rfl | exact q22) rfl rfl) ?_
          refine aops_nil ?_
          show Weak _ _
          (refine weak_mk rfl rfl ?_ ?_ rfl <;> repeat' (first | exact trivial | refine ⟨?_, ?_⟩ | exact VLe.refl _ | exact BLe.refl _ | refine VLe.one (CLe.val ?_) | exact VLe.one (CLe.nil _) | exact VLe.one (CLe.emp _))) <;> (first | (rw [q22]; done) | (rw [q22]; rfl) | (simp [q22]; done))
        refine aops_no rfl rfl rfl rfl rfl (by first | decide | (rw [q22]; decide)) ?_
        refine aops_no rfl rfl rfl rfl rfl (by first | decide | (rw [q22]; decide)) ?_
        refine aops_step1 rfl (st_pick_no rfl (by first | rfl | exact q22) rfl rfl) ?_
        refine aops_nil ?_
        show Weak _ _
        (refine weak_mk rfl rfl ?_ ?_ rfl <;> repeat' (first | exact trivial | refine ⟨?_, ?_⟩ | exact VLe.refl _ | exact BLe.refl _ | refine VLe.one (CLe.val ?_) | exact VLe.one (CLe.nil _) | exact VLe.one (CLe.emp _))) <;> (first | (rw [q22]; done) | (rw [q22]; rfl) | (simp [q22]; done))
      change AOps _ _ _ (⟨134, [], [(1, .one (.val (.int .u64 (a1.toNat : Int)))), (2, .one (.val (.int .i64 a2))), (3, .one (CV.ls byC a3)), (5, .one (.ptr 0 0)), (11, .one (CV.ls byC x8)), (15, .one (.own 3)), (19, .one (.own 5)), (20, .one (.val (.int .i64 x16.1))), (21, .one (.val (.int .i64 x16.2.1))), (104, .one (.val (.bool ((((x18 && (x13.2.2 == 0)) && (x13.2.1 == ((x11.length : Nat) : Int))) && ((x13.1.toNat : Int) == (a1.toNat : Int))) && (x16.2.2 == 0)))))], [(0, some (.box [.val (.int .i64 a0.Kind), .val (.int .i64 a0.N), .val (Sv a0.S), CV.ls c_Int a0.I, CV.ls c_Str a0.L])), (3, some (.row 5 1 x11.length (lsEl byC x11))), (5, some (.row 5 1 x14.length (lsEl byC x14)))]⟩ : ASt) _
      refine aops_step1 rfl (st_move rfl rfl) ?_
      refine aops_mid 5 (⟨134, [], [(1, .one (.val (.int .u64 (a1.toNat : Int)))), (2, .one (.val (.int .i64 a2))), (3, .one (CV.ls byC a3)), (5, .one (.ptr 0 0)), (11, .one (CV.ls byC x8)), (15, .one (.own 3)), (20, .one (.val (.int .i64 x16.1))), (110, .one (.val (.bool (((((x18 && (x13.2.2 == 0)) && (x13.2.1 == ((x11.length : Nat) : Int))) && ((x13.1.toNat : Int) == (a1.toNat : Int))) && (x16.2.2 == 0)) && (x16.2.1 == ((x14.length : Nat) : Int))))))], [(0, some (.box [.val (.int .i64 a0.Kind), .val (.int .i64 a0.N), .val (Sv a0.S), CV.ls c_Int a0.I, CV.ls c_Str a0.L])), (3, some (.row 5 1 x11.length (lsEl byC x11)))]⟩ : ASt) ?_ ?_
      · rcases Md.bool_or (((((x18 && (x13.2.2 == 0)) && (x13.2.1 == ((x11.length : Nat) : Int))) && ((x13.1.toNat : Int) == (a1.toNat : Int))) && (x16.2.2 == 0))) with q23 | q23
        · skip
          refine aops_yes rfl rfl rfl rfl q23 (st_move rfl rfl) ?_
          refine aops_yes rfl rfl rfl rfl q23 (st_move rfl rfl) ?_
          refine aops_yes rfl rfl rfl rfl q23 (ev_len_own rfl rfl rfl) ?_
          refine aops_yes rfl rfl rfl rfl q23 (ev_cmp rfl rfl rfl rfl) ?_
          refine aops_step1 rfl (st_pick_yes rfl (by first | rfl | exact q23) rfl rfl) ?_
          refine aops_nil ?_
          show Weak _ _
          (refine weak_mk rfl rfl ?_ ?_ rfl <;> repeat' (first | exact trivial | refine ⟨?_, ?_⟩ | exact VLe.refl _ | exact BLe.refl _ | refine VLe.one (CLe.val ?_) | exact VLe.one (CLe.nil _) | exact VLe.one (CLe.emp _))) <;> (first | (rw [q23]; done) | (rw [q23]; rfl) | (simp [q23]; done))
        refine aops_no rfl rfl rfl rfl rfl (by first | decide | (rw [q23]; decide)) ?_
        refine aops_no rfl rfl rfl rfl rfl (by first | decide | (rw [q23]; decide)) ?_
        refine aops_no rfl rfl rfl rfl rfl (by first | decide | (rw [q23]; decide)) ?_
        refine aops_no rfl rfl rfl rfl rfl (by first | decide | (rw [q23]; decide)) ?_
        refine aops_step1 rfl (st_pick_no rfl (by first | rfl | exact q23) rfl rfl) ?_
        refine aops_nil ?_
        show Weak _ _
        (refine weak_mk rfl rfl ?_ ?_ rfl <;> repeat' (first | exact trivial | refine ⟨?_, ?_⟩ | exact VLe.refl _ | exact BLe.refl _ | refine VLe.one (CLe.val ?_) | exact VLe.one (CLe.nil _) | exact VLe.one (CLe.emp _))) <;> (first | (rw [q23]; done) | (rw [q23]; rfl) | (simp [q23]; done))
      change AOps _ _ _ (⟨134, [], [(1, .one (.val (.int .u64 (a1.toNat : Int)))), (2, .one (.val (.int .i64 a2))), (3, .one (CV.ls byC a3)), (5, .one (.ptr 0 0)), (11, .one (CV.ls byC x8)), (15, .one (.own 3)), (20, .one (.val (.int .i64 x16.1))), (110, .one (.val (.bool (((((x18 && (x13.2.2 == 0)) && (x13.2.1 == ((x11.length : Nat) : Int))) && ((x13.1.toNat : Int) == (a1.toNat : Int))) && (x16.2.2 == 0)) && (x16.2.1 == ((x14.length : Nat) : Int))))))], [(0, some (.box [.val (.int .i64 a0.Kind), .val (.int .i64 a0.N), .val (Sv a0.S), CV.ls c_Int a0.I, CV.ls c_Str a0.L])), (3, some (.row 5 1 x11.length (lsEl byC x11)))]⟩ : ASt) _
      refine aops_step1 rfl (st_move rfl rfl) ?_
      refine aops_mid 4 (⟨134, [], [(1, .one (.val (.int .u64 (a1.toNat : Int)))), (3, .one (CV.ls byC a3)), (5, .one (.ptr 0 0)), (11, .one (CV.ls byC x8)), (15, .one (.own 3)), (115, .one (.val (.bool ((((((x18 && (x13.2.2 == 0)) && (x13.2.1 == ((x11.length : Nat) : Int))) && ((x13.1.toNat : Int) == (a1.toNat : Int))) && (x16.2.2 == 0)) && (x16.2.1 == ((x14.length : Nat) : Int))) && (x16.1 == a2)))))], [(0, some (.box [.val (.int .i64 a0.Kind), .val (.int .i64 a0.N), .val (Sv a0.S), CV.ls c_Int a0.I, CV.ls c_Str a0.L])), (3, some (.row 5 1 x11.length (lsEl byC x11)))]⟩ : ASt) ?_ ?_
      · rcases Md.bool_or ((((((x18 && (x13.2.2 == 0)) && (x13.2.1 == ((x11.length : Nat) : Int))) && ((x13.1.toNat : Int) == (a1.toNat : Int))) && (x16.2.2 == 0)) && (x16.2.1 == ((x14.length : Nat) : Int)))) with q24 | q24
        · skip
          refine aops_yes rfl rfl rfl rfl q24 (st_move rfl rfl) ?_
          refine aops_yes rfl rfl rfl rfl q24 (st_move rfl rfl) ?_
          refine aops_yes rfl rfl rfl rfl q24 (ev_cmp rfl rfl rfl rfl) ?_
          refine aops_step1 rfl (st_pick_yes rfl (by first | rfl | exact q24) rfl rfl) ?_
          refine aops_nil ?_
          show Weak _ _
          (refine weak_mk rfl rfl ?_ ?_ rfl <;> repeat' (first | exact trivial | refine ⟨?_, ?_⟩ | exact VLe.refl _ | exact BLe.refl _ | refine VLe.one (CLe.val ?_) | exact VLe.one (CLe.nil _) | exact VLe.one (CLe.emp _))) <;> (first | (rw [q24]; done) | (rw [q24]; rfl) | (simp [q24]; done))
        refine aops_no rfl rfl rfl rfl rfl (by first | decide | (rw [q24]; decide)) ?_
        refine aops_no rfl rfl rfl rfl rfl (by first | decide | (rw [q24]; decide)) ?_
        refine aops_no rfl rfl rfl rfl rfl (by first | decide | (rw [q24]; decide)) ?_
        refine aops_step1 rfl (st_pick_no rfl (by first | rfl | exact q24) rfl rfl) ?_
        refine aops_nil ?_
        show Weak _ _
        (refine weak_mk rfl rfl ?_ ?_ rfl <;> repeat' (first | exact trivial | refine ⟨?_, ?_⟩ | exact VLe.refl _ | exact BLe.refl _ | refine VLe.one (CLe.val ?_) | exact VLe.one (CLe.nil _) | exact VLe.one (CLe.emp _))) <;> (first | (rw [q24]; done) | (rw [q24]; rfl) | (simp [q24]; done))
      change AOps _ _ _ (⟨134, [], [(1, .one (.val (.int .u64 (a1.toNat : Int)))), (3, .one (CV.ls byC a3)), (5, .one (.ptr 0 0)), (11, .one (CV.ls byC x8)), (15, .one (.own 3)), (115, .one (.val (.bool ((((((x18 && (x13.2.2 == 0)) && (x13.2.1 == ((x11.length : Nat) : Int))) && ((x13.1.toNat : Int) == (a1.toNat : Int))) && (x16.2.2 == 0)) && (x16.2.1 == ((x14.length : Nat) : Int))) && (x16.1 == a2)))))], [(0, some (.box [.val (.int .i64 a0.Kind), .val (.int .i64 a0.N), .val (Sv a0.S), CV.ls c_Int a0.I, CV.ls c_Str a0.L])), (3, some (.row 5 1 x11.length (lsEl byC x11)))]⟩ : ASt) _
      refine aops_step1 rfl (st_move rfl rfl) ?_
      obtain ⟨o25, j25, h⟩ := Md.bind_s h
      refine aops_cut 8 (ε := Bool) (fun x25 => (⟨134, [], [(1, .one (.val (.int .u64 (a1.toNat : Int)))), (3, .one (CV.ls byC a3)), (15, .one (.own 3)), (124, .one (.val (.bool x25)))], [(3, some (.row 5 1 x11.length (lsEl byC x11)))]⟩ : ASt)) (fun x25 => x25 = o25) ?_ ?_
      · intro x25 hI25
        subst hI25
        change AOps _ _ _ (⟨134, [], [(1, .one (.val (.int .u64 (a1.toNat : Int)))), (3, .one (CV.ls byC a3)), (15, .one (.own 3)), (124, .one (.val (.bool x25)))], [(3, some (.row 5 1 x11.length (lsEl byC x11)))]⟩ : ASt) _
        refine aops_step1 rfl (st_move rfl rfl) ?_
        obtain ⟨o26, j26, h⟩ := Md.bind_s h
        refine aops_cut 8 (ε := Bool) (fun x26 => (⟨134, [], [(133, .one (.val (.bool x26)))], []⟩ : ASt)) (fun x26 => x26 = o26) ?_ ?_
        · intro x26 hI26
          subst hI26
          change AOps _ _ _ (⟨134, [], [(133, .one (.val (.bool x26)))], []⟩ : ASt) _
          refine aops_step1 rfl (st_assign rfl rfl) ?_
          refine aops_nil ?_
          cases Option.some.inj h
          refine aw_ret ⟨rfl, ret_v (.inl ⟨_, rfl, rfl, fun _ e => nomatch e⟩) rfl rfl rfl ?_⟩
          (repeat' (first | exact TLe.refl _ | exact VLe.refl _ | exact CLe.refl _ | exact All2.nil | refine TLe.tup ?_ | refine TLe.v ?_ | refine All2.cons ?_ ?_ | refine VLe.agg ?_ | refine VLe.one ?_ | exact CLe.nil _ | exact CLe.emp _ | refine CLe.val ?_ | refine CLe.slc ?_ ?_))
        rcases Md.bool_or (x25) with q26 | q26
        · replace j26 := Md.cond_t j26 q26
          refine aops_yes rfl rfl rfl rfl q26 (st_move rfl rfl) ?_
          refine aops_yes rfl rfl rfl rfl q26 (st_move rfl rfl) ?_
          obtain ⟨x27, hx27, j26⟩ := Md.bind_s j26
          refine aops_yes rfl rfl rfl rfl q26 (st_call_r (r' := .one (.own 7)) 7 rfl (wire_AppendUint_fn k a3 a1 x27 hx27) rfl [] (by repeat' (first | exact All2.nil | refine All2.cons ?_ ?_ | refine ArgV.one ?_ | refine ArgV.agg ?_ | exact ArgC.mk rfl | exact ArgC.lend rfl (by simp) | exact ArgC.le (CLe.nil _) rfl | exact ArgC.le (CLe.emp _) rfl | exact ArgC.le (CLe.any _) rfl)) rfl rfl rfl (.inl rfl) rfl rfl) ?_
          refine aops_yes rfl rfl rfl rfl q26 (st_move rfl rfl) ?_
          refine aops_yes rfl rfl rfl rfl q26 (st_move rfl rfl) ?_
          obtain ⟨x28, hx28, j26⟩ := Md.bind_s j26
          refine aops_yes rfl rfl rfl rfl q26 (st_call_r (r' := .one (.own 8)) 8 rfl (actorgridlaw1_join_fn k a3 x11 x28 hx28) rfl [3] (by repeat' (first | exact All2.nil | refine All2.cons ?_ ?_ | refine ArgV.one ?_ | refine ArgV.agg ?_ | exact ArgC.mk rfl | exact ArgC.lend rfl (by simp) | exact ArgC.le (CLe.nil _) rfl | exact ArgC.le (CLe.emp _) rfl | exact ArgC.le (CLe.any _) rfl)) rfl rfl rfl (.inr ⟨rfl, fun _ _ => rfl⟩) rfl rfl) ?_
          obtain ⟨x29, hx29, j26⟩ := Md.bind_s j26
          refine aops_yes rfl rfl rfl rfl q26 (ev_call_v (actorgridlaw1_same_fn k x27 x28 x29 hx29) rfl [7, 8] (by repeat' (first | exact All2.nil | refine All2.cons ?_ ?_ | refine ArgV.one ?_ | refine ArgV.agg ?_ | exact ArgC.mk rfl | exact ArgC.lend rfl (by simp) | exact ArgC.le (CLe.nil _) rfl | exact ArgC.le (CLe.emp _) rfl | exact ArgC.le (CLe.any _) rfl)) rfl rfl rfl (.inr rfl) rfl) ?_
          refine aops_step1 rfl (st_pick_yes rfl (by first | rfl | exact q26) rfl rfl) ?_
          refine aops_nil ?_
          show ∃ _x : Bool, _ = _ ∧ Weak _ _
          exact ⟨x29, Option.some.inj j26, (by (refine weak_mk rfl rfl ?_ ?_ rfl <;> repeat' (first | exact trivial | refine ⟨?_, ?_⟩ | exact VLe.refl _ | exact BLe.refl _ | refine VLe.one (CLe.val ?_) | exact VLe.one (CLe.nil _) | exact VLe.one (CLe.emp _))))⟩
        replace j26 := Md.cond_f j26 q26
        refine aops_no rfl rfl rfl rfl rfl (by first | decide | (rw [q26]; decide)) ?_
        refine aops_no rfl rfl rfl rfl rfl (by first | decide | (rw [q26]; decide)) ?_
        refine aops_no rfl rfl rfl rfl rfl (by first | decide | (rw [q26]; decide)) ?_
        refine aops_no rfl rfl rfl rfl rfl (by first | decide | (rw [q26]; decide)) ?_
        refine aops_no rfl rfl rfl rfl rfl (by first | decide | (rw [q26]; decide)) ?_
        refine aops_no rfl rfl rfl rfl rfl (by first | decide | (rw [q26]; decide)) ?_
        refine aops_no rfl rfl rfl rfl rfl (by first | decide | (rw [q26]; decide)) ?_
        refine aops_step1 rfl (st_pick_no rfl (by first | rfl | exact q26) rfl rfl) ?_
        refine aops_nil ?_
        show ∃ _x : Bool, _ = _ ∧ Weak _ _
        exact ⟨false, Option.some.inj j26, (by (refine weak_mk rfl rfl ?_ ?_ rfl <;> repeat' (first | exact trivial | refine ⟨?_, ?_⟩ | exact VLe.refl _ | exact BLe.refl _ | refine VLe.one (CLe.val ?_) | exact VLe.one (CLe.nil _) | exact VLe.one (CLe.emp _))))⟩
      rcases Md.bool_or (((((((x18 && (x13.2.2 == 0)) && (x13.2.1 == ((x11.length : Nat) : Int))) && ((x13.1.toNat : Int) == (a1.toNat : Int))) && (x16.2.2 == 0)) && (x16.2.1 == ((x14.length : Nat) : Int))) && (x16.1 == a2))) with q25 | q25
      · replace j25 := Md.cond_t j25 q25
        refine aops_yes rfl rfl rfl rfl q25 (st_move rfl rfl) ?_
        refine aops_yes rfl rfl rfl rfl q25 (ev_loads (ds := [_, _, _, _, _]) rfl rfl rfl rfl rfl) ?_
        obtain ⟨x30, hx30, j25⟩ := Md.bind_s j25
        refine aops_yes rfl rfl rfl rfl q25 (ev_call_v (wire_AppendValue_fn k a3 a0 x30 hx30) rfl [] (by repeat' (first | exact All2.nil | refine All2.cons ?_ ?_ | refine ArgV.one ?_ | refine ArgV.agg ?_ | exact ArgC.mk rfl | exact ArgC.lend rfl (by simp) | exact ArgC.le (CLe.nil _) rfl | exact ArgC.le (CLe.emp _) rfl | exact ArgC.le (CLe.any _) rfl)) rfl rfl rfl (.inl rfl) rfl) ?_
        refine aops_yes rfl rfl rfl rfl q25 (st_move rfl rfl) ?_
        refine aops_yes rfl rfl rfl rfl q25 (st_move rfl rfl) ?_
        obtain ⟨x31, hx31, j25⟩ := Md.bind_s j25
        refine aops_yes rfl rfl rfl rfl q25 (st_call_r (r' := .one (.own 7)) 7 rfl (actorgridlaw1_join_fn k a3 x8 x31 hx31) rfl [] (by repeat' (first | exact All2.nil | refine All2.cons ?_ ?_ | refine ArgV.one ?_ | refine ArgV.agg ?_ | exact ArgC.mk rfl | exact ArgC.lend rfl (by simp) | exact ArgC.le (CLe.nil _) rfl | exact ArgC.le (CLe.emp _) rfl | exact ArgC.le (CLe.any _) rfl)) rfl rfl rfl (.inl rfl) rfl rfl) ?_
        obtain ⟨x32, hx32, j25⟩ := Md.bind_s j25
        refine aops_yes rfl rfl rfl rfl q25 (ev_call_v (actorgridlaw1_same_fn k x30 x31 x32 hx32) rfl [7] (by repeat' (first | exact All2.nil | refine All2.cons ?_ ?_ | refine ArgV.one ?_ | refine ArgV.agg ?_ | exact ArgC.mk rfl | exact ArgC.lend rfl (by simp) | exact ArgC.le (CLe.nil _) rfl | exact ArgC.le (CLe.emp _) rfl | exact ArgC.le (CLe.any _) rfl)) rfl rfl rfl (.inr rfl) rfl) ?_
        refine aops_step1 rfl (st_pick_yes rfl (by first | rfl | exact q25) rfl rfl) ?_
        refine aops_nil ?_
        show ∃ _x : Bool, _ = _ ∧ Weak _ _
        exact ⟨x32, Option.some.inj j25, (by (refine weak_mk rfl rfl ?_ ?_ rfl <;> repeat' (first | exact trivial | refine ⟨?_, ?_⟩ | exact VLe.refl _ | exact BLe.refl _ | refine VLe.one (CLe.val ?_) | exact VLe.one (CLe.nil _) | exact VLe.one (CLe.emp _))))⟩
      replace j25 := Md.cond_f j25 q25
      refine aops_no rfl rfl rfl rfl rfl (by first | decide | (rw [q25]; decide)) ?_
      refine aops_no rfl rfl rfl rfl rfl (by first | decide | (rw [q25]; decide)) ?_
      refine aops_no rfl rfl rfl rfl rfl (by first | decide | (rw [q25]; decide)) ?_
      refine aops_no rfl rfl rfl rfl rfl (by first | decide | (rw [q25]; decide)) ?_
      refine aops_no rfl rfl rfl rfl rfl (by first | decide | (rw [q25]; decide)) ?_
      refine aops_no rfl rfl rfl rfl rfl (by first | decide | (rw [q25]; decide)) ?_
      refine aops_no rfl rfl rfl rfl rfl (by first | decide | (rw [q25]; decide)) ?_
      refine aops_step1 rfl (st_pick_no rfl (by first | rfl | exact q25) rfl rfl) ?_
      refine aops_nil ?_
      show ∃ _x : Bool, _ = _ ∧ Weak _ _
      exact ⟨false, Option.some.inj j25, (by (refine weak_mk rfl rfl ?_ ?_ rfl <;> repeat' (first | exact trivial | refine ⟨?_, ?_⟩ | exact VLe.refl _ | exact BLe.refl _ | refine VLe.one (CLe.val ?_) | exact VLe.one (CLe.nil _) | exact VLe.one (CLe.emp _))))⟩
    rcases Md.bool_or (((x10.2.2 == 0) && (x10.2.1 == ((x8.length : Nat) : Int)))) with q18 | q18
    · replace j18 := Md.cond_t j18 q18
      refine aops_yes rfl rfl rfl rfl q18 (ev_loads (ds := [_, _, _, _, _]) rfl rfl rfl rfl rfl) ?_
      refine aops_yes rfl rfl rfl rfl q18 (ev_loads (ds := [_, _, _, _, _]) rfl rfl rfl rfl rfl) ?_
      obtain ⟨x33, hx33, j18⟩ := Md.bind_s j18
      refine aops_yes rfl rfl rfl rfl q18 (ev_call_v (wire_SameValue_fn k x10.1 a0 x33 hx33) rfl [] (by repeat' (first | exact All2.nil | refine All2.cons ?_ ?_ | refine ArgV.one ?_ | refine ArgV.agg ?_ | exact ArgC.mk rfl | exact ArgC.lend rfl (by simp) | exact ArgC.le (CLe.nil _) rfl | exact ArgC.le (CLe.emp _) rfl | exact ArgC.le (CLe.any _) rfl)) rfl rfl rfl (.inl rfl) rfl) ?_
      refine aops_step1 rfl (st_pick_yes rfl (by first | rfl | exact q18) rfl rfl) ?_
      refine aops_nil ?_
      show ∃ _x : Bool, _ = _ ∧ Weak _ _
      exact ⟨x33, Option.some.inj j18, (by (refine weak_mk rfl rfl ?_ ?_ rfl <;> repeat' (first | exact trivial | refine ⟨?_, ?_⟩ | exact VLe.refl _ | exact BLe.refl _ | refine VLe.one (CLe.val ?_) | exact VLe.one (CLe.nil _) | exact VLe.one (CLe.emp _))))⟩
    replace j18 := Md.cond_f j18 q18
    refine aops_no rfl rfl rfl rfl rfl (by first | decide | (rw [q18]; decide)) ?_
    refine aops_no rfl rfl rfl rfl rfl (by first | decide | (rw [q18]; decide)) ?_
    refine aops_no rfl rfl rfl rfl rfl (by first | decide | (rw [q18]; decide)) ?_
    refine aops_step1 rfl (st_pick_no rfl (by first | rfl | exact q18) rfl rfl) ?_
    refine aops_nil ?_
    show ∃ _x : Bool, _ = _ ∧ Weak _ _
    exact ⟨false, Option.some.inj j18, (by (refine weak_mk rfl rfl ?_ ?_ rfl <;> repeat' (first | exact trivial | refine ⟨?_, ?_⟩ | exact VLe.refl _ | exact BLe.refl _ | refine VLe.one (CLe.val ?_) | exact VLe.one (CLe.nil _) | exact VLe.one (CLe.emp _))))⟩
  rcases Md.bool_or ((!x3)) with q4 | q4
  · replace j4 := Md.cond_t j4 q4
    refine aops_no rfl rfl rfl rfl rfl (by first | decide | (rw [q4]; decide)) ?_
    refine aops_no rfl rfl rfl rfl rfl (by first | decide | (rw [q4]; decide)) ?_
    refine aops_no rfl rfl rfl rfl rfl (by first | decide | (rw [q4]; decide)) ?_
    refine aops_step1 rfl (st_pick_yes rfl (by first | rfl | exact q4) rfl rfl) ?_
    refine aops_nil ?_
    show ∃ _x : Bool, _ = _ ∧ Weak _ _
    exact ⟨true, Option.some.inj j4, (by (refine weak_mk rfl rfl ?_ ?_ rfl <;> repeat' (first | exact trivial | refine ⟨?_, ?_⟩ | exact VLe.refl _ | exact BLe.refl _ | refine VLe.one (CLe.val ?_) | exact VLe.one (CLe.nil _) | exact VLe.one (CLe.emp _))))⟩
  replace j4 := Md.cond_f j4 q4
  refine aops_yes rfl rfl rfl rfl q4 (ev_loads (ds := [_, _, _, _, _]) rfl rfl rfl rfl rfl) ?_
  obtain ⟨x34, hx34, j4⟩ := Md.bind_s j4
  refine aops_yes rfl rfl rfl rfl q4 (ev_call_v (wire_ValidValue_fn k a0 x34 hx34) rfl [] (by repeat' (first | exact All2.nil | refine All2.cons ?_ ?_ | refine ArgV.one ?_ | refine ArgV.agg ?_ | exact ArgC.mk rfl | exact ArgC.lend rfl (by simp) | exact ArgC.le (CLe.nil _) rfl | exact ArgC.le (CLe.emp _) rfl | exact ArgC.le (CLe.any _) rfl)) rfl rfl rfl (.inl rfl) rfl) ?_
  refine aops_yes rfl rfl rfl rfl q4 (ev_not rfl rfl) ?_
  refine aops_step1 rfl (st_pick_no rfl (by first | rfl | exact q4) rfl rfl) ?_
  refine aops_nil ?_
  show ∃ _x : Bool, _ = _ ∧ Weak _ _
  exact ⟨(!x34), Option.some.inj j4, (by (refine weak_mk rfl rfl ?_ ?_ rfl <;> repeat' (first | exact trivial | refine ⟨?_, ?_⟩ | exact VLe.refl _ | exact BLe.refl _ | refine VLe.one (CLe.val ?_) | exact VLe.one (CLe.nil _) | exact VLe.one (CLe.emp _))))⟩
end Md
end Go.Proofs.Ytbnjdkpangmneaa
