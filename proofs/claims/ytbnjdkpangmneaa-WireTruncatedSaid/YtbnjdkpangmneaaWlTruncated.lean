/-
  WlTruncated: where a function's model gives a value, the function returns what reads as it (printed by wip/tools/auto.py). Condition of each: the model gives a value.
-/
import Derived.Test.YtbnjdkpangmneaaWlTruncatedM
import Derived.Test.YtbnjdkpangmneaaWireL
namespace Go.Proofs.Ytbnjdkpangmneaa
open Go.ChangeShapes Go.WideShapes Go.RowKit
open Abs
set_option linter.unusedVariables false
set_option linter.unusedSimpArgs false
set_option maxRecDepth 10000
namespace Md
set_option maxHeartbeats 2000000 in
theorem actorgridlaw1_WireTruncated_fn (k : Nat) (a0 : Value) (a1 : List UInt8) (a2 : UInt16) (r : Bool) (h : actorgridlaw1_WireTruncated k a0 a1 a2 = some r) : FnC Try.prog 5 [.agg [.val (.int .i64 a0.Kind), .val (.int .i64 a0.N), .val (Sv a0.S), CV.ls c_Int a0.I, CV.ls c_Str a0.L], .one (CV.ls byC a1), .one (.val (.int .u16 (a2.toNat : Int)))] [] (Det (.one (.val (.bool r))) []) := by
  unfold actorgridlaw1_WireTruncated at h
  refine fn_intro' 90 Try.func5 rfl rfl rfl ?_
  refine aw_seq ?_
  refine aw_region ?_
  refine aops_step1 rfl (st_box 0 rfl rfl rfl rfl) ?_
  refine aops_step1 rfl (st_assign rfl rfl) ?_
  refine aops_nil ?_
  refine aw_seq ?_
  refine aw_seq ?_
  refine aw_region ?_
  obtain ⟨x1, hx1, h⟩ := Md.bind_s h
  refine aops_step1 rfl (ev_call_v (actorgridlaw1_awake_fn k x1 hx1) rfl [] (by repeat' (first | exact All2.nil | refine All2.cons ?_ ?_ | refine ArgV.one ?_ | refine ArgV.agg ?_ | exact ArgC.mk rfl | exact ArgC.lend rfl (by simp) | exact ArgC.le (CLe.nil _) rfl | exact ArgC.le (CLe.emp _) rfl | exact ArgC.le (CLe.any _) rfl)) rfl rfl rfl (.inl rfl) rfl) ?_
  refine aops_step1 rfl (ev_not rfl rfl) ?_
  refine aops_nil ?_
  refine aw_cond rfl (fun c2 => ?_) (fun c2 => ?_)
  · replace h := Md.cond_t h c2
    refine aw_seq ?_
    refine aw_region ?_
    refine aops_step1 rfl (st_assign rfl rfl) ?_
    refine aops_nil ?_
    cases Option.some.inj h
    refine aw_ret ⟨rfl, ret_v (.inl ⟨_, rfl, rfl, fun _ e => nomatch e⟩) rfl rfl rfl ?_⟩
    (repeat' (first | exact TLe.refl _ | exact VLe.refl _ | exact CLe.refl _ | exact All2.nil | refine TLe.tup ?_ | refine TLe.v ?_ | refine All2.cons ?_ ?_ | refine VLe.agg ?_ | refine VLe.one ?_ | exact CLe.nil _ | exact CLe.emp _ | refine CLe.val ?_ | refine CLe.slc ?_ ?_))
  replace h := Md.cond_f h c2
  refine aw_skip ?_
  refine aw_seq ?_
  refine aw_seq ?_
  refine aw_region ?_
  refine aops_step1 rfl (ev_loads (ds := [_, _, _, _, _]) rfl rfl rfl rfl rfl) ?_
  obtain ⟨x3, hx3, h⟩ := Md.bind_s h
  refine aops_step1 rfl (ev_call_v (actorgridlaw1_Small_fn k a0 x3 hx3) rfl [] (by repeat' (first | exact All2.nil | refine All2.cons ?_ ?_ | refine ArgV.one ?_ | refine ArgV.agg ?_ | exact ArgC.mk rfl | exact ArgC.lend rfl (by simp) | exact ArgC.le (CLe.nil _) rfl | exact ArgC.le (CLe.emp _) rfl | exact ArgC.le (CLe.any _) rfl)) rfl rfl rfl (.inl rfl) rfl) ?_
  refine aops_step1 rfl (ev_not rfl rfl) ?_
  refine aops_step1 rfl (st_move rfl rfl) ?_
  obtain ⟨o4, j4, h⟩ := Md.bind_s h
  refine aops_cut 4 (ε := Bool) (fun x4 => (⟨90, [], [(1, .one (CV.ls byC a1)), (2, .one (.val (.int .u16 (a2.toNat : Int)))), (3, .one (.ptr 0 0)), (26, .one (.val (.bool x4)))], [(0, some (.box [.val (.int .i64 a0.Kind), .val (.int .i64 a0.N), .val (Sv a0.S), CV.ls c_Int a0.I, CV.ls c_Str a0.L]))]⟩ : ASt)) (fun x4 => x4 = o4) ?_ ?_
  · intro x4 hI4
    subst hI4
    change AOps _ _ _ (⟨90, [], [(1, .one (CV.ls byC a1)), (2, .one (.val (.int .u16 (a2.toNat : Int)))), (3, .one (.ptr 0 0)), (26, .one (.val (.bool x4)))], [(0, some (.box [.val (.int .i64 a0.Kind), .val (.int .i64 a0.N), .val (Sv a0.S), CV.ls c_Int a0.I, CV.ls c_Str a0.L]))]⟩ : ASt) _
    refine aops_step1 rfl (st_move rfl rfl) ?_
    refine aops_mid 4 (⟨90, [], [(1, .one (CV.ls byC a1)), (2, .one (.val (.int .u16 (a2.toNat : Int)))), (3, .one (.ptr 0 0)), (31, .one (.val (.bool (x4 || (decide (((a1.length : Nat) : Int) > 1000))))))], [(0, some (.box [.val (.int .i64 a0.Kind), .val (.int .i64 a0.N), .val (Sv a0.S), CV.ls c_Int a0.I, CV.ls c_Str a0.L]))]⟩ : ASt) ?_ ?_
    · rcases Md.bool_or (x4) with q5 | q5
      · skip
        refine aops_no rfl rfl rfl rfl rfl (by first | decide | (rw [q5]; decide)) ?_
        refine aops_no rfl rfl rfl rfl rfl (by first | decide | (rw [q5]; decide)) ?_
        refine aops_no rfl rfl rfl rfl rfl (by first | decide | (rw [q5]; decide)) ?_
        refine aops_step1 rfl (st_pick_yes rfl (by first | rfl | exact q5) rfl rfl) ?_
        refine aops_nil ?_
        show Weak _ _
        (refine weak_mk rfl rfl ?_ ?_ rfl <;> repeat' (first | exact trivial | refine ⟨?_, ?_⟩ | exact VLe.refl _ | exact BLe.refl _ | refine VLe.one (CLe.val ?_) | exact VLe.one (CLe.nil _) | exact VLe.one (CLe.emp _))) <;> (first | (rw [q5]; done) | (rw [q5]; rfl) | (simp [q5]; done))
      refine aops_yes rfl rfl rfl rfl q5 (st_move rfl rfl) ?_
      refine aops_yes rfl rfl rfl rfl q5 (ev_len_slc rfl rfl) ?_
      refine aops_yes rfl rfl rfl rfl q5 (ev_cmp rfl rfl rfl rfl) ?_
      refine aops_step1 rfl (st_pick_no rfl (by first | rfl | exact q5) rfl rfl) ?_
      refine aops_nil ?_
      show Weak _ _
      (refine weak_mk rfl rfl ?_ ?_ rfl <;> repeat' (first | exact trivial | refine ⟨?_, ?_⟩ | exact VLe.refl _ | exact BLe.refl _ | refine VLe.one (CLe.val ?_) | exact VLe.one (CLe.nil _) | exact VLe.one (CLe.emp _))) <;> (first | (rw [q5]; done) | (rw [q5]; rfl) | (simp [q5]; done))
    change AOps _ _ _ (⟨90, [], [(1, .one (CV.ls byC a1)), (2, .one (.val (.int .u16 (a2.toNat : Int)))), (3, .one (.ptr 0 0)), (31, .one (.val (.bool (x4 || (decide (((a1.length : Nat) : Int) > 1000))))))], [(0, some (.box [.val (.int .i64 a0.Kind), .val (.int .i64 a0.N), .val (Sv a0.S), CV.ls c_Int a0.I, CV.ls c_Str a0.L]))]⟩ : ASt) _
    refine aops_nil ?_
    refine aw_cond rfl (fun c6 => ?_) (fun c6 => ?_)
    · replace h := Md.cond_t h c6
      refine aw_seq ?_
      refine aw_region ?_
      refine aops_step1 rfl (st_assign rfl rfl) ?_
      refine aops_nil ?_
      cases Option.some.inj h
      refine aw_ret ⟨rfl, ret_v (.inl ⟨_, rfl, rfl, fun _ e => nomatch e⟩) rfl rfl rfl ?_⟩
      (repeat' (first | exact TLe.refl _ | exact VLe.refl _ | exact CLe.refl _ | exact All2.nil | refine TLe.tup ?_ | refine TLe.v ?_ | refine All2.cons ?_ ?_ | refine VLe.agg ?_ | refine VLe.one ?_ | exact CLe.nil _ | exact CLe.emp _ | refine CLe.val ?_ | refine CLe.slc ?_ ?_))
    replace h := Md.cond_f h c6
    refine aw_skip ?_
    refine aw_seq ?_
    refine aw_region ?_
    refine aops_step1 rfl (ev_loads (ds := [_, _, _, _, _]) rfl rfl rfl rfl rfl) ?_
    obtain ⟨x7, hx7, h⟩ := Md.bind_s h
    refine aops_step1 rfl (ev_call_v (wire_AppendValue_fn k ([] : List UInt8) a0 x7 hx7) rfl [] (by repeat' (first | exact All2.nil | refine All2.cons ?_ ?_ | refine ArgV.one ?_ | refine ArgV.agg ?_ | exact ArgC.mk rfl | exact ArgC.lend rfl (by simp) | exact ArgC.le (CLe.nil _) rfl | exact ArgC.le (CLe.emp _) rfl | exact ArgC.le (CLe.any _) rfl)) rfl rfl rfl (.inl rfl) rfl) ?_
    refine aops_step1 rfl (st_assign rfl rfl) ?_
    refine aops_nil ?_
    refine aw_seq ?_
    refine aw_region ?_
    refine aops_step1 rfl (st_move rfl rfl) ?_
    obtain ⟨x8, hx8, h⟩ := Md.bind_s h
    refine aops_step1 rfl (ev_call_v (wire_Seal_fn k 1 a1 x8 hx8) rfl [] (by repeat' (first | exact All2.nil | refine All2.cons ?_ ?_ | refine ArgV.one ?_ | refine ArgV.agg ?_ | exact ArgC.mk rfl | exact ArgC.lend rfl (by simp) | exact ArgC.le (CLe.nil _) rfl | exact ArgC.le (CLe.emp _) rfl | exact ArgC.le (CLe.any _) rfl)) rfl rfl rfl (.inl rfl) rfl) ?_
    refine aops_step1 rfl (st_movet rfl rfl) ?_
    refine aops_step1 rfl (ev_extract rfl rfl rfl) ?_
    refine aops_step1 rfl (ev_extract rfl rfl rfl) ?_
    refine aops_step1 rfl (st_assign rfl rfl) ?_
    refine aops_step1 rfl (st_assign rfl rfl) ?_
    refine aops_nil ?_
    refine aw_seq ?_
    refine aw_seq ?_
    refine aw_region ?_
    refine aops_step1 rfl (st_move rfl rfl) ?_
    refine aops_step1 rfl (ev_len_slc rfl rfl) ?_
    refine aops_step1 rfl (ev_cmp rfl rfl rfl rfl) ?_
    refine aops_step1 rfl (st_move rfl rfl) ?_
    refine aops_mid 3 (⟨90, [], [(2, .one (.val (.int .u16 (a2.toNat : Int)))), (7, .one (CV.ls byC x7)), (8, .one (CV.ls byC x8.1)), (45, .one (.val (.bool ((((x7.length : Nat) : Int) == 0) || (x8.2 != 0)))))], []⟩ : ASt) ?_ ?_
    · rcases Md.bool_or ((((x7.length : Nat) : Int) == 0)) with q9 | q9
      · skip
        refine aops_no rfl rfl rfl rfl rfl (by first | decide | (rw [q9]; decide)) ?_
        refine aops_no rfl rfl rfl rfl rfl (by first | decide | (rw [q9]; decide)) ?_
        refine aops_step1 rfl (st_pick_yes rfl (by first | rfl | exact q9) rfl rfl) ?_
        refine aops_nil ?_
        show Weak _ _
        (refine weak_mk rfl rfl ?_ ?_ rfl <;> repeat' (first | exact trivial | refine ⟨?_, ?_⟩ | exact VLe.refl _ | exact BLe.refl _ | refine VLe.one (CLe.val ?_) | exact VLe.one (CLe.nil _) | exact VLe.one (CLe.emp _))) <;> (first | (rw [q9]; done) | (rw [q9]; rfl) | (simp [q9]; done))
      refine aops_yes rfl rfl rfl rfl q9 (st_move rfl rfl) ?_
      refine aops_yes rfl rfl rfl rfl q9 (ev_cmp rfl rfl rfl rfl) ?_
      refine aops_step1 rfl (st_pick_no rfl (by first | rfl | exact q9) rfl rfl) ?_
      refine aops_nil ?_
      show Weak _ _
      (refine weak_mk rfl rfl ?_ ?_ rfl <;> repeat' (first | exact trivial | refine ⟨?_, ?_⟩ | exact VLe.refl _ | exact BLe.refl _ | refine VLe.one (CLe.val ?_) | exact VLe.one (CLe.nil _) | exact VLe.one (CLe.emp _))) <;> (first | (rw [q9]; done) | (rw [q9]; rfl) | (simp [q9]; done))
    change AOps _ _ _ (⟨90, [], [(2, .one (.val (.int .u16 (a2.toNat : Int)))), (7, .one (CV.ls byC x7)), (8, .one (CV.ls byC x8.1)), (45, .one (.val (.bool ((((x7.length : Nat) : Int) == 0) || (x8.2 != 0)))))], []⟩ : ASt) _
    refine aops_step1 rfl (st_move rfl rfl) ?_
    refine aops_mid 4 (⟨90, [], [(2, .one (.val (.int .u16 (a2.toNat : Int)))), (7, .one (CV.ls byC x7)), (8, .one (CV.ls byC x8.1)), (50, .one (.val (.bool (((((x7.length : Nat) : Int) == 0) || (x8.2 != 0)) || (((x8.1.length : Nat) : Int) == 0)))))], []⟩ : ASt) ?_ ?_
    · rcases Md.bool_or (((((x7.length : Nat) : Int) == 0) || (x8.2 != 0))) with q10 | q10
      · skip
        refine aops_no rfl rfl rfl rfl rfl (by first | decide | (rw [q10]; decide)) ?_
        refine aops_no rfl rfl rfl rfl rfl (by first | decide | (rw [q10]; decide)) ?_
        refine aops_no rfl rfl rfl rfl rfl (by first | decide | (rw [q10]; decide)) ?_
        refine aops_step1 rfl (st_pick_yes rfl (by first | rfl | exact q10) rfl rfl) ?_
        refine aops_nil ?_
        show Weak _ _
        (refine weak_mk rfl rfl ?_ ?_ rfl <;> repeat' (first | exact trivial | refine ⟨?_, ?_⟩ | exact VLe.refl _ | exact BLe.refl _ | refine VLe.one (CLe.val ?_) | exact VLe.one (CLe.nil _) | exact VLe.one (CLe.emp _))) <;> (first | (rw [q10]; done) | (rw [q10]; rfl) | (simp [q10]; done))
      refine aops_yes rfl rfl rfl rfl q10 (st_move rfl rfl) ?_
      refine aops_yes rfl rfl rfl rfl q10 (ev_len_slc rfl rfl) ?_
      refine aops_yes rfl rfl rfl rfl q10 (ev_cmp rfl rfl rfl rfl) ?_
      refine aops_step1 rfl (st_pick_no rfl (by first | rfl | exact q10) rfl rfl) ?_
      refine aops_nil ?_
      show Weak _ _
      (refine weak_mk rfl rfl ?_ ?_ rfl <;> repeat' (first | exact trivial | refine ⟨?_, ?_⟩ | exact VLe.refl _ | exact BLe.refl _ | refine VLe.one (CLe.val ?_) | exact VLe.one (CLe.nil _) | exact VLe.one (CLe.emp _))) <;> (first | (rw [q10]; done) | (rw [q10]; rfl) | (simp [q10]; done))
    change AOps _ _ _ (⟨90, [], [(2, .one (.val (.int .u16 (a2.toNat : Int)))), (7, .one (CV.ls byC x7)), (8, .one (CV.ls byC x8.1)), (50, .one (.val (.bool (((((x7.length : Nat) : Int) == 0) || (x8.2 != 0)) || (((x8.1.length : Nat) : Int) == 0)))))], []⟩ : ASt) _
    refine aops_nil ?_
    refine aw_cond rfl (fun c11 => ?_) (fun c11 => ?_)
    · replace h := Md.cond_t h c11
      refine aw_seq ?_
      refine aw_region ?_
      refine aops_step1 rfl (st_assign rfl rfl) ?_
      refine aops_nil ?_
      cases Option.some.inj h
      refine aw_ret ⟨rfl, ret_v (.inl ⟨_, rfl, rfl, fun _ e => nomatch e⟩) rfl rfl rfl ?_⟩
      (repeat' (first | exact TLe.refl _ | exact VLe.refl _ | exact CLe.refl _ | exact All2.nil | refine TLe.tup ?_ | refine TLe.v ?_ | refine All2.cons ?_ ?_ | refine VLe.agg ?_ | refine VLe.one ?_ | exact CLe.nil _ | exact CLe.emp _ | refine CLe.val ?_ | refine CLe.slc ?_ ?_))
    replace h := Md.cond_f h c11
    refine aw_skip ?_
    refine aw_seq ?_
    refine aw_region ?_
    refine aops_step1 rfl (st_move rfl rfl) ?_
    refine aops_step1 rfl (st_move rfl rfl) ?_
    refine aops_step1 rfl (st_conv_int rfl rfl Try.underlying53 Try.underlying3 (Md.conv_u16_i64 a2)) ?_
    refine aops_step1 rfl (st_move rfl rfl) ?_
    refine aops_step1 rfl (ev_len_slc rfl rfl) ?_
    obtain ⟨g12, h⟩ := Md.ifp_s h
    refine aops_step1 rfl (ev_rem rfl rfl rfl (Md.nz g12) (Md.nat_rem _ _)) ?_
    obtain ⟨g13, h⟩ := Md.ifp_s h
    refine aops_step1 rfl (st_cut_hi (f := byC) (fun _ => rfl) rfl ⟨_, _, rfl, rfl⟩ g13 rfl) ?_
    obtain ⟨x14, hx14, h⟩ := Md.bind_s h
    refine aops_step1 rfl (ev_call_v (wire_Value_fn k (x7.take (a2.toNat % x7.length)) x14 hx14) rfl [] (by repeat' (first | exact All2.nil | refine All2.cons ?_ ?_ | refine ArgV.one ?_ | refine ArgV.agg ?_ | exact ArgC.mk rfl | exact ArgC.lend rfl (by simp) | exact ArgC.le (CLe.nil _) rfl | exact ArgC.le (CLe.emp _) rfl | exact ArgC.le (CLe.any _) rfl)) rfl rfl rfl (.inl rfl) rfl) ?_
    refine aops_step1 rfl (st_movet rfl rfl) ?_
    refine aops_step1 rfl (ev_extract rfl rfl rfl) ?_
    refine aops_step1 rfl (ev_extract rfl rfl rfl) ?_
    refine aops_step1 rfl (ev_extract rfl rfl rfl) ?_
    refine aops_step1 rfl (st_alloc (cs := [.val (.int .i64 0), .val (.int .i64 0), .val (Sv []), .val (.slice none 0 0), .val (.slice none 0 0)]) 1 rfl rfl rfl rfl rfl) ?_
    refine aops_step1 rfl (st_store (cs' := [_, _, _, _, _]) rfl rfl rfl rfl rfl rfl rfl rfl rfl) ?_
    refine aops_step1 rfl (st_assign rfl rfl) ?_
    refine aops_step1 rfl (st_assign rfl rfl) ?_
    refine aops_nil ?_
    refine aw_seq ?_
    refine aw_region ?_
    refine aops_step1 rfl (st_move rfl rfl) ?_
    refine aops_step1 rfl (st_move rfl rfl) ?_
    refine aops_step1 rfl (st_conv_int rfl rfl Try.underlying53 Try.underlying3 (Md.conv_u16_i64 a2)) ?_
    refine aops_step1 rfl (st_move rfl rfl) ?_
    refine aops_step1 rfl (ev_len_slc rfl rfl) ?_
    obtain ⟨g15, h⟩ := Md.ifp_s h
    refine aops_step1 rfl (ev_rem rfl rfl rfl (Md.nz g15) (Md.nat_rem _ _)) ?_
    obtain ⟨g16, h⟩ := Md.ifp_s h
    refine aops_step1 rfl (st_cut_hi (f := byC) (fun _ => rfl) rfl ⟨_, _, rfl, rfl⟩ g16 rfl) ?_
    obtain ⟨x17, hx17, h⟩ := Md.bind_s h
    refine aops_step1 rfl (ev_call_v (wire_Open_fn k (x8.1.take (a2.toNat % x8.1.length)) x17 hx17) rfl [] (by repeat' (first | exact All2.nil | refine All2.cons ?_ ?_ | refine ArgV.one ?_ | refine ArgV.agg ?_ | exact ArgC.mk rfl | exact ArgC.lend rfl (by simp) | exact ArgC.le (CLe.nil _) rfl | exact ArgC.le (CLe.emp _) rfl | exact ArgC.le (CLe.any _) rfl)) rfl rfl rfl (.inl rfl) rfl) ?_
    refine aops_step1 rfl (st_movet rfl rfl) ?_
    refine aops_step1 rfl (ev_extract rfl rfl rfl) ?_
    refine aops_step1 rfl (ev_extract rfl rfl rfl) ?_
    refine aops_step1 rfl (ev_extract rfl rfl rfl) ?_
    refine aops_step1 rfl (ev_extract rfl rfl rfl) ?_
    refine aops_step1 rfl (st_assign rfl rfl) ?_
    refine aops_step1 rfl (st_assign rfl rfl) ?_
    refine aops_step1 rfl (st_assign rfl rfl) ?_
    refine aops_step1 rfl (st_assign rfl rfl) ?_
    refine aops_nil ?_
    refine aw_seq ?_
    refine aw_region ?_
    refine aops_step1 rfl (st_move rfl rfl) ?_
    refine aops_step1 rfl (ev_cmp rfl rfl rfl rfl) ?_
    refine aops_step1 rfl (st_move rfl rfl) ?_
    refine aops_mid 3 (⟨90, [], [(15, .one (.val (.int .i64 x17.2.2.1))), (16, .one (.val (.int .i64 x17.2.2.2))), (81, .one (.val (.bool ((x14.2.2 == 2) && (x14.2.1 == 0)))))], []⟩ : ASt) ?_ ?_
    · rcases Md.bool_or ((x14.2.2 == 2)) with q18 | q18
      · skip
        refine aops_yes rfl rfl rfl rfl q18 (st_move rfl rfl) ?_
        refine aops_yes rfl rfl rfl rfl q18 (ev_cmp rfl rfl rfl rfl) ?_
        refine aops_step1 rfl (st_pick_yes rfl (by first | rfl | exact q18) rfl rfl) ?_
        refine aops_nil ?_
        show Weak _ _
        (refine weak_mk rfl rfl ?_ ?_ rfl <;> repeat' (first | exact trivial | refine ⟨?_, ?_⟩ | exact VLe.refl _ | exact BLe.refl _ | refine VLe.one (CLe.val ?_) | exact VLe.one (CLe.nil _) | exact VLe.one (CLe.emp _))) <;> (first | (rw [q18]; done) | (rw [q18]; rfl) | (simp [q18]; done))
      refine aops_no rfl rfl rfl rfl rfl (by first | decide | (rw [q18]; decide)) ?_
      refine aops_no rfl rfl rfl rfl rfl (by first | decide | (rw [q18]; decide)) ?_
      refine aops_step1 rfl (st_pick_no rfl (by first | rfl | exact q18) rfl rfl) ?_
      refine aops_nil ?_
      show Weak _ _
      (refine weak_mk rfl rfl ?_ ?_ rfl <;> repeat' (first | exact trivial | refine ⟨?_, ?_⟩ | exact VLe.refl _ | exact BLe.refl _ | refine VLe.one (CLe.val ?_) | exact VLe.one (CLe.nil _) | exact VLe.one (CLe.emp _))) <;> (first | (rw [q18]; done) | (rw [q18]; rfl) | (simp [q18]; done))
    change AOps _ _ _ (⟨90, [], [(15, .one (.val (.int .i64 x17.2.2.1))), (16, .one (.val (.int .i64 x17.2.2.2))), (81, .one (.val (.bool ((x14.2.2 == 2) && (x14.2.1 == 0)))))], []⟩ : ASt) _
    refine aops_step1 rfl (st_move rfl rfl) ?_
    refine aops_mid 3 (⟨90, [], [(15, .one (.val (.int .i64 x17.2.2.1))), (85, .one (.val (.bool (((x14.2.2 == 2) && (x14.2.1 == 0)) && (x17.2.2.2 == 2)))))], []⟩ : ASt) ?_ ?_
    · rcases Md.bool_or (((x14.2.2 == 2) && (x14.2.1 == 0))) with q19 | q19
      · skip
        refine aops_yes rfl rfl rfl rfl q19 (st_move rfl rfl) ?_
        refine aops_yes rfl rfl rfl rfl q19 (ev_cmp rfl rfl rfl rfl) ?_
        refine aops_step1 rfl (st_pick_yes rfl (by first | rfl | exact q19) rfl rfl) ?_
        refine aops_nil ?_
        show Weak _ _
        (refine weak_mk rfl rfl ?_ ?_ rfl <;> repeat' (first | exact trivial | refine ⟨?_, ?_⟩ | exact VLe.refl _ | exact BLe.refl _ | refine VLe.one (CLe.val ?_) | exact VLe.one (CLe.nil _) | exact VLe.one (CLe.emp _))) <;> (first | (rw [q19]; done) | (rw [q19]; rfl) | (simp [q19]; done))
      refine aops_no rfl rfl rfl rfl rfl (by first | decide | (rw [q19]; decide)) ?_
      refine aops_no rfl rfl rfl rfl rfl (by first | decide | (rw [q19]; decide)) ?_
      refine aops_step1 rfl (st_pick_no rfl (by first | rfl | exact q19) rfl rfl) ?_
      refine aops_nil ?_
      show Weak _ _
      (refine weak_mk rfl rfl ?_ ?_ rfl <;> repeat' (first | exact trivial | refine ⟨?_, ?_⟩ | exact VLe.refl _ | exact BLe.refl _ | refine VLe.one (CLe.val ?_) | exact VLe.one (CLe.nil _) | exact VLe.one (CLe.emp _))) <;> (first | (rw [q19]; done) | (rw [q19]; rfl) | (simp [q19]; done))
    change AOps _ _ _ (⟨90, [], [(15, .one (.val (.int .i64 x17.2.2.1))), (85, .one (.val (.bool (((x14.2.2 == 2) && (x14.2.1 == 0)) && (x17.2.2.2 == 2)))))], []⟩ : ASt) _
    refine aops_step1 rfl (st_move rfl rfl) ?_
    refine aops_mid 3 (⟨90, [], [(89, .one (.val (.bool ((((x14.2.2 == 2) && (x14.2.1 == 0)) && (x17.2.2.2 == 2)) && (x17.2.2.1 == 0)))))], []⟩ : ASt) ?_ ?_
    · rcases Md.bool_or ((((x14.2.2 == 2) && (x14.2.1 == 0)) && (x17.2.2.2 == 2))) with q20 | q20
      · skip
        refine aops_yes rfl rfl rfl rfl q20 (st_move rfl rfl) ?_
        refine aops_yes rfl rfl rfl rfl q20 (ev_cmp rfl rfl rfl rfl) ?_
        refine aops_step1 rfl (st_pick_yes rfl (by first | rfl | exact q20) rfl rfl) ?_
        refine aops_nil ?_
        show Weak _ _
        (refine weak_mk rfl rfl ?_ ?_ rfl <;> repeat' (first | exact trivial | refine ⟨?_, ?_⟩ | exact VLe.refl _ | exact BLe.refl _ | refine VLe.one (CLe.val ?_) | exact VLe.one (CLe.nil _) | exact VLe.one (CLe.emp _))) <;> (first | (rw [q20]; done) | (rw [q20]; rfl) | (simp [q20]; done))
      refine aops_no rfl rfl rfl rfl rfl (by first | decide | (rw [q20]; decide)) ?_
      refine aops_no rfl rfl rfl rfl rfl (by first | decide | (rw [q20]; decide)) ?_
      refine aops_step1 rfl (st_pick_no rfl (by first | rfl | exact q20) rfl rfl) ?_
      refine aops_nil ?_
      show Weak _ _
      (refine weak_mk rfl rfl ?_ ?_ rfl <;> repeat' (first | exact trivial | refine ⟨?_, ?_⟩ | exact VLe.refl _ | exact BLe.refl _ | refine VLe.one (CLe.val ?_) | exact VLe.one (CLe.nil _) | exact VLe.one (CLe.emp _))) <;> (first | (rw [q20]; done) | (rw [q20]; rfl) | (simp [q20]; done))
    change AOps _ _ _ (⟨90, [], [(89, .one (.val (.bool ((((x14.2.2 == 2) && (x14.2.1 == 0)) && (x17.2.2.2 == 2)) && (x17.2.2.1 == 0)))))], []⟩ : ASt) _
    refine aops_step1 rfl (st_assign rfl rfl) ?_
    refine aops_nil ?_
    cases Option.some.inj h
    refine aw_ret ⟨rfl, ret_v (.inl ⟨_, rfl, rfl, fun _ e => nomatch e⟩) rfl rfl rfl ?_⟩
    (repeat' (first | exact TLe.refl _ | exact VLe.refl _ | exact CLe.refl _ | exact All2.nil | refine TLe.tup ?_ | refine TLe.v ?_ | refine All2.cons ?_ ?_ | refine VLe.agg ?_ | refine VLe.one ?_ | exact CLe.nil _ | exact CLe.emp _ | refine CLe.val ?_ | refine CLe.slc ?_ ?_))
  rcases Md.bool_or ((!x3)) with q4 | q4
  · replace j4 := Md.cond_t j4 q4
    refine aops_no rfl rfl rfl rfl rfl (by first | decide | (rw [q4]; decide)) ?_
    refine aops_no rfl rfl rfl rfl rfl (by first | decide | (rw [q4]; decide)) ?_
    refine aops_no rfl rfl rfl rfl rfl (by first | decide | (rw [q4]; decide)) ?_
    refine aops_step1 rfl (st_pick_yes rfl (by first | rfl | exact q4) rfl rfl) ?_
    refine aops_nil ?_
    show ∃ _x : Bool, _ = _ ∧ Weak _ _
    exact ⟨true, Option.some.inj j4, (by (refine weak_mk rfl rfl ?_ ?_ rfl <;> repeat' (first | exact trivial | refine ⟨?_, ?_⟩ | exact VLe.refl _ | exact BLe.refl _ | refine VLe.one (CLe.val ?_) | exact VLe.one (CLe.nil _) | exact VLe.one (CLe.emp _))))⟩
  replace j4 := Md.cond_f j4 q4
  refine aops_yes rfl rfl rfl rfl q4 (ev_loads (ds := [_, _, _, _, _]) rfl rfl rfl rfl rfl) ?_
  obtain ⟨x21, hx21, j4⟩ := Md.bind_s j4
  refine aops_yes rfl rfl rfl rfl q4 (ev_call_v (wire_ValidValue_fn k a0 x21 hx21) rfl [] (by repeat' (first | exact All2.nil | refine All2.cons ?_ ?_ | refine ArgV.one ?_ | refine ArgV.agg ?_ | exact ArgC.mk rfl | exact ArgC.lend rfl (by simp) | exact ArgC.le (CLe.nil _) rfl | exact ArgC.le (CLe.emp _) rfl | exact ArgC.le (CLe.any _) rfl)) rfl rfl rfl (.inl rfl) rfl) ?_
  refine aops_yes rfl rfl rfl rfl q4 (ev_not rfl rfl) ?_
  refine aops_step1 rfl (st_pick_no rfl (by first | rfl | exact q4) rfl rfl) ?_
  refine aops_nil ?_
  show ∃ _x : Bool, _ = _ ∧ Weak _ _
  exact ⟨(!x21), Option.some.inj j4, (by (refine weak_mk rfl rfl ?_ ?_ rfl <;> repeat' (first | exact trivial | refine ⟨?_, ?_⟩ | exact VLe.refl _ | exact BLe.refl _ | refine VLe.one (CLe.val ?_) | exact VLe.one (CLe.nil _) | exact VLe.one (CLe.emp _))))⟩
end Md
end Go.Proofs.Ytbnjdkpangmneaa
