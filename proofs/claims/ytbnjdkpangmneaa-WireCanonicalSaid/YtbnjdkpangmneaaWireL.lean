/-
  WireL: where a function's model gives a value, the function returns what reads as it (printed by wip/tools/auto.py). Condition of each: the model gives a value.
-/
import Derived.Test.YtbnjdkpangmneaaWireLM
import Derived.Test.YtbnjdkpangmneaaWireR
namespace Go.Proofs.Ytbnjdkpangmneaa
open Go.ChangeShapes Go.WideShapes Go.RowKit
open Abs
set_option linter.unusedVariables false
set_option linter.unusedSimpArgs false
set_option maxRecDepth 10000
namespace Md
set_option maxHeartbeats 2000000 in
theorem actorgridlaw1_awake_fn (k : Nat) (r : Bool) (h : actorgridlaw1_awake k = some r) : FnC Try.prog 13 [] [] (Det (.one (.val (.bool r))) []) := by
  unfold actorgridlaw1_awake at h
  refine fn_intro' 130 Try.func13 rfl rfl rfl ?_
  refine aw_seq ?_
  refine aw_region ?_
  refine aops_step1 rfl (st_assign rfl rfl) ?_
  refine aops_nil ?_
  refine aw_seq ?_
  refine aw_region ?_
  refine aops_step1 rfl (st_slice_lit (el := lsEl byC [(172 : UInt8), (2 : UInt8), (9 : UInt8)]) 0 rfl rfl rfl rfl rfl rfl rfl rfl (lit_el byC 1 [(172 : UInt8), (2 : UInt8), (9 : UInt8)] (fun _ => rfl)) rfl) ?_
  obtain ⟨x1, hx1, h⟩ := Md.bind_s h
  refine aops_step1 rfl (ev_call_v (wire_Uint_fn k [(172 : UInt8), (2 : UInt8), (9 : UInt8)] x1 hx1) rfl [0] (by repeat' (first | exact All2.nil | refine All2.cons ?_ ?_ | refine ArgV.one ?_ | refine ArgV.agg ?_ | exact ArgC.mk rfl | exact ArgC.lend rfl (by simp) | exact ArgC.le (CLe.nil _) rfl | exact ArgC.le (CLe.emp _) rfl | exact ArgC.le (CLe.any _) rfl)) rfl rfl rfl (.inr rfl) rfl) ?_
  refine aops_step1 rfl (st_movet rfl rfl) ?_
  refine aops_step1 rfl (ev_extract rfl rfl rfl) ?_
  refine aops_step1 rfl (ev_extract rfl rfl rfl) ?_
  refine aops_step1 rfl (ev_extract rfl rfl rfl) ?_
  refine aops_step1 rfl (st_assign rfl rfl) ?_
  refine aops_step1 rfl (st_assign rfl rfl) ?_
  refine aops_step1 rfl (st_assign rfl rfl) ?_
  refine aops_nil ?_
  refine aw_seq ?_
  refine aw_region ?_
  refine aops_step1 rfl (st_slice_lit (el := lsEl byC [(128 : UInt8), (0 : UInt8)]) 1 rfl rfl rfl rfl rfl rfl rfl rfl (lit_el byC 1 [(128 : UInt8), (0 : UInt8)] (fun _ => rfl)) rfl) ?_
  obtain ⟨x2, hx2, h⟩ := Md.bind_s h
  refine aops_step1 rfl (ev_call_v (wire_Uint_fn k [(128 : UInt8), (0 : UInt8)] x2 hx2) rfl [1] (by repeat' (first | exact All2.nil | refine All2.cons ?_ ?_ | refine ArgV.one ?_ | refine ArgV.agg ?_ | exact ArgC.mk rfl | exact ArgC.lend rfl (by simp) | exact ArgC.le (CLe.nil _) rfl | exact ArgC.le (CLe.emp _) rfl | exact ArgC.le (CLe.any _) rfl)) rfl rfl rfl (.inr rfl) rfl) ?_
  refine aops_step1 rfl (st_movet rfl rfl) ?_
  refine aops_step1 rfl (ev_extract rfl rfl rfl) ?_
  refine aops_step1 rfl (ev_extract rfl rfl rfl) ?_
  refine aops_step1 rfl (ev_extract rfl rfl rfl) ?_
  refine aops_step1 rfl (st_assign rfl rfl) ?_
  refine aops_step1 rfl (st_assign rfl rfl) ?_
  refine aops_step1 rfl (st_assign rfl rfl) ?_
  refine aops_nil ?_
  refine aw_seq ?_
  refine aw_region ?_
  obtain ⟨x3, hx3, h⟩ := Md.bind_s h
  refine aops_step1 rfl (st_call_r (r' := .one (.own 2)) 2 rfl (wire_AppendString_fn k ([] : List UInt8) [97, 98] x3 hx3) rfl [] (by repeat' (first | exact All2.nil | refine All2.cons ?_ ?_ | refine ArgV.one ?_ | refine ArgV.agg ?_ | exact ArgC.mk rfl | exact ArgC.lend rfl (by simp) | exact ArgC.le (CLe.nil _) rfl | exact ArgC.le (CLe.emp _) rfl | exact ArgC.le (CLe.any _) rfl)) rfl rfl rfl (.inl rfl) rfl rfl) ?_
  obtain ⟨x4, hx4, h⟩ := Md.bind_s h
  refine aops_step1 rfl (ev_call_v (wire_String_fn k x3 2 x4 hx4) rfl [2] (by repeat' (first | exact All2.nil | refine All2.cons ?_ ?_ | refine ArgV.one ?_ | refine ArgV.agg ?_ | exact ArgC.mk rfl | exact ArgC.lend rfl (by simp) | exact ArgC.le (CLe.nil _) rfl | exact ArgC.le (CLe.emp _) rfl | exact ArgC.le (CLe.any _) rfl)) rfl rfl rfl (.inr rfl) rfl) ?_
  refine aops_step1 rfl (st_movet rfl rfl) ?_
  refine aops_step1 rfl (ev_extract rfl rfl rfl) ?_
  refine aops_step1 rfl (ev_extract rfl rfl rfl) ?_
  refine aops_step1 rfl (ev_extract rfl rfl rfl) ?_
  refine aops_step1 rfl (st_assign rfl rfl) ?_
  refine aops_step1 rfl (st_assign rfl rfl) ?_
  refine aops_step1 rfl (st_assign rfl rfl) ?_
  refine aops_nil ?_
  refine aw_seq ?_
  refine aw_region ?_
  refine aops_step1 rfl (st_slice_lit (el := lsEl c_Str [[113]]) 3 rfl rfl rfl rfl rfl rfl rfl rfl (lit_el c_Str 1 [[113]] (fun _ => rfl)) rfl) ?_
  refine aops_step1 rfl (ev_build' (out := [_, _, _, _, _]) rfl rfl rfl rfl rfl) ?_
  obtain ⟨x5, hx5, h⟩ := Md.bind_s h
  refine aops_freeze 3 rfl ?_
  refine aops_step1 rfl (ev_call_v (wire_AppendValue_fn k ([] : List UInt8) (⟨5, 0, ([] : List UInt8), ([] : List Int), [[113]]⟩ : Value) x5 hx5) rfl [] (by repeat' (first | exact All2.nil | refine All2.cons ?_ ?_ | refine ArgV.one ?_ | refine ArgV.agg ?_ | exact ArgC.mk rfl | exact ArgC.lend rfl (by simp) | exact ArgC.le (CLe.nil _) rfl | exact ArgC.le (CLe.emp _) rfl | exact ArgC.le (CLe.any _) rfl)) rfl rfl rfl (.inl rfl) rfl) ?_
  obtain ⟨x6, hx6, h⟩ := Md.bind_s h
  refine aops_step1 rfl (ev_call_v (wire_Value_fn k x5 x6 hx6) rfl [] (by repeat' (first | exact All2.nil | refine All2.cons ?_ ?_ | refine ArgV.one ?_ | refine ArgV.agg ?_ | exact ArgC.mk rfl | exact ArgC.lend rfl (by simp) | exact ArgC.le (CLe.nil _) rfl | exact ArgC.le (CLe.emp _) rfl | exact ArgC.le (CLe.any _) rfl)) rfl rfl rfl (.inl rfl) rfl) ?_
  refine aops_step1 rfl (st_movet rfl rfl) ?_
  refine aops_step1 rfl (ev_extract rfl rfl rfl) ?_
  refine aops_step1 rfl (ev_extract rfl rfl rfl) ?_
  refine aops_step1 rfl (ev_extract rfl rfl rfl) ?_
  refine aops_step1 rfl (st_alloc (cs := [.val (.int .i64 0), .val (.int .i64 0), .val (Sv []), .val (.slice none 0 0), .val (.slice none 0 0)]) 4 rfl rfl rfl rfl rfl) ?_
  refine aops_step1 rfl (st_store (cs' := [_, _, _, _, _]) rfl rfl rfl rfl rfl rfl rfl rfl rfl) ?_
  refine aops_step1 rfl (st_assign rfl rfl) ?_
  refine aops_step1 rfl (st_assign rfl rfl) ?_
  refine aops_nil ?_
  refine aw_seq ?_
  refine aw_region ?_
  refine aops_step1 rfl (st_slice_lit (el := lsEl byC [(98 : UInt8), (111 : UInt8), (100 : UInt8), (121 : UInt8)]) 5 rfl rfl rfl rfl rfl rfl rfl rfl (lit_el byC 1 [(98 : UInt8), (111 : UInt8), (100 : UInt8), (121 : UInt8)] (fun _ => rfl)) rfl) ?_
  refine aops_step1 rfl (st_conv_own rfl rfl (by decide) Try.underlying22 Try.underlying5 rfl) ?_
  obtain ⟨x7, hx7, h⟩ := Md.bind_s h
  refine aops_step1 rfl (ev_call_v (wire_Seal_fn k 7 [(98 : UInt8), (111 : UInt8), (100 : UInt8), (121 : UInt8)] x7 hx7) rfl [] (by repeat' (first | exact All2.nil | refine All2.cons ?_ ?_ | refine ArgV.one ?_ | refine ArgV.agg ?_ | exact ArgC.mk rfl | exact ArgC.lend rfl (by simp) | exact ArgC.le (CLe.nil _) rfl | exact ArgC.le (CLe.emp _) rfl | exact ArgC.le (CLe.any _) rfl)) rfl rfl rfl (.inl rfl) rfl) ?_
  refine aops_step1 rfl (st_movet rfl rfl) ?_
  refine aops_step1 rfl (ev_extract rfl rfl rfl) ?_
  refine aops_step1 rfl (ev_extract rfl rfl rfl) ?_
  refine aops_step1 rfl (st_assign rfl rfl) ?_
  refine aops_step1 rfl (st_assign rfl rfl) ?_
  refine aops_nil ?_
  refine aw_seq ?_
  refine aw_region ?_
  refine aops_step1 rfl (st_move rfl rfl) ?_
  obtain ⟨x8, hx8, h⟩ := Md.bind_s h
  refine aops_step1 rfl (ev_call_v (wire_Open_fn k x7.1 x8 hx8) rfl [] (by repeat' (first | exact All2.nil | refine All2.cons ?_ ?_ | refine ArgV.one ?_ | refine ArgV.agg ?_ | exact ArgC.mk rfl | exact ArgC.lend rfl (by simp) | exact ArgC.le (CLe.nil _) rfl | exact ArgC.le (CLe.emp _) rfl | exact ArgC.le (CLe.any _) rfl)) rfl rfl rfl (.inl rfl) rfl) ?_
  refine aops_step1 rfl (st_movet rfl rfl) ?_
  refine aops_step1 rfl (ev_extract rfl rfl rfl) ?_
  refine aops_step1 rfl (ev_extract rfl rfl rfl) ?_
  refine aops_step1 rfl (ev_extract rfl rfl rfl) ?_
  refine aops_step1 rfl (ev_extract rfl rfl rfl) ?_
  refine aops_step1 rfl (st_assign rfl rfl) ?_
  refine aops_step1 rfl (st_assign rfl rfl) ?_
  refine aops_step1 rfl (st_assign rfl rfl) ?_
  refine aops_step1 rfl (st_assign rfl rfl) ?_
  refine aops_nil ?_
  refine aw_seq ?_
  refine aw_region ?_
  refine aops_step1 rfl (st_move rfl rfl) ?_
  refine aops_step1 rfl (ev_cmp rfl rfl rfl rfl) ?_
  refine aops_step1 rfl (st_move rfl rfl) ?_
  refine aops_mid 3 (⟨130, [], [(0, .one (.val (.bool false))), (3, .one (.val (.int .i64 x1.2.2))), (6, .one (.val (.int .i64 x2.2.2))), (7, .one (.val (Sv x4.1))), (8, .one (.val (.int .i64 x4.2.1))), (9, .one (.val (.int .i64 x4.2.2))), (10, .one (.ptr 4 0)), (12, .one (.val (.int .i64 x6.2.2))), (14, .one (.val (.int .i64 x7.2))), (15, .one (.val (.int .i64 x8.1))), (16, .one (CV.ls byC x8.2.1)), (18, .one (.val (.int .i64 x8.2.2.2))), (63, .one (.val (.bool (((x1.1.toNat : Int) == 300) && (x1.2.1 == 2)))))], [(4, some (.box [.val (.int .i64 x6.1.Kind), .val (.int .i64 x6.1.N), .val (Sv x6.1.S), CV.ls c_Int x6.1.I, CV.ls c_Str x6.1.L]))]⟩ : ASt) ?_ ?_
  · rcases Md.bool_or (((x1.1.toNat : Int) == 300)) with q9 | q9
    · skip
      refine aops_yes rfl rfl rfl rfl q9 (st_move rfl rfl) ?_
      refine aops_yes rfl rfl rfl rfl q9 (ev_cmp rfl rfl rfl rfl) ?_
      refine aops_step1 rfl (st_pick_yes rfl (by first | rfl | exact q9) rfl rfl) ?_
      refine aops_nil ?_
      show Weak _ _
      (refine weak_mk rfl rfl ?_ ?_ rfl <;> repeat' (first | exact trivial | refine ⟨?_, ?_⟩ | exact VLe.refl _ | exact BLe.refl _ | refine VLe.one (CLe.val ?_) | exact VLe.one (CLe.nil _) | exact VLe.one (CLe.emp _))) <;> (first | (rw [q9]; done) | (rw [q9]; rfl) | (simp [q9]; done))
    refine aops_no rfl rfl rfl rfl rfl (by first | decide | (rw [q9]; decide)) ?_
    refine aops_no rfl rfl rfl rfl rfl (by first | decide | (rw [q9]; decide)) ?_
    refine aops_step1 rfl (st_pick_no rfl (by first | rfl | exact q9) rfl rfl) ?_
    refine aops_nil ?_
    show Weak _ _
    (refine weak_mk rfl rfl ?_ ?_ rfl <;> repeat' (first | exact trivial | refine ⟨?_, ?_⟩ | exact VLe.refl _ | exact BLe.refl _ | refine VLe.one (CLe.val ?_) | exact VLe.one (CLe.nil _) | exact VLe.one (CLe.emp _))) <;> (first | (rw [q9]; done) | (rw [q9]; rfl) | (simp [q9]; done))
  change AOps _ _ _ (⟨130, [], [(0, .one (.val (.bool false))), (3, .one (.val (.int .i64 x1.2.2))), (6, .one (.val (.int .i64 x2.2.2))), (7, .one (.val (Sv x4.1))), (8, .one (.val (.int .i64 x4.2.1))), (9, .one (.val (.int .i64 x4.2.2))), (10, .one (.ptr 4 0)), (12, .one (.val (.int .i64 x6.2.2))), (14, .one (.val (.int .i64 x7.2))), (15, .one (.val (.int .i64 x8.1))), (16, .one (CV.ls byC x8.2.1)), (18, .one (.val (.int .i64 x8.2.2.2))), (63, .one (.val (.bool (((x1.1.toNat : Int) == 300) && (x1.2.1 == 2)))))], [(4, some (.box [.val (.int .i64 x6.1.Kind), .val (.int .i64 x6.1.N), .val (Sv x6.1.S), CV.ls c_Int x6.1.I, CV.ls c_Str x6.1.L]))]⟩ : ASt) _
  refine aops_step1 rfl (st_move rfl rfl) ?_
  refine aops_mid 3 (⟨130, [], [(0, .one (.val (.bool false))), (6, .one (.val (.int .i64 x2.2.2))), (7, .one (.val (Sv x4.1))), (8, .one (.val (.int .i64 x4.2.1))), (9, .one (.val (.int .i64 x4.2.2))), (10, .one (.ptr 4 0)), (12, .one (.val (.int .i64 x6.2.2))), (14, .one (.val (.int .i64 x7.2))), (15, .one (.val (.int .i64 x8.1))), (16, .one (CV.ls byC x8.2.1)), (18, .one (.val (.int .i64 x8.2.2.2))), (67, .one (.val (.bool ((((x1.1.toNat : Int) == 300) && (x1.2.1 == 2)) && (x1.2.2 == 0)))))], [(4, some (.box [.val (.int .i64 x6.1.Kind), .val (.int .i64 x6.1.N), .val (Sv x6.1.S), CV.ls c_Int x6.1.I, CV.ls c_Str x6.1.L]))]⟩ : ASt) ?_ ?_
  · rcases Md.bool_or ((((x1.1.toNat : Int) == 300) && (x1.2.1 == 2))) with q10 | q10
    · skip
      refine aops_yes rfl rfl rfl rfl q10 (st_move rfl rfl) ?_
      refine aops_yes rfl rfl rfl rfl q10 (ev_cmp rfl rfl rfl rfl) ?_
      refine aops_step1 rfl (st_pick_yes rfl (by first | rfl | exact q10) rfl rfl) ?_
      refine aops_nil ?_
      show Weak _ _
      (refine weak_mk rfl rfl ?_ ?_ rfl <;> repeat' (first | exact trivial | refine ⟨?_, ?_⟩ | exact VLe.refl _ | exact BLe.refl _ | refine VLe.one (CLe.val ?_) | exact VLe.one (CLe.nil _) | exact VLe.one (CLe.emp _))) <;> (first | (rw [q10]; done) | (rw [q10]; rfl) | (simp [q10]; done))
    refine aops_no rfl rfl rfl rfl rfl (by first | decide | (rw [q10]; decide)) ?_
    refine aops_no rfl rfl rfl rfl rfl (by first | decide | (rw [q10]; decide)) ?_
    refine aops_step1 rfl (st_pick_no rfl (by first | rfl | exact q10) rfl rfl) ?_
    refine aops_nil ?_
    show Weak _ _
    (refine weak_mk rfl rfl ?_ ?_ rfl <;> repeat' (first | exact trivial | refine ⟨?_, ?_⟩ | exact VLe.refl _ | exact BLe.refl _ | refine VLe.one (CLe.val ?_) | exact VLe.one (CLe.nil _) | exact VLe.one (CLe.emp _))) <;> (first | (rw [q10]; done) | (rw [q10]; rfl) | (simp [q10]; done))
  change AOps _ _ _ (⟨130, [], [(0, .one (.val (.bool false))), (6, .one (.val (.int .i64 x2.2.2))), (7, .one (.val (Sv x4.1))), (8, .one (.val (.int .i64 x4.2.1))), (9, .one (.val (.int .i64 x4.2.2))), (10, .one (.ptr 4 0)), (12, .one (.val (.int .i64 x6.2.2))), (14, .one (.val (.int .i64 x7.2))), (15, .one (.val (.int .i64 x8.1))), (16, .one (CV.ls byC x8.2.1)), (18, .one (.val (.int .i64 x8.2.2.2))), (67, .one (.val (.bool ((((x1.1.toNat : Int) == 300) && (x1.2.1 == 2)) && (x1.2.2 == 0)))))], [(4, some (.box [.val (.int .i64 x6.1.Kind), .val (.int .i64 x6.1.N), .val (Sv x6.1.S), CV.ls c_Int x6.1.I, CV.ls c_Str x6.1.L]))]⟩ : ASt) _
  refine aops_step1 rfl (st_move rfl rfl) ?_
  refine aops_mid 3 (⟨130, [], [(0, .one (.val (.bool false))), (7, .one (.val (Sv x4.1))), (8, .one (.val (.int .i64 x4.2.1))), (9, .one (.val (.int .i64 x4.2.2))), (10, .one (.ptr 4 0)), (12, .one (.val (.int .i64 x6.2.2))), (14, .one (.val (.int .i64 x7.2))), (15, .one (.val (.int .i64 x8.1))), (16, .one (CV.ls byC x8.2.1)), (18, .one (.val (.int .i64 x8.2.2.2))), (71, .one (.val (.bool (((((x1.1.toNat : Int) == 300) && (x1.2.1 == 2)) && (x1.2.2 == 0)) && (x2.2.2 == 3)))))], [(4, some (.box [.val (.int .i64 x6.1.Kind), .val (.int .i64 x6.1.N), .val (Sv x6.1.S), CV.ls c_Int x6.1.I, CV.ls c_Str x6.1.L]))]⟩ : ASt) ?_ ?_
  · rcases Md.bool_or (((((x1.1.toNat : Int) == 300) && (x1.2.1 == 2)) && (x1.2.2 == 0))) with q11 | q11
    · skip
      refine aops_yes rfl rfl rfl rfl q11 (st_move rfl rfl) ?_
      refine aops_yes rfl rfl rfl rfl q11 (ev_cmp rfl rfl rfl rfl) ?_
      refine aops_step1 rfl (st_pick_yes rfl (by first | rfl | exact q11) rfl rfl) ?_
      refine aops_nil ?_
      show Weak _ _
      (refine weak_mk rfl rfl ?_ ?_ rfl <;> repeat' (first | exact trivial | refine ⟨?_, ?_⟩ | exact VLe.refl _ | exact BLe.refl _ | refine VLe.one (CLe.val ?_) | exact VLe.one (CLe.nil _) | exact VLe.one (CLe.emp _))) <;> (first | (rw [q11]; done) | (rw [q11]; rfl) | (simp [q11]; done))
    refine aops_no rfl rfl rfl rfl rfl (by first | decide | (rw [q11]; decide)) ?_
    refine aops_no rfl rfl rfl rfl rfl (by first | decide | (rw [q11]; decide)) ?_
    refine aops_step1 rfl (st_pick_no rfl (by first | rfl | exact q11) rfl rfl) ?_
    refine aops_nil ?_
    show Weak _ _
    (refine weak_mk rfl rfl ?_ ?_ rfl <;> repeat' (first | exact trivial | refine ⟨?_, ?_⟩ | exact VLe.refl _ | exact BLe.refl _ | refine VLe.one (CLe.val ?_) | exact VLe.one (CLe.nil _) | exact VLe.one (CLe.emp _))) <;> (first | (rw [q11]; done) | (rw [q11]; rfl) | (simp [q11]; done))
  change AOps _ _ _ (⟨130, [], [(0, .one (.val (.bool false))), (7, .one (.val (Sv x4.1))), (8, .one (.val (.int .i64 x4.2.1))), (9, .one (.val (.int .i64 x4.2.2))), (10, .one (.ptr 4 0)), (12, .one (.val (.int .i64 x6.2.2))), (14, .one (.val (.int .i64 x7.2))), (15, .one (.val (.int .i64 x8.1))), (16, .one (CV.ls byC x8.2.1)), (18, .one (.val (.int .i64 x8.2.2.2))), (71, .one (.val (.bool (((((x1.1.toNat : Int) == 300) && (x1.2.1 == 2)) && (x1.2.2 == 0)) && (x2.2.2 == 3)))))], [(4, some (.box [.val (.int .i64 x6.1.Kind), .val (.int .i64 x6.1.N), .val (Sv x6.1.S), CV.ls c_Int x6.1.I, CV.ls c_Str x6.1.L]))]⟩ : ASt) _
  refine aops_step1 rfl (st_move rfl rfl) ?_
  refine aops_mid 3 (⟨130, [], [(0, .one (.val (.bool false))), (8, .one (.val (.int .i64 x4.2.1))), (9, .one (.val (.int .i64 x4.2.2))), (10, .one (.ptr 4 0)), (12, .one (.val (.int .i64 x6.2.2))), (14, .one (.val (.int .i64 x7.2))), (15, .one (.val (.int .i64 x8.1))), (16, .one (CV.ls byC x8.2.1)), (18, .one (.val (.int .i64 x8.2.2.2))), (75, .one (.val (.bool ((((((x1.1.toNat : Int) == 300) && (x1.2.1 == 2)) && (x1.2.2 == 0)) && (x2.2.2 == 3)) && (decide (x4.1 = [97, 98]))))))], [(4, some (.box [.val (.int .i64 x6.1.Kind), .val (.int .i64 x6.1.N), .val (Sv x6.1.S), CV.ls c_Int x6.1.I, CV.ls c_Str x6.1.L]))]⟩ : ASt) ?_ ?_
  · rcases Md.bool_or ((((((x1.1.toNat : Int) == 300) && (x1.2.1 == 2)) && (x1.2.2 == 0)) && (x2.2.2 == 3))) with q12 | q12
    · skip
      refine aops_yes rfl rfl rfl rfl q12 (st_move rfl rfl) ?_
      refine aops_yes rfl rfl rfl rfl q12 (st_str_eq rfl rfl rfl) ?_
      refine aops_step1 rfl (st_pick_yes rfl (by first | rfl | exact q12) rfl rfl) ?_
      refine aops_nil ?_
      show Weak _ _
      (refine weak_mk rfl rfl ?_ ?_ rfl <;> repeat' (first | exact trivial | refine ⟨?_, ?_⟩ | exact VLe.refl _ | exact BLe.refl _ | refine VLe.one (CLe.val ?_) | exact VLe.one (CLe.nil _) | exact VLe.one (CLe.emp _))) <;> (first | (rw [q12]; done) | (rw [q12]; rfl) | (simp [q12]; done))
    refine aops_no rfl rfl rfl rfl rfl (by first | decide | (rw [q12]; decide)) ?_
    refine aops_no rfl rfl rfl rfl rfl (by first | decide | (rw [q12]; decide)) ?_
    refine aops_step1 rfl (st_pick_no rfl (by first | rfl | exact q12) rfl rfl) ?_
    refine aops_nil ?_
    show Weak _ _
    (refine weak_mk rfl rfl ?_ ?_ rfl <;> repeat' (first | exact trivial | refine ⟨?_, ?_⟩ | exact VLe.refl _ | exact BLe.refl _ | refine VLe.one (CLe.val ?_) | exact VLe.one (CLe.nil _) | exact VLe.one (CLe.emp _))) <;> (first | (rw [q12]; done) | (rw [q12]; rfl) | (simp [q12]; done))
  change AOps _ _ _ (⟨130, [], [(0, .one (.val (.bool false))), (8, .one (.val (.int .i64 x4.2.1))), (9, .one (.val (.int .i64 x4.2.2))), (10, .one (.ptr 4 0)), (12, .one (.val (.int .i64 x6.2.2))), (14, .one (.val (.int .i64 x7.2))), (15, .one (.val (.int .i64 x8.1))), (16, .one (CV.ls byC x8.2.1)), (18, .one (.val (.int .i64 x8.2.2.2))), (75, .one (.val (.bool ((((((x1.1.toNat : Int) == 300) && (x1.2.1 == 2)) && (x1.2.2 == 0)) && (x2.2.2 == 3)) && (decide (x4.1 = [97, 98]))))))], [(4, some (.box [.val (.int .i64 x6.1.Kind), .val (.int .i64 x6.1.N), .val (Sv x6.1.S), CV.ls c_Int x6.1.I, CV.ls c_Str x6.1.L]))]⟩ : ASt) _
  refine aops_step1 rfl (st_move rfl rfl) ?_
  refine aops_mid 3 (⟨130, [], [(0, .one (.val (.bool false))), (9, .one (.val (.int .i64 x4.2.2))), (10, .one (.ptr 4 0)), (12, .one (.val (.int .i64 x6.2.2))), (14, .one (.val (.int .i64 x7.2))), (15, .one (.val (.int .i64 x8.1))), (16, .one (CV.ls byC x8.2.1)), (18, .one (.val (.int .i64 x8.2.2.2))), (79, .one (.val (.bool (((((((x1.1.toNat : Int) == 300) && (x1.2.1 == 2)) && (x1.2.2 == 0)) && (x2.2.2 == 3)) && (decide (x4.1 = [97, 98]))) && (x4.2.1 == 3)))))], [(4, some (.box [.val (.int .i64 x6.1.Kind), .val (.int .i64 x6.1.N), .val (Sv x6.1.S), CV.ls c_Int x6.1.I, CV.ls c_Str x6.1.L]))]⟩ : ASt) ?_ ?_
  · rcases Md.bool_or (((((((x1.1.toNat : Int) == 300) && (x1.2.1 == 2)) && (x1.2.2 == 0)) && (x2.2.2 == 3)) && (decide (x4.1 = [97, 98])))) with q13 | q13
    · skip
      refine aops_yes rfl rfl rfl rfl q13 (st_move rfl rfl) ?_
      refine aops_yes rfl rfl rfl rfl q13 (ev_cmp rfl rfl rfl rfl) ?_
      refine aops_step1 rfl (st_pick_yes rfl (by first | rfl | exact q13) rfl rfl) ?_
      refine aops_nil ?_
      show Weak _ _
      (refine weak_mk rfl rfl ?_ ?_ rfl <;> repeat' (first | exact trivial | refine ⟨?_, ?_⟩ | exact VLe.refl _ | exact BLe.refl _ | refine VLe.one (CLe.val ?_) | exact VLe.one (CLe.nil _) | exact VLe.one (CLe.emp _))) <;> (first | (rw [q13]; done) | (rw [q13]; rfl) | (simp [q13]; done))
    refine aops_no rfl rfl rfl rfl rfl (by first | decide | (rw [q13]; decide)) ?_
    refine aops_no rfl rfl rfl rfl rfl (by first | decide | (rw [q13]; decide)) ?_
    refine aops_step1 rfl (st_pick_no rfl (by first | rfl | exact q13) rfl rfl) ?_
    refine aops_nil ?_
    show Weak _ _
    (refine weak_mk rfl rfl ?_ ?_ rfl <;> repeat' (first | exact trivial | refine ⟨?_, ?_⟩ | exact VLe.refl _ | exact BLe.refl _ | refine VLe.one (CLe.val ?_) | exact VLe.one (CLe.nil _) | exact VLe.one (CLe.emp _))) <;> (first | (rw [q13]; done) | (rw [q13]; rfl) | (simp [q13]; done))
  change AOps _ _ _ (⟨130, [], [(0, .one (.val (.bool false))), (9, .one (.val (.int .i64 x4.2.2))), (10, .one (.ptr 4 0)), (12, .one (.val (.int .i64 x6.2.2))), (14, .one (.val (.int .i64 x7.2))), (15, .one (.val (.int .i64 x8.1))), (16, .one (CV.ls byC x8.2.1)), (18, .one (.val (.int .i64 x8.2.2.2))), (79, .one (.val (.bool (((((((x1.1.toNat : Int) == 300) && (x1.2.1 == 2)) && (x1.2.2 == 0)) && (x2.2.2 == 3)) && (decide (x4.1 = [97, 98]))) && (x4.2.1 == 3)))))], [(4, some (.box [.val (.int .i64 x6.1.Kind), .val (.int .i64 x6.1.N), .val (Sv x6.1.S), CV.ls c_Int x6.1.I, CV.ls c_Str x6.1.L]))]⟩ : ASt) _
  refine aops_step1 rfl (st_move rfl rfl) ?_
  refine aops_mid 3 (⟨130, [], [(0, .one (.val (.bool false))), (10, .one (.ptr 4 0)), (12, .one (.val (.int .i64 x6.2.2))), (14, .one (.val (.int .i64 x7.2))), (15, .one (.val (.int .i64 x8.1))), (16, .one (CV.ls byC x8.2.1)), (18, .one (.val (.int .i64 x8.2.2.2))), (83, .one (.val (.bool ((((((((x1.1.toNat : Int) == 300) && (x1.2.1 == 2)) && (x1.2.2 == 0)) && (x2.2.2 == 3)) && (decide (x4.1 = [97, 98]))) && (x4.2.1 == 3)) && (x4.2.2 == 0)))))], [(4, some (.box [.val (.int .i64 x6.1.Kind), .val (.int .i64 x6.1.N), .val (Sv x6.1.S), CV.ls c_Int x6.1.I, CV.ls c_Str x6.1.L]))]⟩ : ASt) ?_ ?_
  · rcases Md.bool_or ((((((((x1.1.toNat : Int) == 300) && (x1.2.1 == 2)) && (x1.2.2 == 0)) && (x2.2.2 == 3)) && (decide (x4.1 = [97, 98]))) && (x4.2.1 == 3))) with q14 | q14
    · skip
      refine aops_yes rfl rfl rfl rfl q14 (st_move rfl rfl) ?_
      refine aops_yes rfl rfl rfl rfl q14 (ev_cmp rfl rfl rfl rfl) ?_
      refine aops_step1 rfl (st_pick_yes rfl (by first | rfl | exact q14) rfl rfl) ?_
      refine aops_nil ?_
      show Weak _ _
      (refine weak_mk rfl rfl ?_ ?_ rfl <;> repeat' (first | exact trivial | refine ⟨?_, ?_⟩ | exact VLe.refl _ | exact BLe.refl _ | refine VLe.one (CLe.val ?_) | exact VLe.one (CLe.nil _) | exact VLe.one (CLe.emp _))) <;> (first | (rw [q14]; done) | (rw [q14]; rfl) | (simp [q14]; done))
    refine aops_no rfl rfl rfl rfl rfl (by first | decide | (rw [q14]; decide)) ?_
    refine aops_no rfl rfl rfl rfl rfl (by first | decide | (rw [q14]; decide)) ?_
    refine aops_step1 rfl (st_pick_no rfl (by first | rfl | exact q14) rfl rfl) ?_
    refine aops_nil ?_
    show Weak _ _
    (refine weak_mk rfl rfl ?_ ?_ rfl <;> repeat' (first | exact trivial | refine ⟨?_, ?_⟩ | exact VLe.refl _ | exact BLe.refl _ | refine VLe.one (CLe.val ?_) | exact VLe.one (CLe.nil _) | exact VLe.one (CLe.emp _))) <;> (first | (rw [q14]; done) | (rw [q14]; rfl) | (simp [q14]; done))
  change AOps _ _ _ (⟨130, [], [(0, .one (.val (.bool false))), (10, .one (.ptr 4 0)), (12, .one (.val (.int .i64 x6.2.2))), (14, .one (.val (.int .i64 x7.2))), (15, .one (.val (.int .i64 x8.1))), (16, .one (CV.ls byC x8.2.1)), (18, .one (.val (.int .i64 x8.2.2.2))), (83, .one (.val (.bool ((((((((x1.1.toNat : Int) == 300) && (x1.2.1 == 2)) && (x1.2.2 == 0)) && (x2.2.2 == 3)) && (decide (x4.1 = [97, 98]))) && (x4.2.1 == 3)) && (x4.2.2 == 0)))))], [(4, some (.box [.val (.int .i64 x6.1.Kind), .val (.int .i64 x6.1.N), .val (Sv x6.1.S), CV.ls c_Int x6.1.I, CV.ls c_Str x6.1.L]))]⟩ : ASt) _
  refine aops_step1 rfl (st_move rfl rfl) ?_
  refine aops_mid 3 (⟨130, [], [(0, .one (.val (.bool false))), (10, .one (.ptr 4 0)), (14, .one (.val (.int .i64 x7.2))), (15, .one (.val (.int .i64 x8.1))), (16, .one (CV.ls byC x8.2.1)), (18, .one (.val (.int .i64 x8.2.2.2))), (87, .one (.val (.bool (((((((((x1.1.toNat : Int) == 300) && (x1.2.1 == 2)) && (x1.2.2 == 0)) && (x2.2.2 == 3)) && (decide (x4.1 = [97, 98]))) && (x4.2.1 == 3)) && (x4.2.2 == 0)) && (x6.2.2 == 0)))))], [(4, some (.box [.val (.int .i64 x6.1.Kind), .val (.int .i64 x6.1.N), .val (Sv x6.1.S), CV.ls c_Int x6.1.I, CV.ls c_Str x6.1.L]))]⟩ : ASt) ?_ ?_
  · rcases Md.bool_or (((((((((x1.1.toNat : Int) == 300) && (x1.2.1 == 2)) && (x1.2.2 == 0)) && (x2.2.2 == 3)) && (decide (x4.1 = [97, 98]))) && (x4.2.1 == 3)) && (x4.2.2 == 0))) with q15 | q15
    · skip
      refine aops_yes rfl rfl rfl rfl q15 (st_move rfl rfl) ?_
      refine aops_yes rfl rfl rfl rfl q15 (ev_cmp rfl rfl rfl rfl) ?_
      refine aops_step1 rfl (st_pick_yes rfl (by first | rfl | exact q15) rfl rfl) ?_
      refine aops_nil ?_
      show Weak _ _
      (refine weak_mk rfl rfl ?_ ?_ rfl <;> repeat' (first | exact trivial | refine ⟨?_, ?_⟩ | exact VLe.refl _ | exact BLe.refl _ | refine VLe.one (CLe.val ?_) | exact VLe.one (CLe.nil _) | exact VLe.one (CLe.emp _))) <;> (first | (rw [q15]; done) | (rw [q15]; rfl) | (simp [q15]; done))
    refine aops_no rfl rfl rfl rfl rfl (by first | decide | (rw [q15]; decide)) ?_
    refine aops_no rfl rfl rfl rfl rfl (by first | decide | (rw [q15]; decide)) ?_
    refine aops_step1 rfl (st_pick_no rfl (by first | rfl | exact q15) rfl rfl) ?_
    refine aops_nil ?_
    show Weak _ _
    (refine weak_mk rfl rfl ?_ ?_ rfl <;> repeat' (first | exact trivial | refine ⟨?_, ?_⟩ | exact VLe.refl _ | exact BLe.refl _ | refine VLe.one (CLe.val ?_) | exact VLe.one (CLe.nil _) | exact VLe.one (CLe.emp _))) <;> (first | (rw [q15]; done) | (rw [q15]; rfl) | (simp [q15]; done))
  change AOps _ _ _ (⟨130, [], [(0, .one (.val (.bool false))), (10, .one (.ptr 4 0)), (14, .one (.val (.int .i64 x7.2))), (15, .one (.val (.int .i64 x8.1))), (16, .one (CV.ls byC x8.2.1)), (18, .one (.val (.int .i64 x8.2.2.2))), (87, .one (.val (.bool (((((((((x1.1.toNat : Int) == 300) && (x1.2.1 == 2)) && (x1.2.2 == 0)) && (x2.2.2 == 3)) && (decide (x4.1 = [97, 98]))) && (x4.2.1 == 3)) && (x4.2.2 == 0)) && (x6.2.2 == 0)))))], [(4, some (.box [.val (.int .i64 x6.1.Kind), .val (.int .i64 x6.1.N), .val (Sv x6.1.S), CV.ls c_Int x6.1.I, CV.ls c_Str x6.1.L]))]⟩ : ASt) _
  refine aops_step1 rfl (st_move rfl rfl) ?_
  refine aops_mid 5 (⟨130, [], [(0, .one (.val (.bool false))), (10, .one (.ptr 4 0)), (14, .one (.val (.int .i64 x7.2))), (15, .one (.val (.int .i64 x8.1))), (16, .one (CV.ls byC x8.2.1)), (18, .one (.val (.int .i64 x8.2.2.2))), (93, .one (.val (.bool ((((((((((x1.1.toNat : Int) == 300) && (x1.2.1 == 2)) && (x1.2.2 == 0)) && (x2.2.2 == 3)) && (decide (x4.1 = [97, 98]))) && (x4.2.1 == 3)) && (x4.2.2 == 0)) && (x6.2.2 == 0)) && (((x6.1.L.length : Nat) : Int) == 1)))))], [(4, some (.box [.val (.int .i64 x6.1.Kind), .val (.int .i64 x6.1.N), .val (Sv x6.1.S), CV.ls c_Int x6.1.I, CV.ls c_Str x6.1.L]))]⟩ : ASt) ?_ ?_
  · rcases Md.bool_or ((((((((((x1.1.toNat : Int) == 300) && (x1.2.1 == 2)) && (x1.2.2 == 0)) && (x2.2.2 == 3)) && (decide (x4.1 = [97, 98]))) && (x4.2.1 == 3)) && (x4.2.2 == 0)) && (x6.2.2 == 0))) with q16 | q16
    · skip
      refine aops_yes rfl rfl rfl rfl q16 (ev_field rfl rfl rfl) ?_
      refine aops_yes rfl rfl rfl rfl q16 (ev_load rfl rfl rfl rfl) ?_
      refine aops_yes rfl rfl rfl rfl q16 (ev_len_slc rfl rfl) ?_
      refine aops_yes rfl rfl rfl rfl q16 (ev_cmp rfl rfl rfl rfl) ?_
      refine aops_step1 rfl (st_pick_yes rfl (by first | rfl | exact q16) rfl rfl) ?_
      refine aops_nil ?_
      show Weak _ _
      (refine weak_mk rfl rfl ?_ ?_ rfl <;> repeat' (first | exact trivial | refine ⟨?_, ?_⟩ | exact VLe.refl _ | exact BLe.refl _ | refine VLe.one (CLe.val ?_) | exact VLe.one (CLe.nil _) | exact VLe.one (CLe.emp _))) <;> (first | (rw [q16]; done) | (rw [q16]; rfl) | (simp [q16]; done))
    refine aops_no rfl rfl rfl rfl rfl (by first | decide | (rw [q16]; decide)) ?_
    refine aops_no rfl rfl rfl rfl rfl (by first | decide | (rw [q16]; decide)) ?_
    refine aops_no rfl rfl rfl rfl rfl (by first | decide | (rw [q16]; decide)) ?_
    refine aops_no rfl rfl rfl rfl rfl (by first | decide | (rw [q16]; decide)) ?_
    refine aops_step1 rfl (st_pick_no rfl (by first | rfl | exact q16) rfl rfl) ?_
    refine aops_nil ?_
    show Weak _ _
    (refine weak_mk rfl rfl ?_ ?_ rfl <;> repeat' (first | exact trivial | refine ⟨?_, ?_⟩ | exact VLe.refl _ | exact BLe.refl _ | refine VLe.one (CLe.val ?_) | exact VLe.one (CLe.nil _) | exact VLe.one (CLe.emp _))) <;> (first | (rw [q16]; done) | (rw [q16]; rfl) | (simp [q16]; done))
  change AOps _ _ _ (⟨130, [], [(0, .one (.val (.bool false))), (10, .one (.ptr 4 0)), (14, .one (.val (.int .i64 x7.2))), (15, .one (.val (.int .i64 x8.1))), (16, .one (CV.ls byC x8.2.1)), (18, .one (.val (.int .i64 x8.2.2.2))), (93, .one (.val (.bool ((((((((((x1.1.toNat : Int) == 300) && (x1.2.1 == 2)) && (x1.2.2 == 0)) && (x2.2.2 == 3)) && (decide (x4.1 = [97, 98]))) && (x4.2.1 == 3)) && (x4.2.2 == 0)) && (x6.2.2 == 0)) && (((x6.1.L.length : Nat) : Int) == 1)))))], [(4, some (.box [.val (.int .i64 x6.1.Kind), .val (.int .i64 x6.1.N), .val (Sv x6.1.S), CV.ls c_Int x6.1.I, CV.ls c_Str x6.1.L]))]⟩ : ASt) _
  refine aops_step1 rfl (st_move rfl rfl) ?_
  obtain ⟨o17, j17, h⟩ := Md.bind_s h
  refine aops_cut 6 (ε := Bool) (fun x17 => (⟨130, [], [(0, .one (.val (.bool false))), (14, .one (.val (.int .i64 x7.2))), (15, .one (.val (.int .i64 x8.1))), (16, .one (CV.ls byC x8.2.1)), (18, .one (.val (.int .i64 x8.2.2.2))), (100, .one (.val (.bool x17)))], []⟩ : ASt)) (fun x17 => x17 = o17) ?_ ?_
  · intro x17 hI17
    subst hI17
    change AOps _ _ _ (⟨130, [], [(0, .one (.val (.bool false))), (14, .one (.val (.int .i64 x7.2))), (15, .one (.val (.int .i64 x8.1))), (16, .one (CV.ls byC x8.2.1)), (18, .one (.val (.int .i64 x8.2.2.2))), (100, .one (.val (.bool x17)))], []⟩ : ASt) _
    refine aops_step1 rfl (st_move rfl rfl) ?_
    refine aops_mid 3 (⟨130, [], [(0, .one (.val (.bool false))), (15, .one (.val (.int .i64 x8.1))), (16, .one (CV.ls byC x8.2.1)), (18, .one (.val (.int .i64 x8.2.2.2))), (104, .one (.val (.bool (x17 && (x7.2 == 0)))))], []⟩ : ASt) ?_ ?_
    · rcases Md.bool_or (x17) with q18 | q18
      · skip
        refine aops_yes rfl rfl rfl rfl q18 (st_move rfl rfl) ?_
        refine aops_yes rfl rfl rfl rfl q18 (ev_cmp rfl rfl rfl rfl) ?_
        refine aops_step1 rfl (st_pick_yes rfl (by first | rfl | exact q18) rfl rfl) ?_
        refine aops_nil ?_
        show Weak _ _
        (refine weak_mk rfl rfl ?_ ?_ rfl <;> repeat' (first | exact trivial | refine ⟨?_, ?_⟩ | exact VLe.refl _ | exact BLe.refl _ | refine VLe.one (CLe.val ?_) | exact VLe.one (CLe.nil _) | exact VLe.one (CLe.emp _))) <;> (first | (rw [q18]; done) | (rw [q18]; rfl) | (simp [q18]; done))
      refine aops_no rfl rfl rfl rfl rfl (by first | decide | (rw [q18]; decide)) ?_
      refine aops_no rfl rfl rfl rfl rfl (by first | decide | (rw [q18]; decide)) ?_
      refine aops_step1 rfl (st_pick_no rfl (by first | rfl | exact q18) rfl rfl) ?_
      refine aops_nil ?_
      show Weak _ _
      (refine weak_mk rfl rfl ?_ ?_ rfl <;> repeat' (first | exact trivial | refine ⟨?_, ?_⟩ | exact VLe.refl _ | exact BLe.refl _ | refine VLe.one (CLe.val ?_) | exact VLe.one (CLe.nil _) | exact VLe.one (CLe.emp _))) <;> (first | (rw [q18]; done) | (rw [q18]; rfl) | (simp [q18]; done))
    change AOps _ _ _ (⟨130, [], [(0, .one (.val (.bool false))), (15, .one (.val (.int .i64 x8.1))), (16, .one (CV.ls byC x8.2.1)), (18, .one (.val (.int .i64 x8.2.2.2))), (104, .one (.val (.bool (x17 && (x7.2 == 0)))))], []⟩ : ASt) _
    refine aops_step1 rfl (st_move rfl rfl) ?_
    refine aops_mid 3 (⟨130, [], [(0, .one (.val (.bool false))), (15, .one (.val (.int .i64 x8.1))), (16, .one (CV.ls byC x8.2.1)), (108, .one (.val (.bool ((x17 && (x7.2 == 0)) && (x8.2.2.2 == 0)))))], []⟩ : ASt) ?_ ?_
    · rcases Md.bool_or ((x17 && (x7.2 == 0))) with q19 | q19
      · skip
        refine aops_yes rfl rfl rfl rfl q19 (st_move rfl rfl) ?_
        refine aops_yes rfl rfl rfl rfl q19 (ev_cmp rfl rfl rfl rfl) ?_
        refine aops_step1 rfl (st_pick_yes rfl (by first | rfl | exact q19) rfl rfl) ?_
        refine aops_nil ?_
        show Weak _ _
        (refine weak_mk rfl rfl ?_ ?_ rfl <;> repeat' (first | exact trivial | refine ⟨?_, ?_⟩ | exact VLe.refl _ | exact BLe.refl _ | refine VLe.one (CLe.val ?_) | exact VLe.one (CLe.nil _) | exact VLe.one (CLe.emp _))) <;> (first | (rw [q19]; done) | (rw [q19]; rfl) | (simp [q19]; done))
      refine aops_no rfl rfl rfl rfl rfl (by first | decide | (rw [q19]; decide)) ?_
      refine aops_no rfl rfl rfl rfl rfl (by first | decide | (rw [q19]; decide)) ?_
      refine aops_step1 rfl (st_pick_no rfl (by first | rfl | exact q19) rfl rfl) ?_
      refine aops_nil ?_
      show Weak _ _
      (refine weak_mk rfl rfl ?_ ?_ rfl <;> repeat' (first | exact trivial | refine ⟨?_, ?_⟩ | exact VLe.refl _ | exact BLe.refl _ | refine VLe.one (CLe.val ?_) | exact VLe.one (CLe.nil _) | exact VLe.one (CLe.emp _))) <;> (first | (rw [q19]; done) | (rw [q19]; rfl) | (simp [q19]; done))
    change AOps _ _ _ (⟨130, [], [(0, .one (.val (.bool false))), (15, .one (.val (.int .i64 x8.1))), (16, .one (CV.ls byC x8.2.1)), (108, .one (.val (.bool ((x17 && (x7.2 == 0)) && (x8.2.2.2 == 0)))))], []⟩ : ASt) _
    refine aops_step1 rfl (st_move rfl rfl) ?_
    refine aops_mid 3 (⟨130, [], [(0, .one (.val (.bool false))), (16, .one (CV.ls byC x8.2.1)), (112, .one (.val (.bool (((x17 && (x7.2 == 0)) && (x8.2.2.2 == 0)) && (x8.1 == 7)))))], []⟩ : ASt) ?_ ?_
    · rcases Md.bool_or (((x17 && (x7.2 == 0)) && (x8.2.2.2 == 0))) with q20 | q20
      · skip
        refine aops_yes rfl rfl rfl rfl q20 (st_move rfl rfl) ?_
        refine aops_yes rfl rfl rfl rfl q20 (ev_cmp rfl rfl rfl rfl) ?_
        refine aops_step1 rfl (st_pick_yes rfl (by first | rfl | exact q20) rfl rfl) ?_
        refine aops_nil ?_
        show Weak _ _
        (refine weak_mk rfl rfl ?_ ?_ rfl <;> repeat' (first | exact trivial | refine ⟨?_, ?_⟩ | exact VLe.refl _ | exact BLe.refl _ | refine VLe.one (CLe.val ?_) | exact VLe.one (CLe.nil _) | exact VLe.one (CLe.emp _))) <;> (first | (rw [q20]; done) | (rw [q20]; rfl) | (simp [q20]; done))
      refine aops_no rfl rfl rfl rfl rfl (by first | decide | (rw [q20]; decide)) ?_
      refine aops_no rfl rfl rfl rfl rfl (by first | decide | (rw [q20]; decide)) ?_
      refine aops_step1 rfl (st_pick_no rfl (by first | rfl | exact q20) rfl rfl) ?_
      refine aops_nil ?_
      show Weak _ _
      (refine weak_mk rfl rfl ?_ ?_ rfl <;> repeat' (first | exact trivial | refine ⟨?_, ?_⟩ | exact VLe.refl _ | exact BLe.refl _ | refine VLe.one (CLe.val ?_) | exact VLe.one (CLe.nil _) | exact VLe.one (CLe.emp _))) <;> (first | (rw [q20]; done) | (rw [q20]; rfl) | (simp [q20]; done))
    change AOps _ _ _ (⟨130, [], [(0, .one (.val (.bool false))), (16, .one (CV.ls byC x8.2.1)), (112, .one (.val (.bool (((x17 && (x7.2 == 0)) && (x8.2.2.2 == 0)) && (x8.1 == 7)))))], []⟩ : ASt) _
    refine aops_step1 rfl (st_move rfl rfl) ?_
    refine aops_mid 4 (⟨130, [], [(0, .one (.val (.bool false))), (117, .one (.val (.bool ((((x17 && (x7.2 == 0)) && (x8.2.2.2 == 0)) && (x8.1 == 7)) && (decide (x8.2.1 = [98, 111, 100, 121]))))))], []⟩ : ASt) ?_ ?_
    · rcases Md.bool_or ((((x17 && (x7.2 == 0)) && (x8.2.2.2 == 0)) && (x8.1 == 7))) with q21 | q21
      · skip
        refine aops_yes rfl rfl rfl rfl q21 (st_move rfl rfl) ?_
        refine aops_yes rfl rfl rfl rfl q21 (ev_str_bytes (.inl rfl) Try.underlying22 Try.underlying5 Try.underlying9 rfl) ?_
        refine aops_yes rfl rfl rfl rfl q21 (st_str_eq rfl rfl rfl) ?_
        refine aops_step1 rfl (st_pick_yes rfl (by first | rfl | exact q21) rfl rfl) ?_
        refine aops_nil ?_
        show Weak _ _
        (refine weak_mk rfl rfl ?_ ?_ rfl <;> repeat' (first | exact trivial | refine ⟨?_, ?_⟩ | exact VLe.refl _ | exact BLe.refl _ | refine VLe.one (CLe.val ?_) | exact VLe.one (CLe.nil _) | exact VLe.one (CLe.emp _))) <;> (first | (rw [q21]; done) | (rw [q21]; rfl) | (simp [q21]; done))
      refine aops_no rfl rfl rfl rfl rfl (by first | decide | (rw [q21]; decide)) ?_
      refine aops_no rfl rfl rfl rfl rfl (by first | decide | (rw [q21]; decide)) ?_
      refine aops_no rfl rfl rfl rfl rfl (by first | decide | (rw [q21]; decide)) ?_
      refine aops_step1 rfl (st_pick_no rfl (by first | rfl | exact q21) rfl rfl) ?_
      refine aops_nil ?_
      show Weak _ _
      (refine weak_mk rfl rfl ?_ ?_ rfl <;> repeat' (first | exact trivial | refine ⟨?_, ?_⟩ | exact VLe.refl _ | exact BLe.refl _ | refine VLe.one (CLe.val ?_) | exact VLe.one (CLe.nil _) | exact VLe.one (CLe.emp _))) <;> (first | (rw [q21]; done) | (rw [q21]; rfl) | (simp [q21]; done))
    change AOps _ _ _ (⟨130, [], [(0, .one (.val (.bool false))), (117, .one (.val (.bool ((((x17 && (x7.2 == 0)) && (x8.2.2.2 == 0)) && (x8.1 == 7)) && (decide (x8.2.1 = [98, 111, 100, 121]))))))], []⟩ : ASt) _
    refine aops_step1 rfl (st_move rfl rfl) ?_
    obtain ⟨o22, j22, h⟩ := Md.bind_s h
    refine aops_cut 5 (ε := Bool) (fun x22 => (⟨130, [], [(0, .one (.val (.bool false))), (123, .one (.val (.bool x22)))], []⟩ : ASt)) (fun x22 => x22 = o22) ?_ ?_
    · intro x22 hI22
      subst hI22
      change AOps _ _ _ (⟨130, [], [(0, .one (.val (.bool false))), (123, .one (.val (.bool x22)))], []⟩ : ASt) _
      refine aops_step1 rfl (st_move rfl rfl) ?_
      obtain ⟨o23, j23, h⟩ := Md.bind_s h
      refine aops_cut 5 (ε := Bool) (fun x23 => (⟨130, [], [(0, .one (.val (.bool false))), (129, .one (.val (.bool x23)))], []⟩ : ASt)) (fun x23 => x23 = o23) ?_ ?_
      · intro x23 hI23
        subst hI23
        change AOps _ _ _ (⟨130, [], [(0, .one (.val (.bool false))), (129, .one (.val (.bool x23)))], []⟩ : ASt) _
        refine aops_step1 rfl (st_assign rfl rfl) ?_
        refine aops_nil ?_
        cases Option.some.inj h
        refine aw_ret ⟨rfl, ret_v (.inl ⟨_, rfl, rfl, fun _ e => nomatch e⟩) rfl rfl rfl ?_⟩
        (repeat' (first | exact TLe.refl _ | exact VLe.refl _ | exact CLe.refl _ | exact All2.nil | refine TLe.tup ?_ | refine TLe.v ?_ | refine All2.cons ?_ ?_ | refine VLe.agg ?_ | refine VLe.one ?_ | exact CLe.nil _ | exact CLe.emp _ | refine CLe.val ?_ | refine CLe.slc ?_ ?_))
      rcases Md.bool_or (x22) with q23 | q23
      · replace j23 := Md.cond_t j23 q23
        refine aops_yes rfl rfl rfl rfl q23 (st_slice_lit (el := lsEl byC [(5 : UInt8)]) 6 rfl rfl rfl rfl rfl rfl rfl rfl (lit_el byC 1 [(5 : UInt8)] (fun _ => rfl)) rfl) ?_
        obtain ⟨x24, hx24, j23⟩ := Md.bind_s j23
        refine aops_yes rfl rfl rfl rfl q23 (st_call_r (r' := .one (.own 7)) 7 rfl (wire_AppendInt_fn k [(5 : UInt8)] (-1) x24 hx24) rfl [6] (by repeat' (first | exact All2.nil | refine All2.cons ?_ ?_ | refine ArgV.one ?_ | refine ArgV.agg ?_ | exact ArgC.mk rfl | exact ArgC.lend rfl (by simp) | exact ArgC.le (CLe.nil _) rfl | exact ArgC.le (CLe.emp _) rfl | exact ArgC.le (CLe.any _) rfl)) rfl rfl rfl (.inr ⟨rfl, fun _ _ => rfl⟩) rfl rfl) ?_
        refine aops_yes rfl rfl rfl rfl q23 (ev_str_bytes (.inr ⟨_, _, rfl, rfl⟩) Try.underlying22 Try.underlying5 Try.underlying9 rfl) ?_
        refine aops_yes rfl rfl rfl rfl q23 (st_str_eq rfl rfl rfl) ?_
        refine aops_step1 rfl (st_pick_yes rfl (by first | rfl | exact q23) rfl rfl) ?_
        refine aops_nil ?_
        show ∃ _x : Bool, _ = _ ∧ Weak _ _
        exact ⟨(decide (x24 = [5, 1])), Option.some.inj j23, (by (refine weak_mk rfl rfl ?_ ?_ rfl <;> repeat' (first | exact trivial | refine ⟨?_, ?_⟩ | exact VLe.refl _ | exact BLe.refl _ | refine VLe.one (CLe.val ?_) | exact VLe.one (CLe.nil _) | exact VLe.one (CLe.emp _))))⟩
      replace j23 := Md.cond_f j23 q23
      refine aops_no rfl rfl rfl rfl rfl (by first | decide | (rw [q23]; decide)) ?_
      refine aops_no rfl rfl rfl rfl rfl (by first | decide | (rw [q23]; decide)) ?_
      refine aops_no rfl rfl rfl rfl rfl (by first | decide | (rw [q23]; decide)) ?_
      refine aops_no rfl rfl rfl rfl rfl (by first | decide | (rw [q23]; decide)) ?_
      refine aops_step1 rfl (st_pick_no rfl (by first | rfl | exact q23) rfl rfl) ?_
      refine aops_nil ?_
      show ∃ _x : Bool, _ = _ ∧ Weak _ _
      exact ⟨false, Option.some.inj j23, (by (refine weak_mk rfl rfl ?_ ?_ rfl <;> repeat' (first | exact trivial | refine ⟨?_, ?_⟩ | exact VLe.refl _ | exact BLe.refl _ | refine VLe.one (CLe.val ?_) | exact VLe.one (CLe.nil _) | exact VLe.one (CLe.emp _))))⟩
    rcases Md.bool_or (((((x17 && (x7.2 == 0)) && (x8.2.2.2 == 0)) && (x8.1 == 7)) && (decide (x8.2.1 = [98, 111, 100, 121])))) with q22 | q22
    · replace j22 := Md.cond_t j22 q22
      refine aops_yes rfl rfl rfl rfl q22 (st_slice_lit (el := lsEl byC [(49 : UInt8), (50 : UInt8), (51 : UInt8), (52 : UInt8), (53 : UInt8), (54 : UInt8), (55 : UInt8), (56 : UInt8), (57 : UInt8)]) 6 rfl rfl rfl rfl rfl rfl rfl rfl (lit_el byC 1 [(49 : UInt8), (50 : UInt8), (51 : UInt8), (52 : UInt8), (53 : UInt8), (54 : UInt8), (55 : UInt8), (56 : UInt8), (57 : UInt8)] (fun _ => rfl)) rfl) ?_
      refine aops_yes rfl rfl rfl rfl q22 (st_conv_own rfl rfl (by decide) Try.underlying22 Try.underlying5 rfl) ?_
      obtain ⟨x25, hx25, j22⟩ := Md.bind_s j22
      refine aops_yes rfl rfl rfl rfl q22 (ev_call_v (wire_Checksum_fn k [(49 : UInt8), (50 : UInt8), (51 : UInt8), (52 : UInt8), (53 : UInt8), (54 : UInt8), (55 : UInt8), (56 : UInt8), (57 : UInt8)] x25 hx25) rfl [] (by repeat' (first | exact All2.nil | refine All2.cons ?_ ?_ | refine ArgV.one ?_ | refine ArgV.agg ?_ | exact ArgC.mk rfl | exact ArgC.lend rfl (by simp) | exact ArgC.le (CLe.nil _) rfl | exact ArgC.le (CLe.emp _) rfl | exact ArgC.le (CLe.any _) rfl)) rfl rfl rfl (.inl rfl) rfl) ?_
      refine aops_yes rfl rfl rfl rfl q22 (ev_cmp rfl rfl rfl rfl) ?_
      refine aops_step1 rfl (st_pick_yes rfl (by first | rfl | exact q22) rfl rfl) ?_
      refine aops_nil ?_
      show ∃ _x : Bool, _ = _ ∧ Weak _ _
      exact ⟨((x25.toNat : Int) == 3421780262), Option.some.inj j22, (by (refine weak_mk rfl rfl ?_ ?_ rfl <;> repeat' (first | exact trivial | refine ⟨?_, ?_⟩ | exact VLe.refl _ | exact BLe.refl _ | refine VLe.one (CLe.val ?_) | exact VLe.one (CLe.nil _) | exact VLe.one (CLe.emp _))))⟩
    replace j22 := Md.cond_f j22 q22
    refine aops_no rfl rfl rfl rfl rfl (by first | decide | (rw [q22]; decide)) ?_
    refine aops_no rfl rfl rfl rfl rfl (by first | decide | (rw [q22]; decide)) ?_
    refine aops_no rfl rfl rfl rfl rfl (by first | decide | (rw [q22]; decide)) ?_
    refine aops_no rfl rfl rfl rfl rfl (by first | decide | (rw [q22]; decide)) ?_
    refine aops_step1 rfl (st_pick_no rfl (by first | rfl | exact q22) rfl rfl) ?_
    refine aops_nil ?_
    show ∃ _x : Bool, _ = _ ∧ Weak _ _
    exact ⟨false, Option.some.inj j22, (by (refine weak_mk rfl rfl ?_ ?_ rfl <;> repeat' (first | exact trivial | refine ⟨?_, ?_⟩ | exact VLe.refl _ | exact BLe.refl _ | refine VLe.one (CLe.val ?_) | exact VLe.one (CLe.nil _) | exact VLe.one (CLe.emp _))))⟩
  rcases Md.bool_or (((((((((((x1.1.toNat : Int) == 300) && (x1.2.1 == 2)) && (x1.2.2 == 0)) && (x2.2.2 == 3)) && (decide (x4.1 = [97, 98]))) && (x4.2.1 == 3)) && (x4.2.2 == 0)) && (x6.2.2 == 0)) && (((x6.1.L.length : Nat) : Int) == 1))) with q17 | q17
  · replace j17 := Md.cond_t j17 q17
    refine aops_yes rfl rfl rfl rfl q17 (ev_field rfl rfl rfl) ?_
    refine aops_yes rfl rfl rfl rfl q17 (ev_load rfl rfl rfl rfl) ?_
    obtain ⟨g26, j17⟩ := Md.ifp_s j17
    refine aops_yes rfl rfl rfl rfl q17 (ev_index_in rfl rfl rfl g26 rfl rfl) ?_
    refine aops_yes rfl rfl rfl rfl q17 (ev_load_in rfl rfl rfl) ?_
    refine aops_yes rfl rfl rfl rfl q17 (st_str_eq rfl rfl rfl) ?_
    refine aops_step1 rfl (st_pick_yes rfl (by first | rfl | exact q17) rfl rfl) ?_
    refine aops_nil ?_
    show ∃ _x : Bool, _ = _ ∧ Weak _ _
    exact ⟨(decide ((x6.1.L.getD 0 default) = [113])), Option.some.inj j17, (by (refine weak_mk rfl rfl ?_ ?_ rfl <;> repeat' (first | exact trivial | refine ⟨?_, ?_⟩ | exact VLe.refl _ | exact BLe.refl _ | refine VLe.one (CLe.val ?_) | exact VLe.one (CLe.nil _) | exact VLe.one (CLe.emp _))))⟩
  replace j17 := Md.cond_f j17 q17
  refine aops_no rfl rfl rfl rfl rfl (by first | decide | (rw [q17]; decide)) ?_
  refine aops_no rfl rfl rfl rfl rfl (by first | decide | (rw [q17]; decide)) ?_
  refine aops_no rfl rfl rfl rfl rfl (by first | decide | (rw [q17]; decide)) ?_
  refine aops_no rfl rfl rfl rfl rfl (by first | decide | (rw [q17]; decide)) ?_
  refine aops_no rfl rfl rfl rfl rfl (by first | decide | (rw [q17]; decide)) ?_
  refine aops_step1 rfl (st_pick_no rfl (by first | rfl | exact q17) rfl rfl) ?_
  refine aops_nil ?_
  show ∃ _x : Bool, _ = _ ∧ Weak _ _
  exact ⟨false, Option.some.inj j17, (by (refine weak_mk rfl rfl ?_ ?_ rfl <;> repeat' (first | exact trivial | refine ⟨?_, ?_⟩ | exact VLe.refl _ | exact BLe.refl _ | refine VLe.one (CLe.val ?_) | exact VLe.one (CLe.nil _) | exact VLe.one (CLe.emp _))))⟩
set_option maxHeartbeats 2000000 in
theorem actorgridlaw1_same_fn (k : Nat) (a0 : List UInt8) (a1 : List UInt8) (r : Bool) (h : actorgridlaw1_same k a0 a1 = some r) : FnC Try.prog 22 [.one (CV.ls byC a0), .one (CV.ls byC a1)] [] (Det (.one (.val (.bool r))) []) := by
  unfold actorgridlaw1_same at h
  refine fn_intro' 10 Try.func22 rfl rfl rfl ?_
  refine aw_seq ?_
  refine aw_region ?_
  refine aops_step1 rfl (st_assign rfl rfl) ?_
  refine aops_nil ?_
  refine aw_seq ?_
  refine aw_region ?_
  refine aops_step1 rfl (st_move rfl rfl) ?_
  refine aops_step1 rfl (ev_str_bytes (.inl rfl) Try.underlying22 Try.underlying5 Try.underlying9 rfl) ?_
  refine aops_step1 rfl (st_move rfl rfl) ?_
  refine aops_step1 rfl (ev_str_bytes (.inl rfl) Try.underlying22 Try.underlying5 Try.underlying9 rfl) ?_
  refine aops_step1 rfl (st_str_eq rfl rfl rfl) ?_
  refine aops_step1 rfl (st_assign rfl rfl) ?_
  refine aops_nil ?_
  cases Option.some.inj h
  refine aw_ret ⟨rfl, ret_v (.inl ⟨_, rfl, rfl, fun _ e => nomatch e⟩) rfl rfl rfl ?_⟩
  (repeat' (first | exact TLe.refl _ | exact VLe.refl _ | exact CLe.refl _ | exact All2.nil | refine TLe.tup ?_ | refine TLe.v ?_ | refine All2.cons ?_ ?_ | refine VLe.agg ?_ | refine VLe.one ?_ | exact CLe.nil _ | exact CLe.emp _ | refine CLe.val ?_ | refine CLe.slc ?_ ?_))
set_option maxHeartbeats 2000000 in
theorem actorgridlaw1_join_fn (k : Nat) (a0 : List UInt8) (a1 : List UInt8) (r : (List UInt8)) (h : actorgridlaw1_join k a0 a1 = some r) : FnC Try.prog 24 [.one (CV.ls byC a0), .one (CV.ls byC a1)] [] (Det (.one (.own 0)) [(0, some (.row 5 1 r.length (lsEl byC r)))]) := by
  unfold actorgridlaw1_join at h
  refine fn_intro' 10 Try.func24 rfl rfl rfl ?_
  refine aw_seq ?_
  refine aw_region ?_
  refine aops_step1 rfl (st_assign rfl rfl) ?_
  refine aops_nil ?_
  refine aw_seq ?_
  refine aw_region ?_
  refine aops_step1 rfl (st_slice_lit (el := lsEl byC ([] : List UInt8)) 0 rfl rfl rfl rfl rfl rfl rfl rfl (lit_el byC 1 ([] : List UInt8) (fun _ => rfl)) rfl) ?_
  refine aops_step1 rfl (st_move rfl rfl) ?_
  obtain ⟨g1, h⟩ := Md.ifp_s h
  refine aops_step1 rfl (st_app_ls (f := byC) ([] : List UInt8) a0 (fun _ => rfl) rfl rfl (.inl rfl) (by omega) (by omega) rfl) ?_
  refine aops_step1 rfl (st_move rfl rfl) ?_
  obtain ⟨g2, h⟩ := Md.ifp_s h
  refine aops_step1 rfl (st_app_ls (f := byC) (([] : List UInt8) ++ a0) a1 (fun _ => rfl) rfl rfl (.inl rfl) (by omega) (by omega) rfl) ?_
  refine aops_step1 rfl (st_assign rfl rfl) ?_
  refine aops_nil ?_
  cases Option.some.inj h
  refine aw_ret ⟨rfl, ret_r 0 (.inl ⟨_, rfl, rfl, fun _ e => nomatch e⟩) rfl rfl rfl ?_ ?_ ?_⟩
  · first | exact TLe.refl _ | (repeat' (first | exact TLe.refl _ | exact VLe.refl _ | exact CLe.refl _ | exact All2.nil | refine TLe.tup ?_ | refine TLe.v ?_ | refine All2.cons ?_ ?_ | refine VLe.agg ?_ | refine VLe.one ?_ | exact CLe.nil _ | exact CLe.emp _ | refine CLe.val ?_ | refine CLe.slc ?_ ?_))
  · rfl
  · rfl
set_option maxHeartbeats 2000000 in
theorem actorgridlaw1_Small_fn (k : Nat) (a0 : Value) (r : Bool) (h : actorgridlaw1_Small k a0 = some r) : FnC Try.prog 36 [.agg [.val (.int .i64 a0.Kind), .val (.int .i64 a0.N), .val (Sv a0.S), CV.ls c_Int a0.I, CV.ls c_Str a0.L]] [] (Det (.one (.val (.bool r))) []) := by
  unfold actorgridlaw1_Small at h
  refine fn_intro' 34 Try.func36 rfl rfl rfl ?_
  refine aw_seq ?_
  refine aw_region ?_
  refine aops_step1 rfl (st_box 0 rfl rfl rfl rfl) ?_
  refine aops_step1 rfl (st_assign rfl rfl) ?_
  refine aops_nil ?_
  refine aw_seq ?_
  refine aw_seq ?_
  refine aw_region ?_
  refine aops_step1 rfl (ev_field rfl rfl rfl) ?_
  refine aops_step1 rfl (ev_load rfl rfl rfl rfl) ?_
  refine aops_step1 rfl (st_len_str rfl rfl) ?_
  refine aops_step1 rfl (ev_cmp rfl rfl rfl rfl) ?_
  refine aops_step1 rfl (st_move rfl rfl) ?_
  refine aops_mid 5 (⟨34, [], [(1, .one (.ptr 0 0)), (13, .one (.val (.bool ((decide (((a0.S.length : Nat) : Int) > 500)) || (decide (((a0.I.length : Nat) : Int) > 100))))))], [(0, some (.box [.val (.int .i64 a0.Kind), .val (.int .i64 a0.N), .val (Sv a0.S), CV.ls c_Int a0.I, CV.ls c_Str a0.L]))]⟩ : ASt) ?_ ?_
  · rcases Md.bool_or ((decide (((a0.S.length : Nat) : Int) > 500))) with q1 | q1
    · skip
      refine aops_no rfl rfl rfl rfl rfl (by first | decide | (rw [q1]; decide)) ?_
      refine aops_no rfl rfl rfl rfl rfl (by first | decide | (rw [q1]; decide)) ?_
      refine aops_no rfl rfl rfl rfl rfl (by first | decide | (rw [q1]; decide)) ?_
      refine aops_no rfl rfl rfl rfl rfl (by first | decide | (rw [q1]; decide)) ?_
      refine aops_step1 rfl (st_pick_yes rfl (by first | rfl | exact q1) rfl rfl) ?_
      refine aops_nil ?_
      show Weak _ _
      (refine weak_mk rfl rfl ?_ ?_ rfl <;> repeat' (first | exact trivial | refine ⟨?_, ?_⟩ | exact VLe.refl _ | exact BLe.refl _ | refine VLe.one (CLe.val ?_) | exact VLe.one (CLe.nil _) | exact VLe.one (CLe.emp _))) <;> (first | (rw [q1]; done) | (rw [q1]; rfl) | (simp [q1]; done))
    refine aops_yes rfl rfl rfl rfl q1 (ev_field rfl rfl rfl) ?_
    refine aops_yes rfl rfl rfl rfl q1 (ev_load rfl rfl rfl rfl) ?_
    refine aops_yes rfl rfl rfl rfl q1 (ev_len_slc rfl rfl) ?_
    refine aops_yes rfl rfl rfl rfl q1 (ev_cmp rfl rfl rfl rfl) ?_
    refine aops_step1 rfl (st_pick_no rfl (by first | rfl | exact q1) rfl rfl) ?_
    refine aops_nil ?_
    show Weak _ _
    (refine weak_mk rfl rfl ?_ ?_ rfl <;> repeat' (first | exact trivial | refine ⟨?_, ?_⟩ | exact VLe.refl _ | exact BLe.refl _ | refine VLe.one (CLe.val ?_) | exact VLe.one (CLe.nil _) | exact VLe.one (CLe.emp _))) <;> (first | (rw [q1]; done) | (rw [q1]; rfl) | (simp [q1]; done))
  change AOps _ _ _ (⟨34, [], [(1, .one (.ptr 0 0)), (13, .one (.val (.bool ((decide (((a0.S.length : Nat) : Int) > 500)) || (decide (((a0.I.length : Nat) : Int) > 100))))))], [(0, some (.box [.val (.int .i64 a0.Kind), .val (.int .i64 a0.N), .val (Sv a0.S), CV.ls c_Int a0.I, CV.ls c_Str a0.L]))]⟩ : ASt) _
  refine aops_step1 rfl (st_move rfl rfl) ?_
  refine aops_mid 5 (⟨34, [], [(1, .one (.ptr 0 0)), (19, .one (.val (.bool (((decide (((a0.S.length : Nat) : Int) > 500)) || (decide (((a0.I.length : Nat) : Int) > 100))) || (decide (((a0.L.length : Nat) : Int) > 100))))))], [(0, some (.box [.val (.int .i64 a0.Kind), .val (.int .i64 a0.N), .val (Sv a0.S), CV.ls c_Int a0.I, CV.ls c_Str a0.L]))]⟩ : ASt) ?_ ?_
  · rcases Md.bool_or (((decide (((a0.S.length : Nat) : Int) > 500)) || (decide (((a0.I.length : Nat) : Int) > 100)))) with q2 | q2
    · skip
      refine aops_no rfl rfl rfl rfl rfl (by first | decide | (rw [q2]; decide)) ?_
      refine aops_no rfl rfl rfl rfl rfl (by first | decide | (rw [q2]; decide)) ?_
      refine aops_no rfl rfl rfl rfl rfl (by first | decide | (rw [q2]; decide)) ?_
      refine aops_no rfl rfl rfl rfl rfl (by first | decide | (rw [q2]; decide)) ?_
      refine aops_step1 rfl (st_pick_yes rfl (by first | rfl | exact q2) rfl rfl) ?_
      refine aops_nil ?_
      show Weak _ _
      (refine weak_mk rfl rfl ?_ ?_ rfl <;> repeat' (first | exact trivial | refine ⟨?_, ?_⟩ | exact VLe.refl _ | exact BLe.refl _ | refine VLe.one (CLe.val ?_) | exact VLe.one (CLe.nil _) | exact VLe.one (CLe.emp _))) <;> (first | (rw [q2]; done) | (rw [q2]; rfl) | (simp [q2]; done))
    refine aops_yes rfl rfl rfl rfl q2 (ev_field rfl rfl rfl) ?_
    refine aops_yes rfl rfl rfl rfl q2 (ev_load rfl rfl rfl rfl) ?_
    refine aops_yes rfl rfl rfl rfl q2 (ev_len_slc rfl rfl) ?_
    refine aops_yes rfl rfl rfl rfl q2 (ev_cmp rfl rfl rfl rfl) ?_
    refine aops_step1 rfl (st_pick_no rfl (by first | rfl | exact q2) rfl rfl) ?_
    refine aops_nil ?_
    show Weak _ _
    (refine weak_mk rfl rfl ?_ ?_ rfl <;> repeat' (first | exact trivial | refine ⟨?_, ?_⟩ | exact VLe.refl _ | exact BLe.refl _ | refine VLe.one (CLe.val ?_) | exact VLe.one (CLe.nil _) | exact VLe.one (CLe.emp _))) <;> (first | (rw [q2]; done) | (rw [q2]; rfl) | (simp [q2]; done))
  change AOps _ _ _ (⟨34, [], [(1, .one (.ptr 0 0)), (19, .one (.val (.bool (((decide (((a0.S.length : Nat) : Int) > 500)) || (decide (((a0.I.length : Nat) : Int) > 100))) || (decide (((a0.L.length : Nat) : Int) > 100))))))], [(0, some (.box [.val (.int .i64 a0.Kind), .val (.int .i64 a0.N), .val (Sv a0.S), CV.ls c_Int a0.I, CV.ls c_Str a0.L]))]⟩ : ASt) _
  refine aops_nil ?_
  refine aw_cond rfl (fun c3 => ?_) (fun c3 => ?_)
  · replace h := Md.cond_t h c3
    refine aw_seq ?_
    refine aw_region ?_
    refine aops_step1 rfl (st_assign rfl rfl) ?_
    refine aops_nil ?_
    cases Option.some.inj h
    refine aw_ret ⟨rfl, ret_v (.inl ⟨_, rfl, rfl, fun _ e => nomatch e⟩) rfl rfl rfl ?_⟩
    (repeat' (first | exact TLe.refl _ | exact VLe.refl _ | exact CLe.refl _ | exact All2.nil | refine TLe.tup ?_ | refine TLe.v ?_ | refine All2.cons ?_ ?_ | refine VLe.agg ?_ | refine VLe.one ?_ | exact CLe.nil _ | exact CLe.emp _ | refine CLe.val ?_ | refine CLe.slc ?_ ?_))
  replace h := Md.cond_f h c3
  refine aw_skip ?_
  refine aw_seq ?_
  refine aw_seq ?_
  refine aw_region ?_
  refine aops_step1 rfl (st_assign rfl rfl) ?_
  refine aops_nil ?_
  refine aw_block ?_
  obtain ⟨o4, ho4, h⟩ := Md.bind_s h
  refine aw_loop_x (ι := {p : Nat × Nat // actorgridlaw1_Small_loop1 k a0 p.1 p.2 = some o4}) (fun p => (⟨34, [], [(1, .one (.ptr 0 0)), (3, .one (.val (.int .i64 ((p.1.2 : Nat) : Int))))], [(0, some (.box [.val (.int .i64 a0.Kind), .val (.int .i64 a0.N), .val (Sv a0.S), CV.ls c_Int a0.I, CV.ls c_Str a0.L]))]⟩ : ASt)) (fun p => p.1.1) ⟨(k, 0), ho4⟩ (by (refine weak_mk rfl rfl ?_ ?_ rfl <;> repeat' (first | exact trivial | refine ⟨?_, ?_⟩ | exact VLe.refl _ | exact BLe.refl _ | refine VLe.one (CLe.val ?_) | exact VLe.one (CLe.nil _) | exact VLe.one (CLe.emp _)))) 0 (ε := Unit) (fun x => (⟨34, [], [], []⟩ : ASt)) (fun x => Sum.inl x = o4) (fun _ _ w h => aw_weak w h) ?_ ?_
  · intro x4_0 hI4
    subst hI4
    replace h := Md.onS_l h
    change AW _ _ (⟨34, [], [], []⟩ : ASt) _
    refine aw_seq ?_
    refine aw_region ?_
    refine aops_step1 rfl (st_assign rfl rfl) ?_
    refine aops_nil ?_
    cases Option.some.inj h
    refine aw_ret ⟨rfl, ret_v (.inl ⟨_, rfl, rfl, fun _ e => nomatch e⟩) rfl rfl rfl ?_⟩
    (repeat' (first | exact TLe.refl _ | exact VLe.refl _ | exact CLe.refl _ | exact All2.nil | refine TLe.tup ?_ | refine TLe.v ?_ | refine All2.cons ?_ ?_ | refine VLe.agg ?_ | refine VLe.one ?_ | exact CLe.nil _ | exact CLe.emp _ | refine CLe.val ?_ | refine CLe.slc ?_ ?_))
  intro p4
  obtain ⟨⟨n4, s4_0⟩, l4⟩ := p4
  change AW _ _ (⟨34, [], [(1, .one (.ptr 0 0)), (3, .one (.val (.int .i64 ((s4_0 : Nat) : Int))))], [(0, some (.box [.val (.int .i64 a0.Kind), .val (.int .i64 a0.N), .val (Sv a0.S), CV.ls c_Int a0.I, CV.ls c_Str a0.L]))]⟩ : ASt) _
  replace l4 : actorgridlaw1_Small_loop1 k a0 n4 s4_0 = some o4 := l4
  rcases n4 with _ | n4
  · exact absurd (show none = some o4 from l4) nofun
  rw [actorgridlaw1_Small_loop1] at l4
  refine aw_seq ?_
  refine aw_seq ?_
  refine aw_region ?_
  refine aops_step1 rfl (st_move rfl rfl) ?_
  refine aops_step1 rfl (ev_field rfl rfl rfl) ?_
  refine aops_step1 rfl (ev_load rfl rfl rfl rfl) ?_
  refine aops_step1 rfl (ev_len_slc rfl rfl) ?_
  refine aops_step1 rfl (ev_cmp rfl rfl rfl rfl) ?_
  refine aops_nil ?_
  refine aw_cond rfl (fun c5 => ?_) (fun c5 => ?_)
  · replace l4 := Md.cond_t l4 c5
    refine aw_skip ?_
    refine aw_seq ?_
    refine aw_block ?_
    refine aw_seq ?_
    refine aw_region ?_
    refine aops_step1 rfl (ev_field rfl rfl rfl) ?_
    refine aops_step1 rfl (ev_load rfl rfl rfl rfl) ?_
    refine aops_step1 rfl (st_move rfl rfl) ?_
    obtain ⟨g6, l4⟩ := Md.ifp_s l4
    refine aops_step1 rfl (ev_index_in rfl rfl rfl g6 rfl rfl) ?_
    refine aops_step1 rfl (ev_load_in rfl rfl rfl) ?_
    refine aops_step1 rfl (st_len_str rfl rfl) ?_
    refine aops_step1 rfl (ev_cmp rfl rfl rfl rfl) ?_
    refine aops_nil ?_
    refine aw_cond rfl (fun c7 => ?_) (fun c7 => ?_)
    · replace l4 := Md.cond_t l4 c7
      refine aw_seq ?_
      refine aw_region ?_
      refine aops_step1 rfl (st_assign rfl rfl) ?_
      refine aops_nil ?_
      cases Option.some.inj l4
      replace h := Md.onS_r h
      cases Option.some.inj h
      refine aw_ret ⟨rfl, ret_v (.inl ⟨_, rfl, rfl, fun _ e => nomatch e⟩) rfl rfl rfl ?_⟩
      (repeat' (first | exact TLe.refl _ | exact VLe.refl _ | exact CLe.refl _ | exact All2.nil | refine TLe.tup ?_ | refine TLe.v ?_ | refine All2.cons ?_ ?_ | refine VLe.agg ?_ | refine VLe.one ?_ | exact CLe.nil _ | exact CLe.emp _ | refine CLe.val ?_ | refine CLe.slc ?_ ?_))
    replace l4 := Md.cond_f l4 c7
    refine aw_skip ?_
    refine aw_region ?_
    refine aops_step1 rfl (st_move rfl rfl) ?_
    obtain ⟨g8, l4⟩ := Md.ifp_s l4
    refine aops_step1 rfl (ev_add rfl rfl rfl (Md.nat_add g8)) ?_
    refine aops_step1 rfl (st_assign rfl rfl) ?_
    refine aops_nil ?_
    exact ⟨⟨(n4, (s4_0 + 1)), l4⟩, Nat.lt_succ_self _, (by (refine weak_mk rfl rfl ?_ ?_ rfl <;> repeat' (first | exact trivial | refine ⟨?_, ?_⟩ | exact VLe.refl _ | exact BLe.refl _ | refine VLe.one (CLe.val ?_) | exact VLe.one (CLe.nil _) | exact VLe.one (CLe.emp _))))⟩
  replace l4 := Md.cond_f l4 c5
  refine aw_exit ?_
  show ∃ _x : Unit, _ = _ ∧ Weak _ _
  exact ⟨(), Option.some.inj l4, (by (refine weak_mk rfl rfl ?_ ?_ rfl <;> repeat' (first | exact trivial | refine ⟨?_, ?_⟩ | exact VLe.refl _ | exact BLe.refl _ | refine VLe.one (CLe.val ?_) | exact VLe.one (CLe.nil _) | exact VLe.one (CLe.emp _))))⟩
end Md
end Go.Proofs.Ytbnjdkpangmneaa
