/-
  JourM: where a function's model gives a value, the function returns what reads as it (printed by wip/tools/auto.py). Condition of each: the model gives a value.
-/
import Derived.Test.YtkcfkcgclljncaaJourMM
import Derived.Test.YtkcfkcgclljncaaTy
import Derived.Test.YtkcfkcgclljncaaAbsRa
import Derived.Test.YtkcfkcgclljncaaJourK
namespace Go.Proofs.Ytkcfkcgclljncaa
open Go.ChangeShapes Go.WideShapes Go.RowKit
open Abs
set_option linter.unusedVariables false
set_option linter.unusedSimpArgs false
set_option maxRecDepth 10000
namespace Md
set_option maxHeartbeats 2000000 in
theorem actorgridlaw27_JournalSurvives_fn (k : Nat) (a0 : List (List UInt8)) (a1 : UInt8) (a2 : UInt8) (r : Bool) (h : actorgridlaw27_JournalSurvives k a0 a1 a2 = some r) : FnC Try.prog 9 [.one (CV.ls c_LU8 a0), .one (.val (.int .u8 (a1.toNat : Int))), .one (.val (.int .u8 (a2.toNat : Int)))] [] (Det (vB r) []) := by
  unfold actorgridlaw27_JournalSurvives at h
  refine fn_intro' 142 Try.func9 rfl rfl rfl ?_
  refine aw_seq ?_
  refine aw_region ?_
  refine aops_step1 rfl (st_assign rfl rfl) ?_
  refine aops_nil ?_
  refine aw_seq ?_
  refine aw_seq ?_
  refine aw_region ?_
  obtain ⟨x1, hx1, h⟩ := Md.bind_s h
  refine aops_step1 rfl (ev_call_v (actorgridlaw27_awake_fn k x1 hx1) rfl [] (by repeat' (first | exact .nil | refine .cons ?_ ?_ | refine .one ?_ | refine .agg ?_ | exact .mk rfl | exact .lend rfl (by simp) | exact .le (.nil _) rfl | exact .le (.emp _) rfl | exact .le (.any _) rfl | fail)) rfl rfl rfl (.inl rfl) rfl) ?_
  refine aops_step1 rfl (ev_not rfl rfl) ?_
  refine aops_nil ?_
  refine aw_cond rfl (fun c2 => ?_) (fun c2 => ?_)
  · replace h := Md.cond_t h c2
    refine aw_seq ?_
    refine aw_region ?_
    refine aops_step1 rfl (st_assign rfl rfl) ?_
    refine aops_nil ?_
    cases Option.some.inj h
    refine aw_ret ⟨rfl, ret_v (.inl ⟨_, rfl, rfl, fun _ e => nomatch e⟩) rfl rfl rfl ?_⟩
    (repeat' (first | exact .refl _ | exact .nil | refine .tup ?_ | refine .v ?_ | refine .cons ?_ ?_ | refine .agg ?_ | refine .one ?_ | exact .nil _ | exact .emp _ | refine .val ?_ | refine .slc ?_ ?_ | fail))
  replace h := Md.cond_f h c2
  refine aw_skip ?_
  refine aw_seq ?_
  refine aw_seq ?_
  refine aw_region ?_
  refine aops_step1 rfl (st_move rfl rfl) ?_
  refine aops_step1 rfl (ev_len_slc rfl rfl) ?_
  refine aops_step1 rfl (ev_cmp rfl rfl rfl rfl) ?_
  refine aops_nil ?_
  refine aw_cond rfl (fun c3 => ?_) (fun c3 => ?_)
  · replace h := Md.cond_t h c3
    refine aw_seq ?_
    refine aw_region ?_
    refine aops_step1 rfl (st_assign rfl rfl) ?_
    refine aops_nil ?_
    cases Option.some.inj h
    refine aw_ret ⟨rfl, ret_v (.inl ⟨_, rfl, rfl, fun _ e => nomatch e⟩) rfl rfl rfl ?_⟩
    (repeat' (first | exact .refl _ | exact .nil | refine .tup ?_ | refine .v ?_ | refine .cons ?_ ?_ | refine .agg ?_ | refine .one ?_ | exact .nil _ | exact .emp _ | refine .val ?_ | refine .slc ?_ ?_ | fail))
  replace h := Md.cond_f h c3
  refine aw_skip ?_
  refine aw_seq ?_
  refine aw_region ?_
  obtain ⟨x4, hx4, h⟩ := Md.bind_s h
  refine aops_step1 rfl (ev_call_v (disk_New_fn k 1048576 x4 hx4) rfl [] (by repeat' (first | exact .nil | refine .cons ?_ ?_ | refine .one ?_ | refine .agg ?_ | exact .mk rfl | exact .lend rfl (by simp) | exact .le (.nil _) rfl | exact .le (.emp _) rfl | exact .le (.any _) rfl | fail)) rfl rfl rfl (.inl rfl) rfl) ?_
  refine aops_step1 rfl (st_movet rfl rfl) ?_
  refine aops_step1 rfl (ev_extract rfl rfl rfl) ?_
  refine aops_step1 rfl (ev_extract rfl rfl rfl) ?_
  refine aops_step1 rfl (st_alloc (cs := [.val (.slice none 0 0), cI 0, cB false, cI 0, cI 0, cB false]) 0 rfl rfl rfl rfl rfl) ?_
  refine aops_step1 rfl (st_store (cs' := [_, _, _, _, _, _]) rfl rfl rfl rfl rfl rfl rfl rfl rfl) ?_
  refine aops_step1 rfl (st_assign rfl rfl) ?_
  refine aops_nil ?_
  refine aw_seq ?_
  refine aw_seq ?_
  refine aw_region ?_
  refine aops_step1 rfl (st_move rfl rfl) ?_
  refine aops_step1 rfl (ev_cmp rfl rfl rfl rfl) ?_
  refine aops_nil ?_
  refine aw_cond rfl (fun c5 => ?_) (fun c5 => ?_)
  · replace h := Md.cond_t h c5
    refine aw_seq ?_
    refine aw_region ?_
    refine aops_step1 rfl (st_assign rfl rfl) ?_
    refine aops_nil ?_
    cases Option.some.inj h
    refine aw_ret ⟨rfl, ret_v (.inl ⟨_, rfl, rfl, fun _ e => nomatch e⟩) rfl rfl rfl ?_⟩
    (repeat' (first | exact .refl _ | exact .nil | refine .tup ?_ | refine .v ?_ | refine .cons ?_ ?_ | refine .agg ?_ | refine .one ?_ | exact .nil _ | exact .emp _ | refine .val ?_ | refine .slc ?_ ?_ | fail))
  replace h := Md.cond_f h c5
  refine aw_skip ?_
  refine aw_seq ?_
  refine aw_region ?_
  refine aops_step1 rfl (ev_loads (ds := [_, _, _, _, _, _]) rfl rfl rfl rfl rfl) ?_
  refine aops_step1 rfl (st_move rfl rfl) ?_
  refine aops_step1 rfl (st_conv_int rfl rfl Try.underlying5 Try.underlying3 (Md.conv_u8_i64 a1)) ?_
  refine aops_step1 rfl (st_move rfl rfl) ?_
  refine aops_step1 rfl (st_conv_int rfl rfl Try.underlying5 Try.underlying3 (Md.conv_u8_i64 a2)) ?_
  obtain ⟨x6, hx6, h⟩ := Md.bind_s h
  refine aops_step1 rfl (ev_call_v (disk_Arm_fn k x4.1 ((a1.toNat : Nat) : Int) ((a2.toNat : Nat) : Int) x6 hx6) rfl [] (by repeat' (first | exact .nil | refine .cons ?_ ?_ | refine .one ?_ | refine .agg ?_ | exact .mk rfl | exact .lend rfl (by simp) | exact .le (.nil _) rfl | exact .le (.emp _) rfl | exact .le (.any _) rfl | fail)) rfl rfl rfl (.inl rfl) rfl) ?_
  refine aops_step1 rfl (st_movet rfl rfl) ?_
  refine aops_step1 rfl (ev_extract rfl rfl rfl) ?_
  refine aops_step1 rfl (ev_extract rfl rfl rfl) ?_
  refine aops_step1 rfl (st_store (cs' := [_, _, _, _, _, _]) rfl rfl rfl rfl rfl rfl rfl rfl rfl) ?_
  refine aops_step1 rfl (st_assign rfl rfl) ?_
  refine aops_nil ?_
  refine aw_seq ?_
  refine aw_seq ?_
  refine aw_region ?_
  refine aops_step1 rfl (st_move rfl rfl) ?_
  refine aops_step1 rfl (ev_cmp rfl rfl rfl rfl) ?_
  refine aops_nil ?_
  refine aw_cond rfl (fun c7 => ?_) (fun c7 => ?_)
  · replace h := Md.cond_t h c7
    refine aw_seq ?_
    refine aw_region ?_
    refine aops_step1 rfl (st_assign rfl rfl) ?_
    refine aops_nil ?_
    cases Option.some.inj h
    refine aw_ret ⟨rfl, ret_v (.inl ⟨_, rfl, rfl, fun _ e => nomatch e⟩) rfl rfl rfl ?_⟩
    (repeat' (first | exact .refl _ | exact .nil | refine .tup ?_ | refine .v ?_ | refine .cons ?_ ?_ | refine .agg ?_ | refine .one ?_ | exact .nil _ | exact .emp _ | refine .val ?_ | refine .slc ?_ ?_ | fail))
  replace h := Md.cond_f h c7
  refine aw_skip ?_
  refine aw_seq ?_
  refine aw_region ?_
  refine aops_step1 rfl (st_assign rfl rfl) ?_
  refine aops_nil ?_
  refine aw_seq ?_
  refine aw_region ?_
  refine aops_step1 rfl (st_assign rfl rfl) ?_
  refine aops_nil ?_
  refine aw_seq ?_
  refine aw_seq ?_
  refine aw_region ?_
  refine aops_step1 rfl (st_assign rfl rfl) ?_
  refine aops_nil ?_
  refine aw_block ?_
  refine aw_own_nil 9 1 46 2 (lsEl c_JournalRecord []) rfl rfl ?_
  obtain ⟨o8, ho8, h⟩ := Md.bind_s h
  refine aw_loop_x (ι := {p : Nat × Nat × Nat × Disk × (List JournalRecord) // actorgridlaw27_JournalSurvives_loop1 k a0 p.1 p.2.1 p.2.2.1 p.2.2.2.1 p.2.2.2.2 = some o8}) (fun p => (⟨142, [], [(0, .one (CV.ls c_LU8 a0)), (7, .one (.ptr 0 0)), (9, .one (.own 1)), (10, vI ((p.1.2.1 : Nat) : Int)), (11, vI ((p.1.2.2.1 : Nat) : Int))], [(0, some (.box (c_Disk p.1.2.2.2.1))), (1, some (.row 46 2 p.1.2.2.2.2.length (lsEl c_JournalRecord p.1.2.2.2.2)))]⟩ : ASt)) (fun p => p.1.1) ⟨(k, 0, 0, x6.1, ([] : List JournalRecord)), ho8⟩ (by (refine weak_mk rfl rfl ?_ ?_ rfl <;> repeat' (first | exact trivial | refine ⟨?_, ?_⟩ | exact .refl _ | refine .one (.val ?_) | exact .one (.nil _) | exact .one (.emp _) | refine .box ?_ | refine .agg ?_ | exact .nil | refine .cons ?_ ?_ | exact .nil _ | exact .emp _ | fail))) 0 (ε := (Nat × Disk × (List JournalRecord))) (fun x => (⟨142, [], [(7, .one (.ptr 0 0)), (9, .one (.own 1)), (10, vI ((x.1 : Nat) : Int))], [(0, some (.box (c_Disk x.2.1))), (1, some (.row 46 2 x.2.2.length (lsEl c_JournalRecord x.2.2)))]⟩ : ASt)) (fun x => Sum.inl x = o8) (fun _ _ w h => aw_weak w h) ?_ ?_
  · intro x8_0 hI8
    subst hI8
    replace h := Md.onS_l h
    change AW _ _ (⟨142, [], [(7, .one (.ptr 0 0)), (9, .one (.own 1)), (10, vI ((x8_0.1 : Nat) : Int))], [(0, some (.box (c_Disk x8_0.2.1))), (1, some (.row 46 2 x8_0.2.2.length (lsEl c_JournalRecord x8_0.2.2)))]⟩ : ASt) _
    refine aw_seq ?_
    refine aw_region ?_
    refine aops_step1 rfl (ev_loads (ds := [_, _, _, _, _, _]) rfl rfl rfl rfl rfl) ?_
    obtain ⟨x9, hx9, h⟩ := Md.bind_s h
    refine aops_step1 rfl (ev_call_v (disk_Restart_fn k x8_0.2.1 x9 hx9) rfl [] (by repeat' (first | exact .nil | refine .cons ?_ ?_ | refine .one ?_ | refine .agg ?_ | exact .mk rfl | exact .lend rfl (by simp) | exact .le (.nil _) rfl | exact .le (.emp _) rfl | exact .le (.any _) rfl | fail)) rfl rfl rfl (.inl rfl) rfl) ?_
    refine aops_step1 rfl (st_movet rfl rfl) ?_
    refine aops_step1 rfl (ev_extract rfl rfl rfl) ?_
    refine aops_step1 rfl (ev_extract rfl rfl rfl) ?_
    refine aops_step1 rfl (st_store (cs' := [_, _, _, _, _, _]) rfl rfl rfl rfl rfl rfl rfl rfl rfl) ?_
    refine aops_step1 rfl (st_assign rfl rfl) ?_
    refine aops_nil ?_
    refine aw_seq ?_
    refine aw_seq ?_
    refine aw_region ?_
    refine aops_step1 rfl (st_move rfl rfl) ?_
    refine aops_step1 rfl (ev_cmp rfl rfl rfl rfl) ?_
    refine aops_nil ?_
    refine aw_cond rfl (fun c10 => ?_) (fun c10 => ?_)
    · replace h := Md.cond_t h c10
      refine aw_seq ?_
      refine aw_region ?_
      refine aops_step1 rfl (st_assign rfl rfl) ?_
      refine aops_nil ?_
      cases Option.some.inj h
      refine aw_ret ⟨rfl, ret_v (.inl ⟨_, rfl, rfl, fun _ e => nomatch e⟩) rfl rfl rfl ?_⟩
      (repeat' (first | exact .refl _ | exact .nil | refine .tup ?_ | refine .v ?_ | refine .cons ?_ ?_ | refine .agg ?_ | refine .one ?_ | exact .nil _ | exact .emp _ | refine .val ?_ | refine .slc ?_ ?_ | fail))
    replace h := Md.cond_f h c10
    refine aw_skip ?_
    refine aw_seq ?_
    refine aw_region ?_
    refine aops_step1 rfl (ev_loads (ds := [_, _, _, _, _, _]) rfl rfl rfl rfl rfl) ?_
    obtain ⟨x11, hx11, h⟩ := Md.bind_s h
    refine aops_step1 rfl (st_call_r (r' := .tup [.one (.own 2), .agg (c_Disk x11.2.1), vI x11.2.2]) 2 rfl (journal_Recover_fn k x9.1 x11 hx11) rfl [] (by repeat' (first | exact .nil | refine .cons ?_ ?_ | refine .one ?_ | refine .agg ?_ | exact .mk rfl | exact .lend rfl (by simp) | exact .le (.nil _) rfl | exact .le (.emp _) rfl | exact .le (.any _) rfl | fail)) rfl rfl rfl (.inl rfl) rfl rfl) ?_
    refine aops_step1 rfl (st_movet rfl rfl) ?_
    refine aops_step1 rfl (ev_extract rfl rfl rfl) ?_
    refine aops_step1 rfl (ev_extract rfl rfl rfl) ?_
    refine aops_step1 rfl (ev_extract rfl rfl rfl) ?_
    refine aops_step1 rfl (st_alloc (cs := [.val (.slice none 0 0), cI 0, cB false, cI 0, cI 0, cB false]) 3 rfl rfl rfl rfl rfl) ?_
    refine aops_step1 rfl (st_assign rfl rfl) ?_
    refine aops_step1 rfl (st_store (cs' := [_, _, _, _, _, _]) rfl rfl rfl rfl rfl rfl rfl rfl rfl) ?_
    refine aops_step1 rfl (st_assign rfl rfl) ?_
    refine aops_nil ?_
    refine aw_seq ?_
    refine aw_region ?_
    refine aops_step1 rfl (ev_loads (ds := [_, _, _, _, _, _]) rfl rfl rfl rfl rfl) ?_
    obtain ⟨x12, hx12, h⟩ := Md.bind_s h
    refine aops_step1 rfl (st_call_r (r' := .tup [.one (.own 4), .agg (c_Disk x12.2.1), vI x12.2.2]) 4 rfl (journal_Recover_fn k x11.2.1 x12 hx12) rfl [] (by repeat' (first | exact .nil | refine .cons ?_ ?_ | refine .one ?_ | refine .agg ?_ | exact .mk rfl | exact .lend rfl (by simp) | exact .le (.nil _) rfl | exact .le (.emp _) rfl | exact .le (.any _) rfl | fail)) rfl rfl rfl (.inl rfl) rfl rfl) ?_
    refine aops_step1 rfl (st_movet rfl rfl) ?_
    refine aops_step1 rfl (ev_extract rfl rfl rfl) ?_
    refine aops_step1 rfl (ev_extract rfl rfl rfl) ?_
    refine aops_step1 rfl (ev_extract rfl rfl rfl) ?_
    refine aops_step1 rfl (st_alloc (cs := [.val (.slice none 0 0), cI 0, cB false, cI 0, cI 0, cB false]) 5 rfl rfl rfl rfl rfl) ?_
    refine aops_step1 rfl (st_assign rfl rfl) ?_
    refine aops_step1 rfl (st_store (cs' := [_, _, _, _, _, _]) rfl rfl rfl rfl rfl rfl rfl rfl rfl) ?_
    refine aops_step1 rfl (st_assign rfl rfl) ?_
    refine aops_nil ?_
    refine aw_seq ?_
    refine aw_seq ?_
    refine aw_region ?_
    refine aops_step1 rfl (st_move rfl rfl) ?_
    refine aops_step1 rfl (ev_cmp rfl rfl rfl rfl) ?_
    refine aops_step1 rfl (st_move rfl rfl) ?_
    refine aops_mid 3 (⟨142, [], [(9, .one (.own 1)), (10, vI ((x8_0.1 : Nat) : Int)), (14, .one (.own 2)), (15, .one (.ptr 3 0)), (16, .one (.own 4)), (17, .one (.ptr 5 0)), (103, vB ((x11.2.2 != 0) || (x12.2.2 != 0)))], [(1, some (.row 46 2 x8_0.2.2.length (lsEl c_JournalRecord x8_0.2.2))), (2, some (.row 46 2 x11.1.length (lsEl c_JournalRecord x11.1))), (3, some (.box (c_Disk x11.2.1))), (4, some (.row 46 2 x12.1.length (lsEl c_JournalRecord x12.1))), (5, some (.box (c_Disk x12.2.1)))]⟩ : ASt) ?_ ?_
    · rcases Md.bool_or ((x11.2.2 != 0)) with q13 | q13
      · skip
        refine aops_no rfl rfl rfl rfl rfl (by first | decide | (rw [q13]; decide)) ?_
        refine aops_no rfl rfl rfl rfl rfl (by first | decide | (rw [q13]; decide)) ?_
        refine aops_step1 rfl (st_pick_yes rfl (by first | rfl | exact q13) rfl rfl) ?_
        refine aops_nil ?_
        show Weak _ _
        (refine weak_mk rfl rfl ?_ ?_ rfl <;> repeat' (first | exact trivial | refine ⟨?_, ?_⟩ | exact .refl _ | refine .one (.val ?_) | exact .one (.nil _) | exact .one (.emp _) | refine .box ?_ | refine .agg ?_ | exact .nil | refine .cons ?_ ?_ | exact .nil _ | exact .emp _ | fail)) <;> (first | (rw [q13]; done) | (rw [q13]; rfl) | (simp [q13]; done))
      refine aops_yes rfl rfl rfl rfl q13 (st_move rfl rfl) ?_
      refine aops_yes rfl rfl rfl rfl q13 (ev_cmp rfl rfl rfl rfl) ?_
      refine aops_step1 rfl (st_pick_no rfl (by first | rfl | exact q13) rfl rfl) ?_
      refine aops_nil ?_
      show Weak _ _
      (refine weak_mk rfl rfl ?_ ?_ rfl <;> repeat' (first | exact trivial | refine ⟨?_, ?_⟩ | exact .refl _ | refine .one (.val ?_) | exact .one (.nil _) | exact .one (.emp _) | refine .box ?_ | refine .agg ?_ | exact .nil | refine .cons ?_ ?_ | exact .nil _ | exact .emp _ | fail)) <;> (first | (rw [q13]; done) | (rw [q13]; rfl) | (simp [q13]; done))
    change AOps _ _ _ (⟨142, [], [(9, .one (.own 1)), (10, vI ((x8_0.1 : Nat) : Int)), (14, .one (.own 2)), (15, .one (.ptr 3 0)), (16, .one (.own 4)), (17, .one (.ptr 5 0)), (103, vB ((x11.2.2 != 0) || (x12.2.2 != 0)))], [(1, some (.row 46 2 x8_0.2.2.length (lsEl c_JournalRecord x8_0.2.2))), (2, some (.row 46 2 x11.1.length (lsEl c_JournalRecord x11.1))), (3, some (.box (c_Disk x11.2.1))), (4, some (.row 46 2 x12.1.length (lsEl c_JournalRecord x12.1))), (5, some (.box (c_Disk x12.2.1)))]⟩ : ASt) _
    refine aops_step1 rfl (st_move rfl rfl) ?_
    obtain ⟨o14, j14, h⟩ := Md.bind_s h
    refine aops_cut 5 (ε := Bool) (fun x14 => (⟨142, [], [(9, .one (.own 1)), (10, vI ((x8_0.1 : Nat) : Int)), (14, .one (.own 2)), (15, .one (.ptr 3 0)), (17, .one (.ptr 5 0)), (109, vB x14)], [(1, some (.row 46 2 x8_0.2.2.length (lsEl c_JournalRecord x8_0.2.2))), (2, some (.row 46 2 x11.1.length (lsEl c_JournalRecord x11.1))), (3, some (.box (c_Disk x11.2.1))), (5, some (.box (c_Disk x12.2.1)))]⟩ : ASt)) (fun x14 => x14 = o14) ?_ ?_
    · intro x14 hI14
      subst hI14
      change AOps _ _ _ (⟨142, [], [(9, .one (.own 1)), (10, vI ((x8_0.1 : Nat) : Int)), (14, .one (.own 2)), (15, .one (.ptr 3 0)), (17, .one (.ptr 5 0)), (109, vB x14)], [(1, some (.row 46 2 x8_0.2.2.length (lsEl c_JournalRecord x8_0.2.2))), (2, some (.row 46 2 x11.1.length (lsEl c_JournalRecord x11.1))), (3, some (.box (c_Disk x11.2.1))), (5, some (.box (c_Disk x12.2.1)))]⟩ : ASt) _
      refine aops_step1 rfl (st_move rfl rfl) ?_
      obtain ⟨o15, j15, h⟩ := Md.bind_s h
      refine aops_cut 5 (ε := Bool) (fun x15 => (⟨142, [], [(9, .one (.own 1)), (10, vI ((x8_0.1 : Nat) : Int)), (14, .one (.own 2)), (115, vB x15)], [(1, some (.row 46 2 x8_0.2.2.length (lsEl c_JournalRecord x8_0.2.2))), (2, some (.row 46 2 x11.1.length (lsEl c_JournalRecord x11.1)))]⟩ : ASt)) (fun x15 => x15 = o15) ?_ ?_
      · intro x15 hI15
        subst hI15
        change AOps _ _ _ (⟨142, [], [(9, .one (.own 1)), (10, vI ((x8_0.1 : Nat) : Int)), (14, .one (.own 2)), (115, vB x15)], [(1, some (.row 46 2 x8_0.2.2.length (lsEl c_JournalRecord x8_0.2.2))), (2, some (.row 46 2 x11.1.length (lsEl c_JournalRecord x11.1)))]⟩ : ASt) _
        refine aops_nil ?_
        refine aw_cond rfl (fun c16 => ?_) (fun c16 => ?_)
        · replace h := Md.cond_t h c16
          refine aw_seq ?_
          refine aw_region ?_
          refine aops_step1 rfl (st_assign rfl rfl) ?_
          refine aops_nil ?_
          cases Option.some.inj h
          refine aw_ret ⟨rfl, ret_v (.inl ⟨_, rfl, rfl, fun _ e => nomatch e⟩) rfl rfl rfl ?_⟩
          (repeat' (first | exact .refl _ | exact .nil | refine .tup ?_ | refine .v ?_ | refine .cons ?_ ?_ | refine .agg ?_ | refine .one ?_ | exact .nil _ | exact .emp _ | refine .val ?_ | refine .slc ?_ ?_ | fail))
        replace h := Md.cond_f h c16
        refine aw_skip ?_
        refine aw_seq ?_
        refine aw_region ?_
        refine aops_step1 rfl (st_move rfl rfl) ?_
        refine aops_step1 rfl (ev_len_own rfl rfl rfl) ?_
        refine aops_step1 rfl (st_move rfl rfl) ?_
        refine aops_step1 rfl (ev_cmp rfl rfl rfl rfl) ?_
        refine aops_step1 rfl (st_move rfl rfl) ?_
        refine aops_mid 6 (⟨142, [], [(9, .one (.own 1)), (10, vI ((x8_0.1 : Nat) : Int)), (14, .one (.own 2)), (126, vB ((decide (((x11.1.length : Nat) : Int) ≥ ((x8_0.1 : Nat) : Int))) && (decide (((x11.1.length : Nat) : Int) ≤ ((x8_0.2.2.length : Nat) : Int)))))], [(1, some (.row 46 2 x8_0.2.2.length (lsEl c_JournalRecord x8_0.2.2))), (2, some (.row 46 2 x11.1.length (lsEl c_JournalRecord x11.1)))]⟩ : ASt) ?_ ?_
        · rcases Md.bool_or ((decide (((x11.1.length : Nat) : Int) ≥ ((x8_0.1 : Nat) : Int)))) with q17 | q17
          · skip
            refine aops_yes rfl rfl rfl rfl q17 (st_move rfl rfl) ?_
            refine aops_yes rfl rfl rfl rfl q17 (ev_len_own rfl rfl rfl) ?_
            refine aops_yes rfl rfl rfl rfl q17 (st_move rfl rfl) ?_
            refine aops_yes rfl rfl rfl rfl q17 (ev_len_own rfl rfl rfl) ?_
            refine aops_yes rfl rfl rfl rfl q17 (ev_cmp rfl rfl rfl rfl) ?_
            refine aops_step1 rfl (st_pick_yes rfl (by first | rfl | exact q17) rfl rfl) ?_
            refine aops_nil ?_
            show Weak _ _
            (refine weak_mk rfl rfl ?_ ?_ rfl <;> repeat' (first | exact trivial | refine ⟨?_, ?_⟩ | exact .refl _ | refine .one (.val ?_) | exact .one (.nil _) | exact .one (.emp _) | refine .box ?_ | refine .agg ?_ | exact .nil | refine .cons ?_ ?_ | exact .nil _ | exact .emp _ | fail)) <;> (first | (rw [q17]; done) | (rw [q17]; rfl) | (simp [q17]; done))
          refine aops_no rfl rfl rfl rfl rfl (by first | decide | (rw [q17]; decide)) ?_
          refine aops_no rfl rfl rfl rfl rfl (by first | decide | (rw [q17]; decide)) ?_
          refine aops_no rfl rfl rfl rfl rfl (by first | decide | (rw [q17]; decide)) ?_
          refine aops_no rfl rfl rfl rfl rfl (by first | decide | (rw [q17]; decide)) ?_
          refine aops_no rfl rfl rfl rfl rfl (by first | decide | (rw [q17]; decide)) ?_
          refine aops_step1 rfl (st_pick_no rfl (by first | rfl | exact q17) rfl rfl) ?_
          refine aops_nil ?_
          show Weak _ _
          (refine weak_mk rfl rfl ?_ ?_ rfl <;> repeat' (first | exact trivial | refine ⟨?_, ?_⟩ | exact .refl _ | refine .one (.val ?_) | exact .one (.nil _) | exact .one (.emp _) | refine .box ?_ | refine .agg ?_ | exact .nil | refine .cons ?_ ?_ | exact .nil _ | exact .emp _ | fail)) <;> (first | (rw [q17]; done) | (rw [q17]; rfl) | (simp [q17]; done))
        change AOps _ _ _ (⟨142, [], [(9, .one (.own 1)), (10, vI ((x8_0.1 : Nat) : Int)), (14, .one (.own 2)), (126, vB ((decide (((x11.1.length : Nat) : Int) ≥ ((x8_0.1 : Nat) : Int))) && (decide (((x11.1.length : Nat) : Int) ≤ ((x8_0.2.2.length : Nat) : Int)))))], [(1, some (.row 46 2 x8_0.2.2.length (lsEl c_JournalRecord x8_0.2.2))), (2, some (.row 46 2 x11.1.length (lsEl c_JournalRecord x11.1)))]⟩ : ASt) _
        refine aops_step1 rfl (st_move rfl rfl) ?_
        obtain ⟨o18, j18, h⟩ := Md.bind_s h
        refine aops_cut 6 (ε := Bool) (fun x18 => (⟨142, [], [(9, .one (.own 1)), (14, .one (.own 2)), (133, vB x18)], [(1, some (.row 46 2 x8_0.2.2.length (lsEl c_JournalRecord x8_0.2.2))), (2, some (.row 46 2 x11.1.length (lsEl c_JournalRecord x11.1)))]⟩ : ASt)) (fun x18 => x18 = o18) ?_ ?_
        · intro x18 hI18
          subst hI18
          change AOps _ _ _ (⟨142, [], [(9, .one (.own 1)), (14, .one (.own 2)), (133, vB x18)], [(1, some (.row 46 2 x8_0.2.2.length (lsEl c_JournalRecord x8_0.2.2))), (2, some (.row 46 2 x11.1.length (lsEl c_JournalRecord x11.1)))]⟩ : ASt) _
          refine aops_step1 rfl (st_move rfl rfl) ?_
          obtain ⟨o19, j19, h⟩ := Md.bind_s h
          refine aops_cut 7 (ε := Bool) (fun x19 => (⟨142, [], [(141, vB x19)], []⟩ : ASt)) (fun x19 => x19 = o19) ?_ ?_
          · intro x19 hI19
            subst hI19
            change AOps _ _ _ (⟨142, [], [(141, vB x19)], []⟩ : ASt) _
            refine aops_step1 rfl (st_assign rfl rfl) ?_
            refine aops_nil ?_
            cases Option.some.inj h
            refine aw_ret ⟨rfl, ret_v (.inl ⟨_, rfl, rfl, fun _ e => nomatch e⟩) rfl rfl rfl ?_⟩
            (repeat' (first | exact .refl _ | exact .nil | refine .tup ?_ | refine .v ?_ | refine .cons ?_ ?_ | refine .agg ?_ | refine .one ?_ | exact .nil _ | exact .emp _ | refine .val ?_ | refine .slc ?_ ?_ | fail))
          rcases Md.bool_or (x18) with q19 | q19
          · replace j19 := Md.cond_t j19 q19
            refine aops_yes rfl rfl rfl rfl q19 (st_move rfl rfl) ?_
            refine aops_yes rfl rfl rfl rfl q19 (st_move rfl rfl) ?_
            refine aops_yes rfl rfl rfl rfl q19 (st_move rfl rfl) ?_
            refine aops_yes rfl rfl rfl rfl q19 (ev_len_own rfl rfl rfl) ?_
            obtain ⟨g20, j19⟩ := Md.ifp_s j19
            refine aops_freeze 1 rfl ?_
            refine aops_yes rfl rfl rfl rfl q19 (st_cut_hi (f := c_JournalRecord) (fun _ => rfl) rfl ⟨_, _, rfl, rfl⟩ g20 rfl) ?_
            obtain ⟨x21, hx21, j19⟩ := Md.bind_s j19
            refine aops_yes rfl rfl rfl rfl q19 (ev_call_v (actorgridref26_SameRecords_fn k x11.1 (x8_0.2.2.take x11.1.length) x21 hx21) rfl [2] (by repeat' (first | exact .nil | refine .cons ?_ ?_ | refine .one ?_ | refine .agg ?_ | exact .mk rfl | exact .lend rfl (by simp) | exact .le (.nil _) rfl | exact .le (.emp _) rfl | exact .le (.any _) rfl | fail)) rfl rfl rfl (.inr rfl) rfl) ?_
            refine aops_step1 rfl (st_pick_yes rfl (by first | rfl | exact q19) rfl rfl) ?_
            refine aops_nil ?_
            show ∃ _x : Bool, _ = _ ∧ Weak _ _
            exact ⟨x21, Option.some.inj j19, (by (refine weak_mk rfl rfl ?_ ?_ rfl <;> repeat' (first | exact trivial | refine ⟨?_, ?_⟩ | exact .refl _ | refine .one (.val ?_) | exact .one (.nil _) | exact .one (.emp _) | refine .box ?_ | refine .agg ?_ | exact .nil | refine .cons ?_ ?_ | exact .nil _ | exact .emp _ | fail)))⟩
          replace j19 := Md.cond_f j19 q19
          refine aops_no rfl rfl rfl rfl rfl (by first | decide | (rw [q19]; decide)) ?_
          refine aops_no rfl rfl rfl rfl rfl (by first | decide | (rw [q19]; decide)) ?_
          refine aops_no rfl rfl rfl rfl rfl (by first | decide | (rw [q19]; decide)) ?_
          refine aops_no rfl rfl rfl rfl rfl (by first | decide | (rw [q19]; decide)) ?_
          refine aops_no rfl rfl rfl rfl rfl (by first | decide | (rw [q19]; decide)) ?_
          refine aops_no rfl rfl rfl rfl rfl (by first | decide | (rw [q19]; decide)) ?_
          refine aops_step1 rfl (st_pick_no rfl (by first | rfl | exact q19) rfl rfl) ?_
          refine aops_nil ?_
          show ∃ _x : Bool, _ = _ ∧ Weak _ _
          exact ⟨false, Option.some.inj j19, (by (refine weak_mk rfl rfl ?_ ?_ rfl <;> repeat' (first | exact trivial | refine ⟨?_, ?_⟩ | exact .refl _ | refine .one (.val ?_) | exact .one (.nil _) | exact .one (.emp _) | refine .box ?_ | refine .agg ?_ | exact .nil | refine .cons ?_ ?_ | exact .nil _ | exact .emp _ | fail)))⟩
        rcases Md.bool_or (((decide (((x11.1.length : Nat) : Int) ≥ ((x8_0.1 : Nat) : Int))) && (decide (((x11.1.length : Nat) : Int) ≤ ((x8_0.2.2.length : Nat) : Int))))) with q18 | q18
        · replace j18 := Md.cond_t j18 q18
          refine aops_yes rfl rfl rfl rfl q18 (st_move rfl rfl) ?_
          refine aops_yes rfl rfl rfl rfl q18 (ev_len_own rfl rfl rfl) ?_
          refine aops_yes rfl rfl rfl rfl q18 (st_move rfl rfl) ?_
          obtain ⟨g22, j18⟩ := Md.ifp_s j18
          refine aops_yes rfl rfl rfl rfl q18 (ev_add rfl rfl rfl (Md.nat_add g22)) ?_
          refine aops_yes rfl rfl rfl rfl q18 (ev_cmp rfl rfl rfl rfl) ?_
          refine aops_step1 rfl (st_pick_yes rfl (by first | rfl | exact q18) rfl rfl) ?_
          refine aops_nil ?_
          show ∃ _x : Bool, _ = _ ∧ Weak _ _
          exact ⟨(decide (((x11.1.length : Nat) : Int) ≤ (((x8_0.1 + 1) : Nat) : Int))), Option.some.inj j18, (by (refine weak_mk rfl rfl ?_ ?_ rfl <;> repeat' (first | exact trivial | refine ⟨?_, ?_⟩ | exact .refl _ | refine .one (.val ?_) | exact .one (.nil _) | exact .one (.emp _) | refine .box ?_ | refine .agg ?_ | exact .nil | refine .cons ?_ ?_ | exact .nil _ | exact .emp _ | fail)))⟩
        replace j18 := Md.cond_f j18 q18
        refine aops_no rfl rfl rfl rfl rfl (by first | decide | (rw [q18]; decide)) ?_
        refine aops_no rfl rfl rfl rfl rfl (by first | decide | (rw [q18]; decide)) ?_
        refine aops_no rfl rfl rfl rfl rfl (by first | decide | (rw [q18]; decide)) ?_
        refine aops_no rfl rfl rfl rfl rfl (by first | decide | (rw [q18]; decide)) ?_
        refine aops_no rfl rfl rfl rfl rfl (by first | decide | (rw [q18]; decide)) ?_
        refine aops_step1 rfl (st_pick_no rfl (by first | rfl | exact q18) rfl rfl) ?_
        refine aops_nil ?_
        show ∃ _x : Bool, _ = _ ∧ Weak _ _
        exact ⟨false, Option.some.inj j18, (by (refine weak_mk rfl rfl ?_ ?_ rfl <;> repeat' (first | exact trivial | refine ⟨?_, ?_⟩ | exact .refl _ | refine .one (.val ?_) | exact .one (.nil _) | exact .one (.emp _) | refine .box ?_ | refine .agg ?_ | exact .nil | refine .cons ?_ ?_ | exact .nil _ | exact .emp _ | fail)))⟩
      rcases Md.bool_or (x14) with q15 | q15
      · replace j15 := Md.cond_t j15 q15
        refine aops_no rfl rfl rfl rfl rfl (by first | decide | (rw [q15]; decide)) ?_
        refine aops_no rfl rfl rfl rfl rfl (by first | decide | (rw [q15]; decide)) ?_
        refine aops_no rfl rfl rfl rfl rfl (by first | decide | (rw [q15]; decide)) ?_
        refine aops_no rfl rfl rfl rfl rfl (by first | decide | (rw [q15]; decide)) ?_
        refine aops_step1 rfl (st_pick_yes rfl (by first | rfl | exact q15) rfl rfl) ?_
        refine aops_nil ?_
        show ∃ _x : Bool, _ = _ ∧ Weak _ _
        exact ⟨true, Option.some.inj j15, (by (refine weak_mk rfl rfl ?_ ?_ rfl <;> repeat' (first | exact trivial | refine ⟨?_, ?_⟩ | exact .refl _ | refine .one (.val ?_) | exact .one (.nil _) | exact .one (.emp _) | refine .box ?_ | refine .agg ?_ | exact .nil | refine .cons ?_ ?_ | exact .nil _ | exact .emp _ | fail)))⟩
      replace j15 := Md.cond_f j15 q15
      refine aops_yes rfl rfl rfl rfl q15 (ev_loads (ds := [_, _, _, _, _, _]) rfl rfl rfl rfl rfl) ?_
      refine aops_yes rfl rfl rfl rfl q15 (ev_loads (ds := [_, _, _, _, _, _]) rfl rfl rfl rfl rfl) ?_
      obtain ⟨x23, hx23, j15⟩ := Md.bind_s j15
      refine aops_yes rfl rfl rfl rfl q15 (ev_call_v (actorgridref26_SameDisk_fn k x11.2.1 x12.2.1 x23 hx23) rfl [] (by repeat' (first | exact .nil | refine .cons ?_ ?_ | refine .one ?_ | refine .agg ?_ | exact .mk rfl | exact .lend rfl (by simp) | exact .le (.nil _) rfl | exact .le (.emp _) rfl | exact .le (.any _) rfl | fail)) rfl rfl rfl (.inl rfl) rfl) ?_
      refine aops_yes rfl rfl rfl rfl q15 (ev_not rfl rfl) ?_
      refine aops_step1 rfl (st_pick_no rfl (by first | rfl | exact q15) rfl rfl) ?_
      refine aops_nil ?_
      show ∃ _x : Bool, _ = _ ∧ Weak _ _
      exact ⟨(!x23), Option.some.inj j15, (by (refine weak_mk rfl rfl ?_ ?_ rfl <;> repeat' (first | exact trivial | refine ⟨?_, ?_⟩ | exact .refl _ | refine .one (.val ?_) | exact .one (.nil _) | exact .one (.emp _) | refine .box ?_ | refine .agg ?_ | exact .nil | refine .cons ?_ ?_ | exact .nil _ | exact .emp _ | fail)))⟩
    rcases Md.bool_or (((x11.2.2 != 0) || (x12.2.2 != 0))) with q14 | q14
    · replace j14 := Md.cond_t j14 q14
      refine aops_no rfl rfl rfl rfl rfl (by first | decide | (rw [q14]; decide)) ?_
      refine aops_no rfl rfl rfl rfl rfl (by first | decide | (rw [q14]; decide)) ?_
      refine aops_no rfl rfl rfl rfl rfl (by first | decide | (rw [q14]; decide)) ?_
      refine aops_no rfl rfl rfl rfl rfl (by first | decide | (rw [q14]; decide)) ?_
      refine aops_step1 rfl (st_pick_yes rfl (by first | rfl | exact q14) rfl rfl) ?_
      refine aops_nil ?_
      show ∃ _x : Bool, _ = _ ∧ Weak _ _
      exact ⟨true, Option.some.inj j14, (by (refine weak_mk rfl rfl ?_ ?_ rfl <;> repeat' (first | exact trivial | refine ⟨?_, ?_⟩ | exact .refl _ | refine .one (.val ?_) | exact .one (.nil _) | exact .one (.emp _) | refine .box ?_ | refine .agg ?_ | exact .nil | refine .cons ?_ ?_ | exact .nil _ | exact .emp _ | fail)))⟩
    replace j14 := Md.cond_f j14 q14
    refine aops_yes rfl rfl rfl rfl q14 (st_move rfl rfl) ?_
    refine aops_yes rfl rfl rfl rfl q14 (st_move rfl rfl) ?_
    obtain ⟨x24, hx24, j14⟩ := Md.bind_s j14
    refine aops_yes rfl rfl rfl rfl q14 (ev_call_v (actorgridref26_SameRecords_fn k x11.1 x12.1 x24 hx24) rfl [2, 4] (by repeat' (first | exact .nil | refine .cons ?_ ?_ | refine .one ?_ | refine .agg ?_ | exact .mk rfl | exact .lend rfl (by simp) | exact .le (.nil _) rfl | exact .le (.emp _) rfl | exact .le (.any _) rfl | fail)) rfl rfl rfl (.inr rfl) rfl) ?_
    refine aops_yes rfl rfl rfl rfl q14 (ev_not rfl rfl) ?_
    refine aops_step1 rfl (st_pick_no rfl (by first | rfl | exact q14) rfl rfl) ?_
    refine aops_nil ?_
    show ∃ _x : Bool, _ = _ ∧ Weak _ _
    exact ⟨(!x24), Option.some.inj j14, (by (refine weak_mk rfl rfl ?_ ?_ rfl <;> repeat' (first | exact trivial | refine ⟨?_, ?_⟩ | exact .refl _ | refine .one (.val ?_) | exact .one (.nil _) | exact .one (.emp _) | refine .box ?_ | refine .agg ?_ | exact .nil | refine .cons ?_ ?_ | exact .nil _ | exact .emp _ | fail)))⟩
  intro p8
  obtain ⟨⟨n8, s8_0, s8_1, s8_2, s8_3⟩, l8⟩ := p8
  change AW _ _ (⟨142, [], [(0, .one (CV.ls c_LU8 a0)), (7, .one (.ptr 0 0)), (9, .one (.own 1)), (10, vI ((s8_0 : Nat) : Int)), (11, vI ((s8_1 : Nat) : Int))], [(0, some (.box (c_Disk s8_2))), (1, some (.row 46 2 s8_3.length (lsEl c_JournalRecord s8_3)))]⟩ : ASt) _
  replace l8 : actorgridlaw27_JournalSurvives_loop1 k a0 n8 s8_0 s8_1 s8_2 s8_3 = some o8 := l8
  rcases n8 with _ | n8
  · exact absurd (show none = some o8 from l8) nofun
  rw [actorgridlaw27_JournalSurvives_loop1] at l8
  refine aw_seq ?_
  refine aw_seq ?_
  refine aw_region ?_
  refine aops_step1 rfl (st_move rfl rfl) ?_
  refine aops_step1 rfl (st_move rfl rfl) ?_
  refine aops_step1 rfl (ev_len_slc rfl rfl) ?_
  refine aops_step1 rfl (ev_cmp rfl rfl rfl rfl) ?_
  refine aops_nil ?_
  refine aw_cond rfl (fun c25 => ?_) (fun c25 => ?_)
  · replace l8 := Md.cond_t l8 c25
    refine aw_skip ?_
    refine aw_seq ?_
    refine aw_block ?_
    refine aw_seq ?_
    refine aw_seq ?_
    refine aw_region ?_
    refine aops_step1 rfl (st_move rfl rfl) ?_
    refine aops_step1 rfl (st_move rfl rfl) ?_
    obtain ⟨g26, l8⟩ := Md.ifp_s l8
    refine aops_step1 rfl (ev_index_in rfl rfl rfl g26 rfl rfl) ?_
    refine aops_step1 rfl (ev_load_in rfl rfl rfl) ?_
    refine aops_step1 rfl (ev_len_slc rfl rfl) ?_
    refine aops_step1 rfl (ev_cmp rfl rfl rfl rfl) ?_
    refine aops_nil ?_
    refine aw_cond rfl (fun c27 => ?_) (fun c27 => ?_)
    · replace l8 := Md.cond_t l8 c27
      refine aw_seq ?_
      refine aw_region ?_
      refine aops_step1 rfl (st_assign rfl rfl) ?_
      refine aops_nil ?_
      cases Option.some.inj l8
      replace h := Md.onS_r h
      cases Option.some.inj h
      refine aw_ret ⟨rfl, ret_v (.inl ⟨_, rfl, rfl, fun _ e => nomatch e⟩) rfl rfl rfl ?_⟩
      (repeat' (first | exact .refl _ | exact .nil | refine .tup ?_ | refine .v ?_ | refine .cons ?_ ?_ | refine .agg ?_ | refine .one ?_ | exact .nil _ | exact .emp _ | refine .val ?_ | refine .slc ?_ ?_ | fail))
    replace l8 := Md.cond_f l8 c27
    refine aw_skip ?_
    refine aw_seq ?_
    refine aw_region ?_
    refine aops_step1 rfl (st_move rfl rfl) ?_
    refine aops_step1 rfl (st_move rfl rfl) ?_
    obtain ⟨g28, l8⟩ := Md.ifp_s l8
    refine aops_step1 rfl (ev_add rfl rfl rfl (Md.nat_add g28)) ?_
    refine aops_step1 rfl (st_move rfl rfl) ?_
    refine aops_step1 rfl (st_move rfl rfl) ?_
    obtain ⟨g29, l8⟩ := Md.ifp_s l8
    refine aops_step1 rfl (ev_index_in rfl rfl rfl g29 rfl rfl) ?_
    refine aops_step1 rfl (ev_load_in rfl rfl rfl) ?_
    refine aops_step1 rfl (ev_build' (out := [_, _]) rfl rfl rfl rfl rfl) ?_
    refine aops_step1 rfl (st_slice_lit (el := lsEl c_JournalRecord [(⟨(((1 + s8_1) : Nat) : Int), (a0.getD s8_1 default)⟩ : JournalRecord)]) 2 rfl rfl rfl rfl rfl rfl rfl rfl (lit_el c_JournalRecord 2 [(⟨(((1 + s8_1) : Nat) : Int), (a0.getD s8_1 default)⟩ : JournalRecord)] (fun _ => rfl)) rfl) ?_
    obtain ⟨g30, l8⟩ := Md.ifp_s l8
    refine aops_step1 rfl (st_app_ls (f := c_JournalRecord) s8_3 [(⟨(((1 + s8_1) : Nat) : Int), (a0.getD s8_1 default)⟩ : JournalRecord)] (fun _ => rfl) rfl rfl (.inr ⟨_, _, rfl, rfl⟩) (by omega) (by omega) rfl) ?_
    refine aops_step1 rfl (st_assign rfl rfl) ?_
    refine aops_nil ?_
    obtain ⟨g31, l8⟩ := Md.ifp_s l8
    obtain ⟨x32, hx32, l8⟩ := Md.bind_s l8
    refine aw_seq_mid (⟨142, [], [(0, .one (CV.ls c_LU8 a0)), (7, .one (.ptr 0 0)), (9, .one (.own 1)), (10, vI ((s8_0 : Nat) : Int)), (11, vI ((s8_1 : Nat) : Int)), (12, .one (.ptr 3 0)), (13, vI x32.2)], [(0, some (.box (c_Disk s8_2))), (1, some (.row 46 2 (s8_3 ++ [(⟨(((1 + s8_1) : Nat) : Int), (a0.getD s8_1 default)⟩ : JournalRecord)]).length (lsEl c_JournalRecord (s8_3 ++ [(⟨(((1 + s8_1) : Nat) : Int), (a0.getD s8_1 default)⟩ : JournalRecord)])))), (3, some (.box (c_Disk x32.1)))]⟩ : ASt) ?_ ?_
    ·
      apply aw_late 10 8 ((⟨[], .agg (c_Disk s8_2)⟩ : Add) :: ⟨[], .one (.own 1)⟩ :: ⟨[], vI ((s8_1 : Nat) : Int)⟩ :: ⟨[], .one (.rptr 1 _ _ _)⟩ :: ⟨[], .agg (c_JournalRecord ((s8_3 ++ [(⟨(((1 + s8_1) : Nat) : Int), (a0.getD s8_1 default)⟩ : JournalRecord)]).getD s8_1 default))⟩ :: ⟨[], .tup [.agg (c_Disk x32.1), vI x32.2]⟩ :: ⟨[], .tup [.agg (c_Disk x32.1), vI x32.2]⟩ :: ⟨[], .agg (c_Disk x32.1)⟩ :: ⟨[], vI x32.2⟩ :: ⟨[(3, some (.box [.val (.slice none 0 0), cI 0, cB false, cI 0, cI 0, cB false]))], .one (.ptr 3 _)⟩ :: []) (by decide) (by decide) rfl rfl rfl ?hk8x ?hf8x ?ho8x ?hr8x ?hl8x
      case ho8x =>
       refine ⟨⟨[], (by decide +kernel), fun S hle hfr => ?_⟩, ?_⟩
       · exact .inl ⟨.inl ⟨rfl, rfl⟩, ev_loads (ds := [_, _, _, _, _, _]) (hle.e rfl) (hle.heap _ _ rfl) rfl rfl (hle.d rfl)⟩
       refine ⟨⟨[], (by decide +kernel), fun S hle hfr => ?_⟩, ?_⟩
       · exact .inl ⟨.inl ⟨rfl, rfl⟩, st_move (hle.e rfl) (hle.d rfl)⟩
       refine ⟨⟨[], (by decide +kernel), fun S hle hfr => ?_⟩, ?_⟩
       · exact .inl ⟨.inl ⟨rfl, rfl⟩, st_move (hle.e rfl) (hle.d rfl)⟩
       refine ⟨⟨1 :: 2 :: [], (by decide +kernel), fun S hle hfr => ?_⟩, ?_⟩
       · exact .inl ⟨.inl ⟨rfl, rfl⟩, ev_index_row (hle.e rfl) (hle.heap _ _ rfl) (hle.e rfl) rfl g31 (hle.d rfl)⟩
       refine ⟨⟨3 :: 1 :: 2 :: [], (by decide +kernel), fun S hle hfr => ?_⟩, ?_⟩
       · exact .inl ⟨.inl ⟨rfl, rfl⟩, st_loads_row (ds := [_, _]) (hle.e rfl) (hle.heap _ _ rfl) g31 rfl rfl (hle.d rfl)⟩
       refine ⟨⟨0 :: 4 :: 3 :: 1 :: 2 :: [], (by decide +kernel), fun S hle hfr => ?_⟩, ?_⟩
       · exact .inl ⟨.inl ⟨rfl, rfl⟩, ev_call_v (journal_Append_fn k s8_2 (⟨(((s8_3 ++ [(⟨(((1 + s8_1) : Nat) : Int), (a0.getD s8_1 default)⟩ : JournalRecord)]).getD s8_1 default).Kind), (((s8_3 ++ [(⟨(((1 + s8_1) : Nat) : Int), (a0.getD s8_1 default)⟩ : JournalRecord)]).getD s8_1 default).Body)⟩ : JournalRecord) x32 hx32) (map_ev (.cons (hle.e rfl) (.cons (hle.e rfl) (.nil)))) [] (by repeat' (first | exact .nil | refine .cons ?_ ?_ | refine .one ?_ | refine .agg ?_ | exact .mk rfl | exact .lend (hle.heap _ _ rfl) (by simp) | exact .le (.nil _) rfl | exact .le (.emp _) rfl | exact .le (.any _) rfl | fail)) rfl rfl rfl (.inl rfl) (hle.d rfl)⟩
       refine ⟨⟨5 :: 0 :: 4 :: 3 :: 1 :: 2 :: [], (by decide +kernel), fun S hle hfr => ?_⟩, ?_⟩
       · exact .inl ⟨.inl ⟨rfl, rfl⟩, st_movet (hle.e rfl) (hle.d rfl)⟩
       refine ⟨⟨6 :: 5 :: 0 :: 4 :: 3 :: 1 :: 2 :: [], (by decide +kernel), fun S hle hfr => ?_⟩, ?_⟩
       · exact .inl ⟨.inl ⟨rfl, rfl⟩, ev_extract (hle.e rfl) rfl (hle.d rfl)⟩
       refine ⟨⟨6 :: 5 :: 0 :: 4 :: 3 :: 1 :: 2 :: [], (by decide +kernel), fun S hle hfr => ?_⟩, ?_⟩
       · exact .inl ⟨.inl ⟨rfl, rfl⟩, ev_extract (hle.e rfl) rfl (hle.d rfl)⟩
       refine ⟨⟨[], (by decide +kernel), fun S hle hfr => ?_⟩, ?_⟩
       · exact .inl ⟨.inl ⟨rfl, rfl⟩, st_alloc (cs := [.val (.slice none 0 0), cI 0, cB false, cI 0, cI 0, cB false]) 3 (hfr _ (List.mem_singleton.2 rfl)) rfl rfl rfl (hle.d rfl)⟩
       exact trivial
      case hk8x => rfl
      case hf8x => rfl
      case hr8x =>
       refine aops_step1 rfl (st_store (cs' := [_, _, _, _, _, _]) rfl rfl rfl rfl rfl rfl rfl rfl rfl) ?_
       refine aops_step1 rfl (st_assign rfl rfl) ?_
       refine aops_nil ?_
       show Weak _ _
       (refine weak_mk rfl rfl ?_ ?_ rfl <;> repeat' (first | exact trivial | refine ⟨?_, ?_⟩ | exact .refl _ | refine .one (.val ?_) | exact .one (.nil _) | exact .one (.emp _) | refine .box ?_ | refine .agg ?_ | exact .nil | refine .cons ?_ ?_ | exact .nil _ | exact .emp _ | fail))
      case hl8x =>
       refine aops_step1 rfl (st_store (cs' := [_, _, _, _, _, _]) rfl rfl rfl rfl rfl rfl rfl rfl rfl) ?_
       refine aops_step1 rfl (ev_extract rfl rfl rfl) ?_
       refine aops_step1 rfl (st_assign rfl rfl) ?_
       refine aops_nil ?_
       show Weak _ _
       (refine weak_mk rfl rfl ?_ ?_ rfl <;> repeat' (first | exact trivial | refine ⟨?_, ?_⟩ | exact .refl _ | refine .one (.val ?_) | exact .one (.nil _) | exact .one (.emp _) | refine .box ?_ | refine .agg ?_ | exact .nil | refine .cons ?_ ?_ | exact .nil _ | exact .emp _ | fail))
    refine aw_seq ?_
    refine aw_region ?_
    refine aops_step1 rfl (ev_loads (ds := [_, _, _, _, _, _]) rfl rfl rfl rfl rfl) ?_
    refine aops_step1 rfl (st_store (cs' := [_, _, _, _, _, _]) rfl rfl rfl rfl rfl rfl rfl rfl rfl) ?_
    refine aops_nil ?_
    refine aw_seq ?_
    refine aw_seq ?_
    refine aw_region ?_
    refine aops_step1 rfl (st_move rfl rfl) ?_
    refine aops_step1 rfl (ev_cmp rfl rfl rfl rfl) ?_
    refine aops_nil ?_
    refine aw_cond rfl (fun c33 => ?_) (fun c33 => ?_)
    · replace l8 := Md.cond_t l8 c33
      refine aw_exit ?_
      show ∃ _x : Nat × Disk × (List JournalRecord), _ = _ ∧ Weak _ _
      exact ⟨(s8_0, x32.1, (s8_3 ++ [(⟨(((1 + s8_1) : Nat) : Int), (a0.getD s8_1 default)⟩ : JournalRecord)])), Option.some.inj l8, (by (refine weak_mk rfl rfl ?_ ?_ rfl <;> repeat' (first | exact trivial | refine ⟨?_, ?_⟩ | exact .refl _ | refine .one (.val ?_) | exact .one (.nil _) | exact .one (.emp _) | refine .box ?_ | refine .agg ?_ | exact .nil | refine .cons ?_ ?_ | exact .nil _ | exact .emp _ | fail)))⟩
    replace l8 := Md.cond_f l8 c33
    refine aw_skip ?_
    refine aw_seq ?_
    refine aw_seq ?_
    refine aw_region ?_
    refine aops_step1 rfl (st_move rfl rfl) ?_
    refine aops_step1 rfl (ev_cmp rfl rfl rfl rfl) ?_
    refine aops_nil ?_
    refine aw_cond rfl (fun c34 => ?_) (fun c34 => ?_)
    · replace l8 := Md.cond_t l8 c34
      refine aw_seq ?_
      refine aw_region ?_
      refine aops_step1 rfl (st_assign rfl rfl) ?_
      refine aops_nil ?_
      cases Option.some.inj l8
      replace h := Md.onS_r h
      cases Option.some.inj h
      refine aw_ret ⟨rfl, ret_v (.inl ⟨_, rfl, rfl, fun _ e => nomatch e⟩) rfl rfl rfl ?_⟩
      (repeat' (first | exact .refl _ | exact .nil | refine .tup ?_ | refine .v ?_ | refine .cons ?_ ?_ | refine .agg ?_ | refine .one ?_ | exact .nil _ | exact .emp _ | refine .val ?_ | refine .slc ?_ ?_ | fail))
    replace l8 := Md.cond_f l8 c34
    refine aw_skip ?_
    refine aw_region ?_
    refine aops_step1 rfl (st_move rfl rfl) ?_
    obtain ⟨g35, l8⟩ := Md.ifp_s l8
    refine aops_step1 rfl (ev_add rfl rfl rfl (Md.nat_add g35)) ?_
    refine aops_step1 rfl (st_assign rfl rfl) ?_
    refine aops_nil ?_
    refine aw_region ?_
    refine aops_step1 rfl (st_move rfl rfl) ?_
    obtain ⟨g36, l8⟩ := Md.ifp_s l8
    refine aops_step1 rfl (ev_add rfl rfl rfl (Md.nat_add g36)) ?_
    refine aops_step1 rfl (st_assign rfl rfl) ?_
    refine aops_nil ?_
    exact ⟨⟨(n8, (s8_0 + 1), (s8_1 + 1), x32.1, (s8_3 ++ [(⟨(((1 + s8_1) : Nat) : Int), (a0.getD s8_1 default)⟩ : JournalRecord)])), l8⟩, Nat.lt_succ_self _, (by (refine weak_mk rfl rfl ?_ ?_ rfl <;> repeat' (first | exact trivial | refine ⟨?_, ?_⟩ | exact .refl _ | refine .one (.val ?_) | exact .one (.nil _) | exact .one (.emp _) | refine .box ?_ | refine .agg ?_ | exact .nil | refine .cons ?_ ?_ | exact .nil _ | exact .emp _ | fail)))⟩
  replace l8 := Md.cond_f l8 c25
  refine aw_exit ?_
  show ∃ _x : Nat × Disk × (List JournalRecord), _ = _ ∧ Weak _ _
  exact ⟨(s8_0, s8_2, s8_3), Option.some.inj l8, (by (refine weak_mk rfl rfl ?_ ?_ rfl <;> repeat' (first | exact trivial | refine ⟨?_, ?_⟩ | exact .refl _ | refine .one (.val ?_) | exact .one (.nil _) | exact .one (.emp _) | refine .box ?_ | refine .agg ?_ | exact .nil | refine .cons ?_ ?_ | exact .nil _ | exact .emp _ | fail)))⟩
set_option maxHeartbeats 2000000 in
theorem actorgridlaw27_JournalContinues_fn (k : Nat) (a0 : List (List UInt8)) (a1 : List (List UInt8)) (a2 : UInt8) (a3 : UInt8) (r : Bool) (h : actorgridlaw27_JournalContinues k a0 a1 a2 a3 = some r) : FnC Try.prog 10 [.one (CV.ls c_LU8 a0), .one (CV.ls c_LU8 a1), .one (.val (.int .u8 (a2.toNat : Int))), .one (.val (.int .u8 (a3.toNat : Int)))] [] (Det (vB r) []) := by
  unfold actorgridlaw27_JournalContinues at h
  refine fn_intro' 126 Try.func10 rfl rfl rfl ?_
  refine aw_seq ?_
  refine aw_region ?_
  refine aops_step1 rfl (st_assign rfl rfl) ?_
  refine aops_nil ?_
  refine aw_seq ?_
  refine aw_seq ?_
  refine aw_region ?_
  obtain ⟨x1, hx1, h⟩ := Md.bind_s h
  refine aops_step1 rfl (ev_call_v (actorgridlaw27_awake_fn k x1 hx1) rfl [] (by repeat' (first | exact .nil | refine .cons ?_ ?_ | refine .one ?_ | refine .agg ?_ | exact .mk rfl | exact .lend rfl (by simp) | exact .le (.nil _) rfl | exact .le (.emp _) rfl | exact .le (.any _) rfl | fail)) rfl rfl rfl (.inl rfl) rfl) ?_
  refine aops_step1 rfl (ev_not rfl rfl) ?_
  refine aops_nil ?_
  refine aw_cond rfl (fun c2 => ?_) (fun c2 => ?_)
  · replace h := Md.cond_t h c2
    refine aw_seq ?_
    refine aw_region ?_
    refine aops_step1 rfl (st_assign rfl rfl) ?_
    refine aops_nil ?_
    cases Option.some.inj h
    refine aw_ret ⟨rfl, ret_v (.inl ⟨_, rfl, rfl, fun _ e => nomatch e⟩) rfl rfl rfl ?_⟩
    (repeat' (first | exact .refl _ | exact .nil | refine .tup ?_ | refine .v ?_ | refine .cons ?_ ?_ | refine .agg ?_ | refine .one ?_ | exact .nil _ | exact .emp _ | refine .val ?_ | refine .slc ?_ ?_ | fail))
  replace h := Md.cond_f h c2
  refine aw_skip ?_
  refine aw_seq ?_
  refine aw_seq ?_
  refine aw_region ?_
  refine aops_step1 rfl (st_move rfl rfl) ?_
  refine aops_step1 rfl (ev_len_slc rfl rfl) ?_
  refine aops_step1 rfl (ev_cmp rfl rfl rfl rfl) ?_
  refine aops_step1 rfl (st_move rfl rfl) ?_
  refine aops_mid 4 (⟨126, [], [(0, .one (CV.ls c_LU8 a0)), (1, .one (CV.ls c_LU8 a1)), (2, .one (.val (.int .u8 (a2.toNat : Int)))), (3, .one (.val (.int .u8 (a3.toNat : Int)))), (26, vB ((decide (((a0.length : Nat) : Int) > 20)) || (decide (((a1.length : Nat) : Int) > 20))))], []⟩ : ASt) ?_ ?_
  · rcases Md.bool_or ((decide (((a0.length : Nat) : Int) > 20))) with q3 | q3
    · skip
      refine aops_no rfl rfl rfl rfl rfl (by first | decide | (rw [q3]; decide)) ?_
      refine aops_no rfl rfl rfl rfl rfl (by first | decide | (rw [q3]; decide)) ?_
      refine aops_no rfl rfl rfl rfl rfl (by first | decide | (rw [q3]; decide)) ?_
      refine aops_step1 rfl (st_pick_yes rfl (by first | rfl | exact q3) rfl rfl) ?_
      refine aops_nil ?_
      show Weak _ _
      (refine weak_mk rfl rfl ?_ ?_ rfl <;> repeat' (first | exact trivial | refine ⟨?_, ?_⟩ | exact .refl _ | refine .one (.val ?_) | exact .one (.nil _) | exact .one (.emp _) | refine .box ?_ | refine .agg ?_ | exact .nil | refine .cons ?_ ?_ | exact .nil _ | exact .emp _ | fail)) <;> (first | (rw [q3]; done) | (rw [q3]; rfl) | (simp [q3]; done))
    refine aops_yes rfl rfl rfl rfl q3 (st_move rfl rfl) ?_
    refine aops_yes rfl rfl rfl rfl q3 (ev_len_slc rfl rfl) ?_
    refine aops_yes rfl rfl rfl rfl q3 (ev_cmp rfl rfl rfl rfl) ?_
    refine aops_step1 rfl (st_pick_no rfl (by first | rfl | exact q3) rfl rfl) ?_
    refine aops_nil ?_
    show Weak _ _
    (refine weak_mk rfl rfl ?_ ?_ rfl <;> repeat' (first | exact trivial | refine ⟨?_, ?_⟩ | exact .refl _ | refine .one (.val ?_) | exact .one (.nil _) | exact .one (.emp _) | refine .box ?_ | refine .agg ?_ | exact .nil | refine .cons ?_ ?_ | exact .nil _ | exact .emp _ | fail)) <;> (first | (rw [q3]; done) | (rw [q3]; rfl) | (simp [q3]; done))
  change AOps _ _ _ (⟨126, [], [(0, .one (CV.ls c_LU8 a0)), (1, .one (CV.ls c_LU8 a1)), (2, .one (.val (.int .u8 (a2.toNat : Int)))), (3, .one (.val (.int .u8 (a3.toNat : Int)))), (26, vB ((decide (((a0.length : Nat) : Int) > 20)) || (decide (((a1.length : Nat) : Int) > 20))))], []⟩ : ASt) _
  refine aops_nil ?_
  refine aw_cond rfl (fun c4 => ?_) (fun c4 => ?_)
  · replace h := Md.cond_t h c4
    refine aw_seq ?_
    refine aw_region ?_
    refine aops_step1 rfl (st_assign rfl rfl) ?_
    refine aops_nil ?_
    cases Option.some.inj h
    refine aw_ret ⟨rfl, ret_v (.inl ⟨_, rfl, rfl, fun _ e => nomatch e⟩) rfl rfl rfl ?_⟩
    (repeat' (first | exact .refl _ | exact .nil | refine .tup ?_ | refine .v ?_ | refine .cons ?_ ?_ | refine .agg ?_ | refine .one ?_ | exact .nil _ | exact .emp _ | refine .val ?_ | refine .slc ?_ ?_ | fail))
  replace h := Md.cond_f h c4
  refine aw_skip ?_
  refine aw_seq ?_
  refine aw_region ?_
  obtain ⟨x5, hx5, h⟩ := Md.bind_s h
  refine aops_step1 rfl (ev_call_v (disk_New_fn k 1048576 x5 hx5) rfl [] (by repeat' (first | exact .nil | refine .cons ?_ ?_ | refine .one ?_ | refine .agg ?_ | exact .mk rfl | exact .lend rfl (by simp) | exact .le (.nil _) rfl | exact .le (.emp _) rfl | exact .le (.any _) rfl | fail)) rfl rfl rfl (.inl rfl) rfl) ?_
  refine aops_step1 rfl (st_movet rfl rfl) ?_
  refine aops_step1 rfl (ev_extract rfl rfl rfl) ?_
  refine aops_step1 rfl (ev_extract rfl rfl rfl) ?_
  refine aops_step1 rfl (st_alloc (cs := [.val (.slice none 0 0), cI 0, cB false, cI 0, cI 0, cB false]) 0 rfl rfl rfl rfl rfl) ?_
  refine aops_step1 rfl (st_store (cs' := [_, _, _, _, _, _]) rfl rfl rfl rfl rfl rfl rfl rfl rfl) ?_
  refine aops_step1 rfl (st_assign rfl rfl) ?_
  refine aops_nil ?_
  refine aw_seq ?_
  refine aw_seq ?_
  refine aw_region ?_
  refine aops_step1 rfl (st_move rfl rfl) ?_
  refine aops_step1 rfl (ev_cmp rfl rfl rfl rfl) ?_
  refine aops_nil ?_
  refine aw_cond rfl (fun c6 => ?_) (fun c6 => ?_)
  · replace h := Md.cond_t h c6
    refine aw_seq ?_
    refine aw_region ?_
    refine aops_step1 rfl (st_assign rfl rfl) ?_
    refine aops_nil ?_
    cases Option.some.inj h
    refine aw_ret ⟨rfl, ret_v (.inl ⟨_, rfl, rfl, fun _ e => nomatch e⟩) rfl rfl rfl ?_⟩
    (repeat' (first | exact .refl _ | exact .nil | refine .tup ?_ | refine .v ?_ | refine .cons ?_ ?_ | refine .agg ?_ | refine .one ?_ | exact .nil _ | exact .emp _ | refine .val ?_ | refine .slc ?_ ?_ | fail))
  replace h := Md.cond_f h c6
  refine aw_skip ?_
  refine aw_seq ?_
  refine aw_region ?_
  refine aops_step1 rfl (ev_loads (ds := [_, _, _, _, _, _]) rfl rfl rfl rfl rfl) ?_
  refine aops_step1 rfl (st_move rfl rfl) ?_
  refine aops_step1 rfl (ev_rem rfl rfl rfl (by decide) (Md.rem_u8 a2 (20 : UInt8))) ?_
  refine aops_step1 rfl (st_conv_int rfl rfl Try.underlying5 Try.underlying3 (Md.conv_u8_i64 (a2 % (20 : UInt8)))) ?_
  refine aops_step1 rfl (st_move rfl rfl) ?_
  refine aops_step1 rfl (st_conv_int rfl rfl Try.underlying5 Try.underlying3 (Md.conv_u8_i64 a3)) ?_
  obtain ⟨x7, hx7, h⟩ := Md.bind_s h
  refine aops_step1 rfl (ev_call_v (disk_Arm_fn k x5.1 (((a2 % (20 : UInt8)).toNat : Nat) : Int) ((a3.toNat : Nat) : Int) x7 hx7) rfl [] (by repeat' (first | exact .nil | refine .cons ?_ ?_ | refine .one ?_ | refine .agg ?_ | exact .mk rfl | exact .lend rfl (by simp) | exact .le (.nil _) rfl | exact .le (.emp _) rfl | exact .le (.any _) rfl | fail)) rfl rfl rfl (.inl rfl) rfl) ?_
  refine aops_step1 rfl (st_movet rfl rfl) ?_
  refine aops_step1 rfl (ev_extract rfl rfl rfl) ?_
  refine aops_step1 rfl (ev_extract rfl rfl rfl) ?_
  refine aops_step1 rfl (st_store (cs' := [_, _, _, _, _, _]) rfl rfl rfl rfl rfl rfl rfl rfl rfl) ?_
  refine aops_step1 rfl (st_assign rfl rfl) ?_
  refine aops_nil ?_
  refine aw_seq ?_
  refine aw_seq ?_
  refine aw_region ?_
  refine aops_step1 rfl (st_assign rfl rfl) ?_
  refine aops_nil ?_
  refine aw_block ?_
  obtain ⟨o8, ho8, h⟩ := Md.bind_s h
  refine aw_loop_x (ι := {p : Nat × Int × Nat × Disk // actorgridlaw27_JournalContinues_loop1 k a0 p.1 p.2.1 p.2.2.1 p.2.2.2 = some o8}) (fun p => (⟨126, [], [(0, .one (CV.ls c_LU8 a0)), (1, .one (CV.ls c_LU8 a1)), (9, .one (.ptr 0 0)), (10, vI p.1.2.1), (11, vI ((p.1.2.2.1 : Nat) : Int))], [(0, some (.box (c_Disk p.1.2.2.2)))]⟩ : ASt)) (fun p => p.1.1) ⟨(k, x7.2, 0, x7.1), ho8⟩ (by (refine weak_mk rfl rfl ?_ ?_ rfl <;> repeat' (first | exact trivial | refine ⟨?_, ?_⟩ | exact .refl _ | refine .one (.val ?_) | exact .one (.nil _) | exact .one (.emp _) | refine .box ?_ | refine .agg ?_ | exact .nil | refine .cons ?_ ?_ | exact .nil _ | exact .emp _ | fail))) 0 (ε := Disk) (fun x => (⟨126, [], [(1, .one (CV.ls c_LU8 a1)), (9, .one (.ptr 0 0))], [(0, some (.box [CV.ls byC x.Data, cI x.Capacity, cB x.Armed, cI x.Writes, cI x.Keep, cB x.Down]))]⟩ : ASt)) (fun x => Sum.inl x = o8) (fun _ _ w h => aw_weak w h) ?_ ?_
  · intro x8_0 hI8
    subst hI8
    replace h := Md.onS_l h
    change AW _ _ (⟨126, [], [(1, .one (CV.ls c_LU8 a1)), (9, .one (.ptr 0 0))], [(0, some (.box (c_Disk x8_0)))]⟩ : ASt) _
    refine aw_seq ?_
    refine aw_region ?_
    refine aops_step1 rfl (ev_loads (ds := [_, _, _, _, _, _]) rfl rfl rfl rfl rfl) ?_
    obtain ⟨x9, hx9, h⟩ := Md.bind_s h
    refine aops_step1 rfl (ev_call_v (disk_Restart_fn k x8_0 x9 hx9) rfl [] (by repeat' (first | exact .nil | refine .cons ?_ ?_ | refine .one ?_ | refine .agg ?_ | exact .mk rfl | exact .lend rfl (by simp) | exact .le (.nil _) rfl | exact .le (.emp _) rfl | exact .le (.any _) rfl | fail)) rfl rfl rfl (.inl rfl) rfl) ?_
    refine aops_step1 rfl (st_movet rfl rfl) ?_
    refine aops_step1 rfl (ev_extract rfl rfl rfl) ?_
    refine aops_step1 rfl (ev_extract rfl rfl rfl) ?_
    refine aops_step1 rfl (st_store (cs' := [_, _, _, _, _, _]) rfl rfl rfl rfl rfl rfl rfl rfl rfl) ?_
    refine aops_step1 rfl (st_assign rfl rfl) ?_
    refine aops_nil ?_
    refine aw_seq ?_
    refine aw_seq ?_
    refine aw_region ?_
    refine aops_step1 rfl (st_move rfl rfl) ?_
    refine aops_step1 rfl (ev_cmp rfl rfl rfl rfl) ?_
    refine aops_nil ?_
    refine aw_cond rfl (fun c10 => ?_) (fun c10 => ?_)
    · replace h := Md.cond_t h c10
      refine aw_seq ?_
      refine aw_region ?_
      refine aops_step1 rfl (st_assign rfl rfl) ?_
      refine aops_nil ?_
      cases Option.some.inj h
      refine aw_ret ⟨rfl, ret_v (.inl ⟨_, rfl, rfl, fun _ e => nomatch e⟩) rfl rfl rfl ?_⟩
      (repeat' (first | exact .refl _ | exact .nil | refine .tup ?_ | refine .v ?_ | refine .cons ?_ ?_ | refine .agg ?_ | refine .one ?_ | exact .nil _ | exact .emp _ | refine .val ?_ | refine .slc ?_ ?_ | fail))
    replace h := Md.cond_f h c10
    refine aw_skip ?_
    refine aw_seq ?_
    refine aw_region ?_
    refine aops_step1 rfl (ev_loads (ds := [_, _, _, _, _, _]) rfl rfl rfl rfl rfl) ?_
    obtain ⟨x11, hx11, h⟩ := Md.bind_s h
    refine aops_step1 rfl (st_call_r (r' := .tup [.one (.own 1), .agg (c_Disk x11.2.1), vI x11.2.2]) 1 rfl (journal_Recover_fn k x9.1 x11 hx11) rfl [] (by repeat' (first | exact .nil | refine .cons ?_ ?_ | refine .one ?_ | refine .agg ?_ | exact .mk rfl | exact .lend rfl (by simp) | exact .le (.nil _) rfl | exact .le (.emp _) rfl | exact .le (.any _) rfl | fail)) rfl rfl rfl (.inl rfl) rfl rfl) ?_
    refine aops_step1 rfl (st_movet rfl rfl) ?_
    refine aops_step1 rfl (ev_extract rfl rfl rfl) ?_
    refine aops_step1 rfl (ev_extract rfl rfl rfl) ?_
    refine aops_step1 rfl (ev_extract rfl rfl rfl) ?_
    refine aops_step1 rfl (st_assign rfl rfl) ?_
    refine aops_step1 rfl (st_store (cs' := [_, _, _, _, _, _]) rfl rfl rfl rfl rfl rfl rfl rfl rfl) ?_
    refine aops_step1 rfl (st_assign rfl rfl) ?_
    refine aops_nil ?_
    refine aw_seq ?_
    refine aw_seq ?_
    refine aw_region ?_
    refine aops_step1 rfl (st_move rfl rfl) ?_
    refine aops_step1 rfl (ev_cmp rfl rfl rfl rfl) ?_
    refine aops_nil ?_
    refine aw_cond rfl (fun c12 => ?_) (fun c12 => ?_)
    · replace h := Md.cond_t h c12
      refine aw_seq ?_
      refine aw_region ?_
      refine aops_step1 rfl (st_assign rfl rfl) ?_
      refine aops_nil ?_
      cases Option.some.inj h
      refine aw_ret ⟨rfl, ret_v (.inl ⟨_, rfl, rfl, fun _ e => nomatch e⟩) rfl rfl rfl ?_⟩
      (repeat' (first | exact .refl _ | exact .nil | refine .tup ?_ | refine .v ?_ | refine .cons ?_ ?_ | refine .agg ?_ | refine .one ?_ | exact .nil _ | exact .emp _ | refine .val ?_ | refine .slc ?_ ?_ | fail))
    replace h := Md.cond_f h c12
    refine aw_skip ?_
    refine aw_seq ?_
    refine aw_seq ?_
    refine aw_region ?_
    refine aops_step1 rfl (st_assign rfl rfl) ?_
    refine aops_nil ?_
    refine aw_block ?_
    obtain ⟨o13, ho13, h⟩ := Md.bind_s h
    refine aw_loop_x (ι := {p : Nat × Nat × Disk × (List JournalRecord) // actorgridlaw27_JournalContinues_loop2 k a1 p.1 p.2.1 p.2.2.1 p.2.2.2 = some o13}) (fun p => (⟨126, [], [(1, .one (CV.ls c_LU8 a1)), (9, .one (.ptr 0 0)), (12, .one (.own 1)), (13, vI ((p.1.2.1 : Nat) : Int))], [(0, some (.box (c_Disk p.1.2.2.1))), (1, some (.row 46 2 p.1.2.2.2.length (lsEl c_JournalRecord p.1.2.2.2)))]⟩ : ASt)) (fun p => p.1.1) ⟨(k, 0, x11.2.1, x11.1), ho13⟩ (by (refine weak_mk rfl rfl ?_ ?_ rfl <;> repeat' (first | exact trivial | refine ⟨?_, ?_⟩ | exact .refl _ | refine .one (.val ?_) | exact .one (.nil _) | exact .one (.emp _) | refine .box ?_ | refine .agg ?_ | exact .nil | refine .cons ?_ ?_ | exact .nil _ | exact .emp _ | fail))) 2 (ε := (Disk × (List JournalRecord))) (fun x => (⟨126, [], [(9, .one (.ptr 0 0)), (12, .one (.own 1))], [(0, some (.box (c_Disk x.1))), (1, some (.row 46 2 x.2.length (lsEl c_JournalRecord x.2)))]⟩ : ASt)) (fun x => Sum.inl x = o13) (fun _ _ w h => aw_weak w h) ?_ ?_
    · intro x13_0 hI13
      subst hI13
      replace h := Md.onS_l h
      change AW _ _ (⟨126, [], [(9, .one (.ptr 0 0)), (12, .one (.own 1))], [(0, some (.box (c_Disk x13_0.1))), (1, some (.row 46 2 x13_0.2.length (lsEl c_JournalRecord x13_0.2)))]⟩ : ASt) _
      refine aw_seq ?_
      refine aw_region ?_
      refine aops_step1 rfl (ev_loads (ds := [_, _, _, _, _, _]) rfl rfl rfl rfl rfl) ?_
      obtain ⟨x14, hx14, h⟩ := Md.bind_s h
      refine aops_step1 rfl (st_call_r (r' := .tup [.one (.own 2), .agg (c_Disk x14.2.1), vI x14.2.2]) 2 rfl (journal_Recover_fn k x13_0.1 x14 hx14) rfl [] (by repeat' (first | exact .nil | refine .cons ?_ ?_ | refine .one ?_ | refine .agg ?_ | exact .mk rfl | exact .lend rfl (by simp) | exact .le (.nil _) rfl | exact .le (.emp _) rfl | exact .le (.any _) rfl | fail)) rfl rfl rfl (.inl rfl) rfl rfl) ?_
      refine aops_step1 rfl (st_movet rfl rfl) ?_
      refine aops_step1 rfl (ev_extract rfl rfl rfl) ?_
      refine aops_step1 rfl (ev_extract rfl rfl rfl) ?_
      refine aops_step1 rfl (ev_extract rfl rfl rfl) ?_
      refine aops_step1 rfl (st_alloc (cs := [.val (.slice none 0 0), cI 0, cB false, cI 0, cI 0, cB false]) 3 rfl rfl rfl rfl rfl) ?_
      refine aops_step1 rfl (st_assign rfl rfl) ?_
      refine aops_step1 rfl (st_store (cs' := [_, _, _, _, _, _]) rfl rfl rfl rfl rfl rfl rfl rfl rfl) ?_
      refine aops_step1 rfl (st_assign rfl rfl) ?_
      refine aops_nil ?_
      refine aw_seq ?_
      refine aw_region ?_
      refine aops_step1 rfl (st_move rfl rfl) ?_
      refine aops_step1 rfl (ev_cmp rfl rfl rfl rfl) ?_
      refine aops_step1 rfl (st_move rfl rfl) ?_
      obtain ⟨o15, j15, h⟩ := Md.bind_s h
      refine aops_cut 4 (ε := Bool) (fun x15 => (⟨126, [], [(125, vB x15)], []⟩ : ASt)) (fun x15 => x15 = o15) ?_ ?_
      · intro x15 hI15
        subst hI15
        change AOps _ _ _ (⟨126, [], [(125, vB x15)], []⟩ : ASt) _
        refine aops_step1 rfl (st_assign rfl rfl) ?_
        refine aops_nil ?_
        cases Option.some.inj h
        refine aw_ret ⟨rfl, ret_v (.inl ⟨_, rfl, rfl, fun _ e => nomatch e⟩) rfl rfl rfl ?_⟩
        (repeat' (first | exact .refl _ | exact .nil | refine .tup ?_ | refine .v ?_ | refine .cons ?_ ?_ | refine .agg ?_ | refine .one ?_ | exact .nil _ | exact .emp _ | refine .val ?_ | refine .slc ?_ ?_ | fail))
      rcases Md.bool_or ((x14.2.2 == 0)) with q15 | q15
      · replace j15 := Md.cond_t j15 q15
        refine aops_yes rfl rfl rfl rfl q15 (st_move rfl rfl) ?_
        refine aops_yes rfl rfl rfl rfl q15 (st_move rfl rfl) ?_
        obtain ⟨x16, hx16, j15⟩ := Md.bind_s j15
        refine aops_yes rfl rfl rfl rfl q15 (ev_call_v (actorgridref26_SameRecords_fn k x14.1 x13_0.2 x16 hx16) rfl [2, 1] (by repeat' (first | exact .nil | refine .cons ?_ ?_ | refine .one ?_ | refine .agg ?_ | exact .mk rfl | exact .lend rfl (by simp) | exact .le (.nil _) rfl | exact .le (.emp _) rfl | exact .le (.any _) rfl | fail)) rfl rfl rfl (.inr rfl) rfl) ?_
        refine aops_step1 rfl (st_pick_yes rfl (by first | rfl | exact q15) rfl rfl) ?_
        refine aops_nil ?_
        show ∃ _x : Bool, _ = _ ∧ Weak _ _
        exact ⟨x16, Option.some.inj j15, (by (refine weak_mk rfl rfl ?_ ?_ rfl <;> repeat' (first | exact trivial | refine ⟨?_, ?_⟩ | exact .refl _ | refine .one (.val ?_) | exact .one (.nil _) | exact .one (.emp _) | refine .box ?_ | refine .agg ?_ | exact .nil | refine .cons ?_ ?_ | exact .nil _ | exact .emp _ | fail)))⟩
      replace j15 := Md.cond_f j15 q15
      refine aops_no rfl rfl rfl rfl rfl (by first | decide | (rw [q15]; decide)) ?_
      refine aops_no rfl rfl rfl rfl rfl (by first | decide | (rw [q15]; decide)) ?_
      refine aops_no rfl rfl rfl rfl rfl (by first | decide | (rw [q15]; decide)) ?_
      refine aops_step1 rfl (st_pick_no rfl (by first | rfl | exact q15) rfl rfl) ?_
      refine aops_nil ?_
      show ∃ _x : Bool, _ = _ ∧ Weak _ _
      exact ⟨false, Option.some.inj j15, (by (refine weak_mk rfl rfl ?_ ?_ rfl <;> repeat' (first | exact trivial | refine ⟨?_, ?_⟩ | exact .refl _ | refine .one (.val ?_) | exact .one (.nil _) | exact .one (.emp _) | refine .box ?_ | refine .agg ?_ | exact .nil | refine .cons ?_ ?_ | exact .nil _ | exact .emp _ | fail)))⟩
    intro p13
    obtain ⟨⟨n13, s13_0, s13_1, s13_2⟩, l13⟩ := p13
    change AW _ _ (⟨126, [], [(1, .one (CV.ls c_LU8 a1)), (9, .one (.ptr 0 0)), (12, .one (.own 1)), (13, vI ((s13_0 : Nat) : Int))], [(0, some (.box (c_Disk s13_1))), (1, some (.row 46 2 s13_2.length (lsEl c_JournalRecord s13_2)))]⟩ : ASt) _
    replace l13 : actorgridlaw27_JournalContinues_loop2 k a1 n13 s13_0 s13_1 s13_2 = some o13 := l13
    rcases n13 with _ | n13
    · exact absurd (show none = some o13 from l13) nofun
    rw [actorgridlaw27_JournalContinues_loop2] at l13
    refine aw_seq ?_
    refine aw_seq ?_
    refine aw_region ?_
    refine aops_step1 rfl (st_move rfl rfl) ?_
    refine aops_step1 rfl (st_move rfl rfl) ?_
    refine aops_step1 rfl (ev_len_slc rfl rfl) ?_
    refine aops_step1 rfl (ev_cmp rfl rfl rfl rfl) ?_
    refine aops_nil ?_
    refine aw_cond rfl (fun c17 => ?_) (fun c17 => ?_)
    · replace l13 := Md.cond_t l13 c17
      refine aw_skip ?_
      refine aw_seq ?_
      refine aw_block ?_
      refine aw_seq ?_
      refine aw_seq ?_
      refine aw_region ?_
      refine aops_step1 rfl (st_move rfl rfl) ?_
      refine aops_step1 rfl (st_move rfl rfl) ?_
      obtain ⟨g18, l13⟩ := Md.ifp_s l13
      refine aops_step1 rfl (ev_index_in rfl rfl rfl g18 rfl rfl) ?_
      refine aops_step1 rfl (ev_load_in rfl rfl rfl) ?_
      refine aops_step1 rfl (ev_len_slc rfl rfl) ?_
      refine aops_step1 rfl (ev_cmp rfl rfl rfl rfl) ?_
      refine aops_nil ?_
      refine aw_cond rfl (fun c19 => ?_) (fun c19 => ?_)
      · replace l13 := Md.cond_t l13 c19
        refine aw_seq ?_
        refine aw_region ?_
        refine aops_step1 rfl (st_assign rfl rfl) ?_
        refine aops_nil ?_
        cases Option.some.inj l13
        replace h := Md.onS_r h
        cases Option.some.inj h
        refine aw_ret ⟨rfl, ret_v (.inl ⟨_, rfl, rfl, fun _ e => nomatch e⟩) rfl rfl rfl ?_⟩
        (repeat' (first | exact .refl _ | exact .nil | refine .tup ?_ | refine .v ?_ | refine .cons ?_ ?_ | refine .agg ?_ | refine .one ?_ | exact .nil _ | exact .emp _ | refine .val ?_ | refine .slc ?_ ?_ | fail))
      replace l13 := Md.cond_f l13 c19
      refine aw_skip ?_
      refine aw_seq ?_
      refine aw_region ?_
      refine aops_step1 rfl (st_move rfl rfl) ?_
      refine aops_step1 rfl (st_move rfl rfl) ?_
      obtain ⟨g20, l13⟩ := Md.ifp_s l13
      refine aops_step1 rfl (ev_index_in rfl rfl rfl g20 rfl rfl) ?_
      refine aops_step1 rfl (ev_load_in rfl rfl rfl) ?_
      refine aops_step1 rfl (ev_build' (out := [_, _]) rfl rfl rfl rfl rfl) ?_
      refine aops_step1 rfl (st_alloc (cs := [cI 0, .val (.slice none 0 0)]) 2 rfl rfl rfl rfl rfl) ?_
      refine aops_step1 rfl (st_store (cs' := [_, _]) rfl rfl rfl rfl rfl rfl rfl rfl rfl) ?_
      refine aops_nil ?_
      refine aw_seq ?_
      refine aw_region ?_
      refine aops_step1 rfl (ev_loads (ds := [_, _, _, _, _, _]) rfl rfl rfl rfl rfl) ?_
      refine aops_step1 rfl (ev_loads (ds := [_, _]) rfl rfl rfl rfl rfl) ?_
      obtain ⟨x21, hx21, l13⟩ := Md.bind_s l13
      refine aops_step1 rfl (ev_call_v (journal_Append_fn k s13_1 (⟨2, (a1.getD s13_0 default)⟩ : JournalRecord) x21 hx21) rfl [] (by repeat' (first | exact .nil | refine .cons ?_ ?_ | refine .one ?_ | refine .agg ?_ | exact .mk rfl | exact .lend rfl (by simp) | exact .le (.nil _) rfl | exact .le (.emp _) rfl | exact .le (.any _) rfl | fail)) rfl rfl rfl (.inl rfl) rfl) ?_
      refine aops_step1 rfl (st_movet rfl rfl) ?_
      refine aops_step1 rfl (ev_extract rfl rfl rfl) ?_
      refine aops_step1 rfl (ev_extract rfl rfl rfl) ?_
      refine aops_step1 rfl (st_store (cs' := [_, _, _, _, _, _]) rfl rfl rfl rfl rfl rfl rfl rfl rfl) ?_
      refine aops_step1 rfl (st_assign rfl rfl) ?_
      refine aops_nil ?_
      refine aw_seq ?_
      refine aw_seq ?_
      refine aw_region ?_
      refine aops_step1 rfl (st_move rfl rfl) ?_
      refine aops_step1 rfl (ev_cmp rfl rfl rfl rfl) ?_
      refine aops_nil ?_
      refine aw_cond rfl (fun c22 => ?_) (fun c22 => ?_)
      · replace l13 := Md.cond_t l13 c22
        refine aw_seq ?_
        refine aw_region ?_
        refine aops_step1 rfl (st_assign rfl rfl) ?_
        refine aops_nil ?_
        cases Option.some.inj l13
        replace h := Md.onS_r h
        cases Option.some.inj h
        refine aw_ret ⟨rfl, ret_v (.inl ⟨_, rfl, rfl, fun _ e => nomatch e⟩) rfl rfl rfl ?_⟩
        (repeat' (first | exact .refl _ | exact .nil | refine .tup ?_ | refine .v ?_ | refine .cons ?_ ?_ | refine .agg ?_ | refine .one ?_ | exact .nil _ | exact .emp _ | refine .val ?_ | refine .slc ?_ ?_ | fail))
      replace l13 := Md.cond_f l13 c22
      refine aw_skip ?_
      refine aw_region ?_
      refine aops_step1 rfl (st_move rfl rfl) ?_
      refine aops_step1 rfl (ev_loads (ds := [_, _]) rfl rfl rfl rfl rfl) ?_
      refine aops_step1 rfl (st_slice_lit (el := lsEl c_JournalRecord [(⟨2, (a1.getD s13_0 default)⟩ : JournalRecord)]) 3 rfl rfl rfl rfl rfl rfl rfl rfl (lit_el c_JournalRecord 2 [(⟨2, (a1.getD s13_0 default)⟩ : JournalRecord)] (fun _ => rfl)) rfl) ?_
      obtain ⟨g23, l13⟩ := Md.ifp_s l13
      refine aops_step1 rfl (st_app_ls (f := c_JournalRecord) s13_2 [(⟨2, (a1.getD s13_0 default)⟩ : JournalRecord)] (fun _ => rfl) rfl rfl (.inr ⟨_, _, rfl, rfl⟩) (by omega) (by omega) rfl) ?_
      refine aops_step1 rfl (st_assign rfl rfl) ?_
      refine aops_nil ?_
      refine aw_region ?_
      refine aops_step1 rfl (st_move rfl rfl) ?_
      obtain ⟨g24, l13⟩ := Md.ifp_s l13
      refine aops_step1 rfl (ev_add rfl rfl rfl (Md.nat_add g24)) ?_
      refine aops_step1 rfl (st_assign rfl rfl) ?_
      refine aops_nil ?_
      exact ⟨⟨(n13, (s13_0 + 1), x21.1, (s13_2 ++ [(⟨2, (a1.getD s13_0 default)⟩ : JournalRecord)])), l13⟩, Nat.lt_succ_self _, (by (refine weak_mk rfl rfl ?_ ?_ rfl <;> repeat' (first | exact trivial | refine ⟨?_, ?_⟩ | exact .refl _ | refine .one (.val ?_) | exact .one (.nil _) | exact .one (.emp _) | refine .box ?_ | refine .agg ?_ | exact .nil | refine .cons ?_ ?_ | exact .nil _ | exact .emp _ | fail)))⟩
    replace l13 := Md.cond_f l13 c17
    refine aw_exit ?_
    show ∃ _x : Disk × (List JournalRecord), _ = _ ∧ Weak _ _
    exact ⟨(s13_1, s13_2), Option.some.inj l13, (by (refine weak_mk rfl rfl ?_ ?_ rfl <;> repeat' (first | exact trivial | refine ⟨?_, ?_⟩ | exact .refl _ | refine .one (.val ?_) | exact .one (.nil _) | exact .one (.emp _) | refine .box ?_ | refine .agg ?_ | exact .nil | refine .cons ?_ ?_ | exact .nil _ | exact .emp _ | fail)))⟩
  intro p8
  obtain ⟨⟨n8, s8_0, s8_1, s8_2⟩, l8⟩ := p8
  change AW _ _ (⟨126, [], [(0, .one (CV.ls c_LU8 a0)), (1, .one (CV.ls c_LU8 a1)), (9, .one (.ptr 0 0)), (10, vI s8_0), (11, vI ((s8_1 : Nat) : Int))], [(0, some (.box (c_Disk s8_2)))]⟩ : ASt) _
  replace l8 : actorgridlaw27_JournalContinues_loop1 k a0 n8 s8_0 s8_1 s8_2 = some o8 := l8
  rcases n8 with _ | n8
  · exact absurd (show none = some o8 from l8) nofun
  rw [actorgridlaw27_JournalContinues_loop1] at l8
  refine aw_seq ?_
  refine aw_seq ?_
  refine aw_region ?_
  refine aops_step1 rfl (st_move rfl rfl) ?_
  refine aops_step1 rfl (st_move rfl rfl) ?_
  refine aops_step1 rfl (ev_len_slc rfl rfl) ?_
  refine aops_step1 rfl (ev_cmp rfl rfl rfl rfl) ?_
  refine aops_step1 rfl (st_move rfl rfl) ?_
  refine aops_mid 3 (⟨126, [], [(0, .one (CV.ls c_LU8 a0)), (1, .one (CV.ls c_LU8 a1)), (9, .one (.ptr 0 0)), (11, vI ((s8_1 : Nat) : Int)), (50, vB ((decide (((s8_1 : Nat) : Int) < ((a0.length : Nat) : Int))) && (s8_0 != 23)))], [(0, some (.box (c_Disk s8_2)))]⟩ : ASt) ?_ ?_
  · rcases Md.bool_or ((decide (((s8_1 : Nat) : Int) < ((a0.length : Nat) : Int)))) with q25 | q25
    · skip
      refine aops_yes rfl rfl rfl rfl q25 (st_move rfl rfl) ?_
      refine aops_yes rfl rfl rfl rfl q25 (ev_cmp rfl rfl rfl rfl) ?_
      refine aops_step1 rfl (st_pick_yes rfl (by first | rfl | exact q25) rfl rfl) ?_
      refine aops_nil ?_
      show Weak _ _
      (refine weak_mk rfl rfl ?_ ?_ rfl <;> repeat' (first | exact trivial | refine ⟨?_, ?_⟩ | exact .refl _ | refine .one (.val ?_) | exact .one (.nil _) | exact .one (.emp _) | refine .box ?_ | refine .agg ?_ | exact .nil | refine .cons ?_ ?_ | exact .nil _ | exact .emp _ | fail)) <;> (first | (rw [q25]; done) | (rw [q25]; rfl) | (simp [q25]; done))
    refine aops_no rfl rfl rfl rfl rfl (by first | decide | (rw [q25]; decide)) ?_
    refine aops_no rfl rfl rfl rfl rfl (by first | decide | (rw [q25]; decide)) ?_
    refine aops_step1 rfl (st_pick_no rfl (by first | rfl | exact q25) rfl rfl) ?_
    refine aops_nil ?_
    show Weak _ _
    (refine weak_mk rfl rfl ?_ ?_ rfl <;> repeat' (first | exact trivial | refine ⟨?_, ?_⟩ | exact .refl _ | refine .one (.val ?_) | exact .one (.nil _) | exact .one (.emp _) | refine .box ?_ | refine .agg ?_ | exact .nil | refine .cons ?_ ?_ | exact .nil _ | exact .emp _ | fail)) <;> (first | (rw [q25]; done) | (rw [q25]; rfl) | (simp [q25]; done))
  change AOps _ _ _ (⟨126, [], [(0, .one (CV.ls c_LU8 a0)), (1, .one (CV.ls c_LU8 a1)), (9, .one (.ptr 0 0)), (11, vI ((s8_1 : Nat) : Int)), (50, vB ((decide (((s8_1 : Nat) : Int) < ((a0.length : Nat) : Int))) && (s8_0 != 23)))], [(0, some (.box (c_Disk s8_2)))]⟩ : ASt) _
  refine aops_nil ?_
  refine aw_cond rfl (fun c26 => ?_) (fun c26 => ?_)
  · replace l8 := Md.cond_t l8 c26
    refine aw_skip ?_
    obtain ⟨o27, j27, l8⟩ := Md.bind_s l8
    refine aw_cut (ε := (Int × Disk)) (fun x => (⟨126, [], [(0, .one (CV.ls c_LU8 a0)), (1, .one (CV.ls c_LU8 a1)), (9, .one (.ptr 0 0)), (10, vI x.1), (11, vI ((s8_1 : Nat) : Int))], [(0, some (.box (c_Disk x.2)))]⟩ : ASt)) (fun x => Sum.inl x = o27) ?_ ?_
    · intro x27_0 hI27
      subst hI27
      replace l8 := Md.onS_l l8
      change AW _ _ (⟨126, [], [(0, .one (CV.ls c_LU8 a0)), (1, .one (CV.ls c_LU8 a1)), (9, .one (.ptr 0 0)), (10, vI x27_0.1), (11, vI ((s8_1 : Nat) : Int))], [(0, some (.box (c_Disk x27_0.2)))]⟩ : ASt) _
      refine aw_region ?_
      refine aops_step1 rfl (st_move rfl rfl) ?_
      obtain ⟨g28, l8⟩ := Md.ifp_s l8
      refine aops_step1 rfl (ev_add rfl rfl rfl (Md.nat_add g28)) ?_
      refine aops_step1 rfl (st_assign rfl rfl) ?_
      refine aops_nil ?_
      exact ⟨⟨(n8, x27_0.1, (s8_1 + 1), x27_0.2), l8⟩, Nat.lt_succ_self _, (by (refine weak_mk rfl rfl ?_ ?_ rfl <;> repeat' (first | exact trivial | refine ⟨?_, ?_⟩ | exact .refl _ | refine .one (.val ?_) | exact .one (.nil _) | exact .one (.emp _) | refine .box ?_ | refine .agg ?_ | exact .nil | refine .cons ?_ ?_ | exact .nil _ | exact .emp _ | fail)))⟩
    refine aw_block ?_
    refine aw_seq ?_
    refine aw_seq ?_
    refine aw_region ?_
    refine aops_step1 rfl (st_move rfl rfl) ?_
    refine aops_step1 rfl (st_move rfl rfl) ?_
    obtain ⟨g29, j27⟩ := Md.ifp_s j27
    refine aops_step1 rfl (ev_index_in rfl rfl rfl g29 rfl rfl) ?_
    refine aops_step1 rfl (ev_load_in rfl rfl rfl) ?_
    refine aops_step1 rfl (ev_len_slc rfl rfl) ?_
    refine aops_step1 rfl (ev_cmp rfl rfl rfl rfl) ?_
    refine aops_nil ?_
    refine aw_cond rfl (fun c30 => ?_) (fun c30 => ?_)
    · replace j27 := Md.cond_t j27 c30
      refine aw_seq ?_
      refine aw_region ?_
      refine aops_step1 rfl (st_assign rfl rfl) ?_
      refine aops_nil ?_
      cases Option.some.inj j27
      replace l8 := Md.onS_r l8
      cases Option.some.inj l8
      replace h := Md.onS_r h
      cases Option.some.inj h
      refine aw_ret ⟨rfl, ret_v (.inl ⟨_, rfl, rfl, fun _ e => nomatch e⟩) rfl rfl rfl ?_⟩
      (repeat' (first | exact .refl _ | exact .nil | refine .tup ?_ | refine .v ?_ | refine .cons ?_ ?_ | refine .agg ?_ | refine .one ?_ | exact .nil _ | exact .emp _ | refine .val ?_ | refine .slc ?_ ?_ | fail))
    replace j27 := Md.cond_f j27 c30
    refine aw_skip ?_
    obtain ⟨g31, j27⟩ := Md.ifp_s j27
    obtain ⟨x32, hx32, j27⟩ := Md.bind_s j27
    apply aw_late 10 9 ((⟨[], .agg (c_Disk s8_2)⟩ : Add) :: ⟨[], .one (CV.ls c_LU8 a0)⟩ :: ⟨[], vI ((s8_1 : Nat) : Int)⟩ :: ⟨[], .one (.cptr _)⟩ :: ⟨[], .one (CV.ls byC (a0.getD s8_1 default))⟩ :: ⟨[], .agg [cI 1, CV.ls byC (a0.getD s8_1 default)]⟩ :: ⟨[], .tup [.agg (c_Disk x32.1), vI x32.2]⟩ :: ⟨[], .tup [.agg (c_Disk x32.1), vI x32.2]⟩ :: ⟨[], .agg (c_Disk x32.1)⟩ :: ⟨[], vI x32.2⟩ :: []) (by decide) (by decide) rfl rfl rfl ?hk6x ?hf6x ?ho6x ?hr6x ?hl6x
    case ho6x =>
     refine ⟨⟨[], (by decide +kernel), fun S hle hfr => ?_⟩, ?_⟩
     · exact .inl ⟨.inl ⟨rfl, rfl⟩, ev_loads (ds := [_, _, _, _, _, _]) (hle.e rfl) (hle.heap _ _ rfl) rfl rfl (hle.d rfl)⟩
     refine ⟨⟨[], (by decide +kernel), fun S hle hfr => ?_⟩, ?_⟩
     · exact .inl ⟨.inl ⟨rfl, rfl⟩, st_move (hle.e rfl) (hle.d rfl)⟩
     refine ⟨⟨[], (by decide +kernel), fun S hle hfr => ?_⟩, ?_⟩
     · exact .inl ⟨.inl ⟨rfl, rfl⟩, st_move (hle.e rfl) (hle.d rfl)⟩
     refine ⟨⟨1 :: 2 :: [], (by decide +kernel), fun S hle hfr => ?_⟩, ?_⟩
     · exact .inl ⟨.inl ⟨rfl, rfl⟩, ev_index_in (hle.e rfl) (hle.e rfl) rfl g31 rfl (hle.d rfl)⟩
     refine ⟨⟨3 :: 1 :: 2 :: [], (by decide +kernel), fun S hle hfr => ?_⟩, ?_⟩
     · exact .inl ⟨.inl ⟨rfl, rfl⟩, ev_load_in (hle.e rfl) rfl (hle.d rfl)⟩
     refine ⟨⟨4 :: 3 :: 1 :: 2 :: [], (by decide +kernel), fun S hle hfr => ?_⟩, ?_⟩
     · exact .inl ⟨.inl ⟨rfl, rfl⟩, ev_build' (out := [_, _]) (map_ev2 (.cons (hle.e rfl) (.cons (hle.e rfl) (.nil)))) rfl rfl rfl (hle.d rfl)⟩
     refine ⟨⟨0 :: 5 :: 4 :: 3 :: 1 :: 2 :: [], (by decide +kernel), fun S hle hfr => ?_⟩, ?_⟩
     · exact .inl ⟨.inl ⟨rfl, rfl⟩, ev_call_v (journal_Append_fn k s8_2 (⟨1, (a0.getD s8_1 default)⟩ : JournalRecord) x32 hx32) (map_ev (.cons (hle.e rfl) (.cons (hle.e rfl) (.nil)))) [] (by repeat' (first | exact .nil | refine .cons ?_ ?_ | refine .one ?_ | refine .agg ?_ | exact .mk rfl | exact .lend (hle.heap _ _ rfl) (by simp) | exact .le (.nil _) rfl | exact .le (.emp _) rfl | exact .le (.any _) rfl | fail)) rfl rfl rfl (.inl rfl) (hle.d rfl)⟩
     refine ⟨⟨6 :: 0 :: 5 :: 4 :: 3 :: 1 :: 2 :: [], (by decide +kernel), fun S hle hfr => ?_⟩, ?_⟩
     · exact .inl ⟨.inl ⟨rfl, rfl⟩, st_movet (hle.e rfl) (hle.d rfl)⟩
     refine ⟨⟨7 :: 6 :: 0 :: 5 :: 4 :: 3 :: 1 :: 2 :: [], (by decide +kernel), fun S hle hfr => ?_⟩, ?_⟩
     · exact .inl ⟨.inl ⟨rfl, rfl⟩, ev_extract (hle.e rfl) rfl (hle.d rfl)⟩
     refine ⟨⟨7 :: 6 :: 0 :: 5 :: 4 :: 3 :: 1 :: 2 :: [], (by decide +kernel), fun S hle hfr => ?_⟩, ?_⟩
     · exact .inl ⟨.inl ⟨rfl, rfl⟩, ev_extract (hle.e rfl) rfl (hle.d rfl)⟩
     exact trivial
    case hk6x => rfl
    case hf6x => rfl
    case hr6x =>
     refine aops_step1 rfl (st_store (cs' := [_, _, _, _, _, _]) rfl rfl rfl rfl rfl rfl rfl rfl rfl) ?_
     refine aops_step1 rfl (st_assign rfl rfl) ?_
     refine aops_nil ?_
     show ∃ _x : Int × Disk, _ = _ ∧ Weak _ _
     exact ⟨(x32.2, x32.1), Option.some.inj j27, (by (refine weak_mk rfl rfl ?_ ?_ rfl <;> repeat' (first | exact trivial | refine ⟨?_, ?_⟩ | exact .refl _ | refine .one (.val ?_) | exact .one (.nil _) | exact .one (.emp _) | refine .box ?_ | refine .agg ?_ | exact .nil | refine .cons ?_ ?_ | exact .nil _ | exact .emp _ | fail)))⟩
    case hl6x =>
     refine aops_step1 rfl (st_store (cs' := [_, _, _, _, _, _]) rfl rfl rfl rfl rfl rfl rfl rfl rfl) ?_
     refine aops_step1 rfl (ev_extract rfl rfl rfl) ?_
     refine aops_step1 rfl (st_assign rfl rfl) ?_
     refine aops_nil ?_
     show ∃ _x : Int × Disk, _ = _ ∧ Weak _ _
     exact ⟨(x32.2, x32.1), Option.some.inj j27, (by (refine weak_mk rfl rfl ?_ ?_ rfl <;> repeat' (first | exact trivial | refine ⟨?_, ?_⟩ | exact .refl _ | refine .one (.val ?_) | exact .one (.nil _) | exact .one (.emp _) | refine .box ?_ | refine .agg ?_ | exact .nil | refine .cons ?_ ?_ | exact .nil _ | exact .emp _ | fail)))⟩
  replace l8 := Md.cond_f l8 c26
  refine aw_exit ?_
  show ∃ _x : Disk, _ = _ ∧ Weak _ _
  exact ⟨s8_2, Option.some.inj l8, (by (refine weak_mk rfl rfl ?_ ?_ rfl <;> repeat' (first | exact trivial | refine ⟨?_, ?_⟩ | exact .refl _ | refine .one (.val ?_) | exact .one (.nil _) | exact .one (.emp _) | refine .box ?_ | refine .agg ?_ | exact .nil | refine .cons ?_ ?_ | exact .nil _ | exact .emp _ | fail)))⟩
end Md
end Go.Proofs.Ytkcfkcgclljncaa
