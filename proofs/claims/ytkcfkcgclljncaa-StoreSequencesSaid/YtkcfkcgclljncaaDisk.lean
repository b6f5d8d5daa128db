/-
  Disk: where a function's model gives a value, the function returns what reads as it (printed by wip/tools/auto.py). Condition of each: the model gives a value.
-/
import Derived.Test.YtkcfkcgclljncaaDiskM
import Derived.Test.YtkcfkcgclljncaaTy
import Derived.Test.YtkcfkcgclljncaaAbsS
import Derived.Test.YtkcfkcgclljncaaConcat
namespace Go.Proofs.Ytkcfkcgclljncaa
open Go.ChangeShapes Go.WideShapes Go.RowKit
open Abs
set_option linter.unusedVariables false
set_option linter.unusedSimpArgs false
set_option maxRecDepth 10000
namespace Md
def c_Disk (x : Disk) : List CV := [CV.ls byC x.Data, cI x.Capacity, cB x.Armed, cI x.Writes, cI x.Keep, cB x.Down]
set_option maxHeartbeats 2000000 in
theorem disk_Valid_fn (k : Nat) (a0 : Disk) (r : Bool) (h : disk_Valid k a0 = some r) : FnC Try.prog 21 [.agg (c_Disk a0)] [] (Det (vB r) []) := by
  unfold disk_Valid at h
  refine fn_intro' 36 Try.func21 rfl rfl rfl (aw_seq (aw_region (aops_step1 rfl (st_box 0 rfl rfl rfl rfl) (s_sa ?_))))
  refine aops_nil (aw_seq (aw_block (aw_seq (aw_seq (aw_region (s_fd ?_))))))
  refine s_ld ?_
  refine s_cm ?_
  refine s_sa ?_
  refine aops_nil ?_
  refine aw_cond rfl (fun c1 => ?_) (fun c1 => ?_)
  · replace h := Md.cond_t h c1
    refine aw_skip (aw_yes rfl (c1) (aw_seq (aw_region (s_sa ?_))))
    refine aops_nil ?_
    cases Option.some.inj h
    exact aw_ret ⟨rfl, rv r1⟩
  replace h := Md.cond_f h c1
  refine aw_seq (aw_region (s_fd ?_))
  refine s_ld ?_
  refine s_cm ?_
  refine s_sa ?_
  refine aops_nil ?_
  refine aw_cond rfl (fun c2 => ?_) (fun c2 => ?_)
  · replace h := Md.cond_t h c2
    refine aw_skip (aw_yes rfl (c2) (aw_seq (aw_region (s_sa ?_))))
    refine aops_nil ?_
    cases Option.some.inj h
    exact aw_ret ⟨rfl, rv r1⟩
  replace h := Md.cond_f h c2
  refine aw_seq (aw_region (s_fd ?_))
  refine s_ld ?_
  refine s_ln ?_
  refine s_fd ?_
  refine s_ld ?_
  refine s_cm ?_
  refine s_sa ?_
  refine aops_nil ?_
  refine aw_cond rfl (fun c3 => ?_) (fun c3 => ?_)
  · replace h := Md.cond_t h c3
    refine aw_skip (aw_yes rfl (c3) (aw_seq (aw_region (s_sa ?_))))
    refine aops_nil ?_
    cases Option.some.inj h
    exact aw_ret ⟨rfl, rv r1⟩
  replace h := Md.cond_f h c3
  refine aw_seq (aw_region (s_fd ?_))
  refine s_ld ?_
  refine s_cm ?_
  refine s_sa ?_
  refine aops_nil ?_
  refine aw_cond rfl (fun c4 => ?_) (fun c4 => ?_)
  · replace h := Md.cond_t h c4
    refine aw_skip (aw_yes rfl (c4) (aw_seq (aw_region (s_sa ?_))))
    refine aops_nil ?_
    cases Option.some.inj h
    exact aw_ret ⟨rfl, rv r1⟩
  replace h := Md.cond_f h c4
  refine aw_region (s_fd ?_)
  refine s_ld ?_
  refine s_cm ?_
  refine s_sa ?_
  refine aops_nil ?_
  refine aw_cond rfl (fun c5 => ?_) (fun c5 => ?_)
  · replace h := Md.cond_t h c5
    refine aw_seq (aw_region (s_sa ?_))
    refine aops_nil ?_
    cases Option.some.inj h
    exact aw_ret ⟨rfl, rv r1⟩
  replace h := Md.cond_f h c5
  refine aw_seq (aw_region (s_fd ?_))
  refine s_ld ?_
  refine s_sa ?_
  refine aops_nil ?_
  refine aw_cond rfl (fun c6 => ?_) (fun c6 => ?_)
  · replace h := Md.cond_t h c6
    refine aw_seq (aw_region (s_fd ?_))
    refine s_ld ?_
    refine s_nt ?_
    refine s_sa ?_
    refine aops_nil ?_
    cases Option.some.inj h
    exact aw_ret ⟨rfl, rv r1⟩
  replace h := Md.cond_f h c6
  refine aw_skip (aw_seq (aw_region (s_fd ?_)))
  refine s_ld ?_
  refine s_cm ?_
  refine s_mv ?_
  refine aops_mid 4 (⟨36, [], [(2, vB false), (35, vB ((a0.Writes == 0) && (a0.Keep == 0)))], []⟩ : ASt) ?_ ?_
  · rcases Md.bool_or ((a0.Writes == 0)) with q7 | q7
    · skip
      refine y_fd q7 ?_
      refine y_ld q7 ?_
      refine y_cm q7 ?_
      refine s_py q7 ?_
      refine aops_nil ?_
      exact wq q7
    iterate 3 refine np q7 ?_
    refine s_pn q7 ?_
    refine aops_nil ?_
    exact wq q7
  refine s_sa ?_
  refine aops_nil ?_
  cases Option.some.inj h
  exact aw_ret ⟨rfl, rv r1⟩
set_option maxHeartbeats 2000000 in
theorem actorgridref26_ValidDisk_fn (k : Nat) (a0 : Disk) (r : Bool) (h : actorgridref26_ValidDisk k a0 = some r) : FnC Try.prog 22 [.agg (c_Disk a0)] [] (Det (vB r) []) := by
  unfold actorgridref26_ValidDisk at h
  refine fn_intro' 51 Try.func22 rfl rfl rfl (aw_seq (aw_region (aops_step1 rfl (st_box 0 rfl rfl rfl rfl) (s_sa ?_))))
  refine aops_nil (aw_seq (aw_seq (aw_region (s_fd ?_))))
  refine s_ld ?_
  refine s_cm ?_
  refine s_mv ?_
  refine aops_mid 4 (⟨51, [], [(1, .one (.ptr 0 0)), (10, vB ((decide (a0.Capacity < 0)) || (decide (a0.Capacity > 1048576))))], [(0, some (.box (c_Disk a0)))]⟩ : ASt) ?_ ?_
  · rcases Md.bool_or ((decide (a0.Capacity < 0))) with q1 | q1
    · skip
      iterate 3 refine np q1 ?_
      refine s_py q1 ?_
      refine aops_nil ?_
      exact wq q1
    refine y_fd q1 ?_
    refine y_ld q1 ?_
    refine y_cm q1 ?_
    refine s_pn q1 ?_
    refine aops_nil ?_
    exact wq q1
  refine s_mv ?_
  refine aops_mid 7 (⟨51, [], [(1, .one (.ptr 0 0)), (18, vB (((decide (a0.Capacity < 0)) || (decide (a0.Capacity > 1048576))) || (decide (((a0.Data.length : Nat) : Int) > a0.Capacity))))], [(0, some (.box (c_Disk a0)))]⟩ : ASt) ?_ ?_
  · rcases Md.bool_or (((decide (a0.Capacity < 0)) || (decide (a0.Capacity > 1048576)))) with q2 | q2
    · skip
      iterate 6 refine np q2 ?_
      refine s_py q2 ?_
      refine aops_nil ?_
      exact wq q2
    refine y_fd q2 ?_
    refine y_ld q2 ?_
    refine y_ln q2 ?_
    refine y_fd q2 ?_
    refine y_ld q2 ?_
    refine y_cm q2 ?_
    refine s_pn q2 ?_
    refine aops_nil ?_
    exact wq q2
  refine s_mv ?_
  refine aops_mid 4 (⟨51, [], [(1, .one (.ptr 0 0)), (23, vB ((((decide (a0.Capacity < 0)) || (decide (a0.Capacity > 1048576))) || (decide (((a0.Data.length : Nat) : Int) > a0.Capacity))) || (decide (a0.Writes < 0))))], [(0, some (.box (c_Disk a0)))]⟩ : ASt) ?_ ?_
  · rcases Md.bool_or ((((decide (a0.Capacity < 0)) || (decide (a0.Capacity > 1048576))) || (decide (((a0.Data.length : Nat) : Int) > a0.Capacity)))) with q3 | q3
    · skip
      iterate 3 refine np q3 ?_
      refine s_py q3 ?_
      refine aops_nil ?_
      exact wq q3
    refine y_fd q3 ?_
    refine y_ld q3 ?_
    refine y_cm q3 ?_
    refine s_pn q3 ?_
    refine aops_nil ?_
    exact wq q3
  refine s_mv ?_
  refine aops_mid 4 (⟨51, [], [(1, .one (.ptr 0 0)), (28, vB (((((decide (a0.Capacity < 0)) || (decide (a0.Capacity > 1048576))) || (decide (((a0.Data.length : Nat) : Int) > a0.Capacity))) || (decide (a0.Writes < 0))) || (decide (a0.Keep < 0))))], [(0, some (.box (c_Disk a0)))]⟩ : ASt) ?_ ?_
  · rcases Md.bool_or (((((decide (a0.Capacity < 0)) || (decide (a0.Capacity > 1048576))) || (decide (((a0.Data.length : Nat) : Int) > a0.Capacity))) || (decide (a0.Writes < 0)))) with q4 | q4
    · skip
      iterate 3 refine np q4 ?_
      refine s_py q4 ?_
      refine aops_nil ?_
      exact wq q4
    refine y_fd q4 ?_
    refine y_ld q4 ?_
    refine y_cm q4 ?_
    refine s_pn q4 ?_
    refine aops_nil ?_
    exact wq q4
  refine aops_nil ?_
  refine aw_cond rfl (fun c5 => ?_) (fun c5 => ?_)
  · replace h := Md.cond_t h c5
    refine aw_seq (aw_region (s_sa ?_))
    refine aops_nil ?_
    cases Option.some.inj h
    exact aw_ret ⟨rfl, rv r1⟩
  replace h := Md.cond_f h c5
  refine aw_skip (aw_seq (aw_region (s_fd ?_)))
  refine s_ld ?_
  refine s_mv ?_
  refine aops_mid 4 (⟨51, [], [(1, .one (.ptr 0 0)), (35, vB (a0.Armed && (!a0.Down)))], [(0, some (.box (c_Disk a0)))]⟩ : ASt) ?_ ?_
  · rcases Md.bool_or (a0.Armed) with q6 | q6
    · skip
      refine y_fd q6 ?_
      refine y_ld q6 ?_
      refine y_nt q6 ?_
      refine s_py q6 ?_
      refine aops_nil ?_
      exact wq q6
    iterate 3 refine np q6 ?_
    refine s_pn q6 ?_
    refine aops_nil ?_
    exact wq q6
  refine s_mv ?_
  refine aops_mid 14 (⟨51, [], [(50, vB ((a0.Armed && (!a0.Down)) || (((!a0.Armed) && (a0.Writes == 0)) && (a0.Keep == 0))))], []⟩ : ASt) ?_ ?_
  · rcases Md.bool_or ((a0.Armed && (!a0.Down))) with q7 | q7
    · skip
      iterate 4 refine np q7 ?_
      iterate 3 refine aops_und rfl rfl rfl rfl rfl ?_
      iterate 2 refine np q7 ?_
      iterate 3 refine aops_und rfl rfl rfl rfl rfl ?_
      refine np q7 ?_
      refine s_py q7 ?_
      refine aops_nil ?_
      exact wq q7
    refine y_fd q7 ?_
    refine y_ld q7 ?_
    refine y_nt q7 ?_
    refine y_mv q7 ?_
    refine aops_mid 4 (⟨51, [], [(1, .one (.ptr 0 0)), (36, vB (a0.Armed && (!a0.Down))), (44, vB ((!a0.Armed) && (a0.Writes == 0)))], [(0, some (.box (c_Disk a0)))]⟩ : ASt) ?_ ?_
    · rcases Md.bool_or ((!a0.Armed)) with q8 | q8
      · skip
        refine y_fd q8 ?_
        refine y_ld q8 ?_
        refine y_cm q8 ?_
        refine aops_yes rfl rfl rfl rfl q7 (st_pick_yes rfl (by first | rfl | exact q8) rfl rfl) (aops_nil ?_)
        exact wq q8
      iterate 3 refine np q8 ?_
      refine aops_yes rfl rfl rfl rfl q7 (st_pick_no rfl (by first | rfl | exact q8) rfl rfl) (aops_nil ?_)
      exact wq q8
    change AOps _ _ _ (⟨51, [], [(1, .one (.ptr 0 0)), (36, vB (a0.Armed && (!a0.Down))), (44, vB ((!a0.Armed) && (a0.Writes == 0)))], [(0, some (.box (c_Disk a0)))]⟩ : ASt) _
    refine y_mv q7 ?_
    refine aops_mid 4 (⟨51, [], [(36, vB (a0.Armed && (!a0.Down))), (49, vB (((!a0.Armed) && (a0.Writes == 0)) && (a0.Keep == 0)))], []⟩ : ASt) ?_ ?_
    · rcases Md.bool_or (((!a0.Armed) && (a0.Writes == 0))) with q9 | q9
      · skip
        refine y_fd q9 ?_
        refine y_ld q9 ?_
        refine y_cm q9 ?_
        refine aops_yes rfl rfl rfl rfl q7 (st_pick_yes rfl (by first | rfl | exact q9) rfl rfl) (aops_nil ?_)
        exact wq q9
      iterate 3 refine np q9 ?_
      refine aops_yes rfl rfl rfl rfl q7 (st_pick_no rfl (by first | rfl | exact q9) rfl rfl) (aops_nil ?_)
      exact wq q9
    change AOps _ _ _ (⟨51, [], [(36, vB (a0.Armed && (!a0.Down))), (49, vB (((!a0.Armed) && (a0.Writes == 0)) && (a0.Keep == 0)))], []⟩ : ASt) _
    refine s_pn q7 ?_
    refine aops_nil ?_
    exact wq q7
  refine s_sa ?_
  refine aops_nil ?_
  cases Option.some.inj h
  exact aw_ret ⟨rfl, rv r1⟩
set_option maxHeartbeats 2000000 in
theorem disk_New_fn (k : Nat) (a0 : Int) (r : Disk × Int) (h : disk_New k a0 = some r) : FnC Try.prog 16 [vI a0] [] (Det (.tup [.agg (c_Disk r.1), vI r.2]) []) := by
  unfold disk_New at h
  refine fn_intro' 13 Try.func16 rfl rfl rfl (aw_seq (aw_region ?_))
  refine aops_step1 rfl (st_alloc (cs := [.val (.slice none 0 0), cI 0, cB false, cI 0, cI 0, cB false]) 0 rfl rfl rfl rfl rfl) (s_sa ?_)
  refine aops_nil (aw_seq (aw_seq (aw_region (s_mv ?_))))
  refine s_cm ?_
  refine s_mv ?_
  refine aops_mid 3 (⟨13, [], [(0, vI a0), (2, .one (.ptr 0 0)), (9, vB ((decide (a0 < 0)) || (decide (a0 > 1048576))))], [(0, some (.box [.val (.slice none 0 0), cI 0, cB false, cI 0, cI 0, cB false]))]⟩ : ASt) ?_ ?_
  · rcases Md.bool_or ((decide (a0 < 0))) with q1 | q1
    · skip
      iterate 2 refine np q1 ?_
      refine s_py q1 ?_
      refine aops_nil ?_
      exact wq q1
    refine y_mv q1 ?_
    refine y_cm q1 ?_
    refine s_pn q1 ?_
    refine aops_nil ?_
    exact wq q1
  refine aops_nil ?_
  refine aw_cond rfl (fun c2 => ?_) (fun c2 => ?_)
  · replace h := Md.cond_t h c2
    refine aw_seq (aw_region (aops_step1 rfl (ev_build' (out := [_, _, _, _, _, _]) rfl rfl rfl rfl rfl) (s_st [_, _, _, _, _, _] ?_)))
    refine s_sa ?_
    refine aops_nil ?_
    cases Option.some.inj h
    exact aw_ret ⟨rfl, rv (rn (.cons (va [_, _, _, _, _, _]) (.cons o1 .nil)))⟩
  replace h := Md.cond_f h c2
  refine aw_skip (aw_seq (aw_region (s_mv ?_)))
  refine aops_step1 rfl (ev_build' (out := [_, _, _, _, _, _]) rfl rfl rfl rfl rfl) (s_st [_, _, _, _, _, _] ?_)
  refine s_sa ?_
  refine aops_nil ?_
  cases Option.some.inj h
  exact aw_ret ⟨rfl, rv (rn (.cons (va [_, _, _, _, _, _]) (.cons o1 .nil)))⟩
set_option maxHeartbeats 2000000 in
theorem actorgridref26_NewDisk_fn (k : Nat) (a0 : Int) (r : Disk × Int) (h : actorgridref26_NewDisk k a0 = some r) : FnC Try.prog 30 [vI a0] [] (Det (.tup [.agg (c_Disk r.1), vI r.2]) []) := by
  unfold actorgridref26_NewDisk at h
  refine fn_intro' 13 Try.func30 rfl rfl rfl (aw_seq (aw_region ?_))
  refine aops_step1 rfl (st_alloc (cs := [.val (.slice none 0 0), cI 0, cB false, cI 0, cI 0, cB false]) 0 rfl rfl rfl rfl rfl) (s_sa ?_)
  refine aops_nil (aw_seq (aw_seq (aw_region (s_mv ?_))))
  refine s_cm ?_
  refine s_mv ?_
  refine aops_mid 3 (⟨13, [], [(0, vI a0), (2, .one (.ptr 0 0)), (9, vB ((decide (a0 < 0)) || (decide (a0 > 1048576))))], [(0, some (.box [.val (.slice none 0 0), cI 0, cB false, cI 0, cI 0, cB false]))]⟩ : ASt) ?_ ?_
  · rcases Md.bool_or ((decide (a0 < 0))) with q1 | q1
    · skip
      iterate 2 refine np q1 ?_
      refine s_py q1 ?_
      refine aops_nil ?_
      exact wq q1
    refine y_mv q1 ?_
    refine y_cm q1 ?_
    refine s_pn q1 ?_
    refine aops_nil ?_
    exact wq q1
  refine aops_nil ?_
  refine aw_cond rfl (fun c2 => ?_) (fun c2 => ?_)
  · replace h := Md.cond_t h c2
    refine aw_seq (aw_region (aops_step1 rfl (ev_build' (out := [_, _, _, _, _, _]) rfl rfl rfl rfl rfl) (s_st [_, _, _, _, _, _] ?_)))
    refine s_sa ?_
    refine aops_nil ?_
    cases Option.some.inj h
    exact aw_ret ⟨rfl, rv (rn (.cons (va [_, _, _, _, _, _]) (.cons o1 .nil)))⟩
  replace h := Md.cond_f h c2
  refine aw_skip (aw_seq (aw_region (s_mv ?_)))
  refine aops_step1 rfl (ev_build' (out := [_, _, _, _, _, _]) rfl rfl rfl rfl rfl) (s_st [_, _, _, _, _, _] ?_)
  refine s_sa ?_
  refine aops_nil ?_
  cases Option.some.inj h
  exact aw_ret ⟨rfl, rv (rn (.cons (va [_, _, _, _, _, _]) (.cons o1 .nil)))⟩
set_option maxHeartbeats 2000000 in
theorem actorgridref26_SameDisk_fn (k : Nat) (a0 : Disk) (a1 : Disk) (r : Bool) (h : actorgridref26_SameDisk k a0 a1 = some r) : FnC Try.prog 34 [.agg (c_Disk a0), .agg (c_Disk a1)] [] (Det (vB r) []) := by
  unfold actorgridref26_SameDisk at h
  refine fn_intro' 47 Try.func34 rfl rfl rfl (aw_seq (aw_region (aops_step1 rfl (st_box 0 rfl rfl rfl rfl) (aops_step1 rfl (st_box 1 rfl rfl rfl rfl) (s_sa ?_)))))
  refine aops_nil (aw_seq (aw_region (s_fd ?_)))
  refine s_ld ?_
  refine aops_step1 rfl (ev_str_bytes (.inl rfl) Try.underlying24 Try.underlying5 Try.underlying9 rfl) (s_fd ?_)
  refine s_ld ?_
  refine aops_step1 rfl (ev_str_bytes (.inl rfl) Try.underlying24 Try.underlying5 Try.underlying9 rfl) (aops_step1 rfl (st_str_eq rfl rfl rfl) (s_mv ?_))
  refine aops_mid 6 (⟨47, [], [(2, .one (.ptr 0 0)), (3, .one (.ptr 1 0)), (4, vB false), (18, vB ((decide (a0.Data = a1.Data)) && (a0.Capacity == a1.Capacity)))], [(0, some (.box (c_Disk a0))), (1, some (.box (c_Disk a1)))]⟩ : ASt) ?_ ?_
  · rcases Md.bool_or ((decide (a0.Data = a1.Data))) with q1 | q1
    · skip
      refine y_fd q1 ?_
      refine y_ld q1 ?_
      refine y_fd q1 ?_
      refine y_ld q1 ?_
      refine y_cm q1 ?_
      refine s_py q1 ?_
      refine aops_nil ?_
      exact wq q1
    iterate 5 refine np q1 ?_
    refine s_pn q1 ?_
    refine aops_nil ?_
    exact wq q1
  refine s_mv ?_
  refine aops_mid 6 (⟨47, [], [(2, .one (.ptr 0 0)), (3, .one (.ptr 1 0)), (4, vB false), (25, vB (((decide (a0.Data = a1.Data)) && (a0.Capacity == a1.Capacity)) && (a0.Armed == a1.Armed)))], [(0, some (.box (c_Disk a0))), (1, some (.box (c_Disk a1)))]⟩ : ASt) ?_ ?_
  · rcases Md.bool_or (((decide (a0.Data = a1.Data)) && (a0.Capacity == a1.Capacity))) with q2 | q2
    · skip
      refine y_fd q2 ?_
      refine y_ld q2 ?_
      refine y_fd q2 ?_
      refine y_ld q2 ?_
      refine aops_yes rfl rfl rfl rfl q2 (ev_bool_eq rfl rfl rfl Try.underlying4 rfl) (s_py q2 ?_)
      refine aops_nil ?_
      exact wq q2
    iterate 5 refine np q2 ?_
    refine s_pn q2 ?_
    refine aops_nil ?_
    exact wq q2
  refine s_mv ?_
  refine aops_mid 6 (⟨47, [], [(2, .one (.ptr 0 0)), (3, .one (.ptr 1 0)), (4, vB false), (32, vB ((((decide (a0.Data = a1.Data)) && (a0.Capacity == a1.Capacity)) && (a0.Armed == a1.Armed)) && (a0.Writes == a1.Writes)))], [(0, some (.box (c_Disk a0))), (1, some (.box (c_Disk a1)))]⟩ : ASt) ?_ ?_
  · rcases Md.bool_or ((((decide (a0.Data = a1.Data)) && (a0.Capacity == a1.Capacity)) && (a0.Armed == a1.Armed))) with q3 | q3
    · skip
      refine y_fd q3 ?_
      refine y_ld q3 ?_
      refine y_fd q3 ?_
      refine y_ld q3 ?_
      refine y_cm q3 ?_
      refine s_py q3 ?_
      refine aops_nil ?_
      exact wq q3
    iterate 5 refine np q3 ?_
    refine s_pn q3 ?_
    refine aops_nil ?_
    exact wq q3
  refine s_mv ?_
  refine aops_mid 6 (⟨47, [], [(2, .one (.ptr 0 0)), (3, .one (.ptr 1 0)), (4, vB false), (39, vB (((((decide (a0.Data = a1.Data)) && (a0.Capacity == a1.Capacity)) && (a0.Armed == a1.Armed)) && (a0.Writes == a1.Writes)) && (a0.Keep == a1.Keep)))], [(0, some (.box (c_Disk a0))), (1, some (.box (c_Disk a1)))]⟩ : ASt) ?_ ?_
  · rcases Md.bool_or (((((decide (a0.Data = a1.Data)) && (a0.Capacity == a1.Capacity)) && (a0.Armed == a1.Armed)) && (a0.Writes == a1.Writes))) with q4 | q4
    · skip
      refine y_fd q4 ?_
      refine y_ld q4 ?_
      refine y_fd q4 ?_
      refine y_ld q4 ?_
      refine y_cm q4 ?_
      refine s_py q4 ?_
      refine aops_nil ?_
      exact wq q4
    iterate 5 refine np q4 ?_
    refine s_pn q4 ?_
    refine aops_nil ?_
    exact wq q4
  refine s_mv ?_
  refine aops_mid 6 (⟨47, [], [(4, vB false), (46, vB ((((((decide (a0.Data = a1.Data)) && (a0.Capacity == a1.Capacity)) && (a0.Armed == a1.Armed)) && (a0.Writes == a1.Writes)) && (a0.Keep == a1.Keep)) && (a0.Down == a1.Down)))], []⟩ : ASt) ?_ ?_
  · rcases Md.bool_or ((((((decide (a0.Data = a1.Data)) && (a0.Capacity == a1.Capacity)) && (a0.Armed == a1.Armed)) && (a0.Writes == a1.Writes)) && (a0.Keep == a1.Keep))) with q5 | q5
    · skip
      refine y_fd q5 ?_
      refine y_ld q5 ?_
      refine y_fd q5 ?_
      refine y_ld q5 ?_
      refine aops_yes rfl rfl rfl rfl q5 (ev_bool_eq rfl rfl rfl Try.underlying4 rfl) (s_py q5 ?_)
      refine aops_nil ?_
      exact wq q5
    iterate 5 refine np q5 ?_
    refine s_pn q5 ?_
    refine aops_nil ?_
    exact wq q5
  refine s_sa ?_
  refine aops_nil ?_
  cases Option.some.inj h
  exact aw_ret ⟨rfl, rv r1⟩
set_option maxHeartbeats 2000000 in
theorem disk_clone_fn (k : Nat) (a0 : Disk) (r : Disk) (h : disk_clone k a0 = some r) : FnC Try.prog 59 [.agg (c_Disk a0)] [] (Det (.agg (c_Disk r)) []) := by
  unfold disk_clone at h
  refine fn_intro' 8 Try.func59 rfl rfl rfl (aw_seq (aw_region (aops_step1 rfl (st_box 0 rfl rfl rfl rfl) ?_)))
  refine aops_step1 rfl (st_alloc (cs := [.val (.slice none 0 0), cI 0, cB false, cI 0, cI 0, cB false]) 1 rfl rfl rfl rfl rfl) (aops_nil (aw_seq (aw_region (s_fd ?_))))
  refine s_ld ?_
  obtain ⟨g1, h⟩ := Md.ifp_s h
  refine aops_step1 rfl (st_app_nil_ls (f := byC) 2 a0.Data (fun _ => rfl) rfl rfl (.inl rfl) (by omega) (by omega) rfl) (s_fd ?_)
  refine s_st [_, _, _, _, _, _] ?_
  refine aops_nil (aw_seq (aw_region (s_ls [_, _, _, _, _, _] ?_)))
  refine s_st [_, _, _, _, _, _] ?_
  refine aops_nil ?_
  cases Option.some.inj h
  refine aw_freeze 2 rfl ?_
  exact aw_ret ⟨rfl, rv (rg [_, _, _, _, _, _])⟩
set_option maxHeartbeats 2000000 in
theorem disk_crash_fn (k : Nat) (a0 : Disk) (a1 : List UInt8) (r : Disk) (h : disk_crash k a0 a1 = some r) : FnC Try.prog 60 [.agg (c_Disk a0), .one (CV.ls byC a1)] [] (Det (.agg (c_Disk r)) []) := by
  unfold disk_crash at h
  refine fn_intro' 10 Try.func60 rfl rfl rfl (aw_seq (aw_region (aops_step1 rfl (st_box 0 rfl rfl rfl rfl) ?_)))
  refine aops_step1 rfl (st_alloc (cs := [.val (.slice none 0 0), cI 0, cB false, cI 0, cI 0, cB false]) 1 rfl rfl rfl rfl rfl) (aops_nil ?_)
  obtain ⟨g1, h⟩ := Md.ifp_s h
  refine aw_seq ?_
  apply aw_draw 4 ((⟨[], .one (CV.ls byC a1)⟩ : Add) :: ⟨[], .one (CV.ls byC a1)⟩ :: ⟨[], .one (.ptr 0 _)⟩ :: ⟨[], vI a0.Capacity⟩ :: []) (by decide) rfl ?hk1x ?hf1x ?ho1x ?hr1x
  case ho1x =>
   refine ob [] (fun S hle hfr => .inl ⟨w0, st_move (hle.e rfl) (hle.d rfl)⟩) ?_
   refine ob [0] (fun S hle hfr => .inl ⟨w0, st_app_nil_z (f := byC) a1 (fun _ => rfl) (hle.e rfl) (.inl (hle.e rfl)) (by omega) (by omega) (hle.d rfl)⟩) ?_
   refine ob [] (fun S hle hfr => .inl ⟨w0, ev_field (hle.e rfl) rfl (hle.d rfl)⟩) ?_
   refine ob [2] (fun S hle hfr => .inl ⟨w0, ev_load (hle.e rfl) (hle.heap _ _ rfl) rfl (hle.d rfl)⟩) ?_
   exact trivial
  case hk1x => rfl
  case hf1x => rfl
  refine aops_step1 rfl (ev_build' (out := [_, _, _, _, _, _]) rfl rfl rfl rfl rfl) (s_st [_, _, _, _, _, _] ?_)
  refine aops_nil ?_
  cases Option.some.inj h
  exact aw_ret ⟨rfl, rv (rg [_, _, _, _, _, _])⟩
set_option maxHeartbeats 2000000 in
theorem disk_written_fn (k : Nat) (a0 : Disk) (a1 : List UInt8) (r : Disk) (h : disk_written k a0 a1 = some r) : FnC Try.prog 62 [.agg (c_Disk a0), .one (CV.ls byC a1)] [] (Det (.agg (c_Disk r)) []) := by
  unfold disk_written at h
  refine fn_intro' 14 Try.func62 rfl rfl rfl (aw_seq (aw_region (aops_step1 rfl (st_box 0 rfl rfl rfl rfl) ?_)))
  refine aops_step1 rfl (st_alloc (cs := [.val (.slice none 0 0), cI 0, cB false, cI 0, cI 0, cB false]) 1 rfl rfl rfl rfl rfl) (aops_nil (aw_seq (aw_region (s_mv ?_))))
  refine s_fd ?_
  refine s_st [_, _, _, _, _, _] ?_
  refine aops_nil (aw_seq (aw_seq (aw_region (s_fd ?_))))
  refine s_ld ?_
  refine aops_nil ?_
  refine aw_cond rfl (fun c1 => ?_) (fun c1 => ?_)
  · replace h := Md.cond_t h c1
    refine aw_region (s_fd ?_)
    refine s_ld ?_
    refine aops_step1 rfl (ev_sub rfl rfl rfl (Md.wrap_W _)) (s_fd ?_)
    refine s_st [_, _, _, _, _, _] ?_
    refine aops_nil (aw_seq (aw_region (s_ls [_, _, _, _, _, _] ?_)))
    refine s_st [_, _, _, _, _, _] ?_
    refine aops_nil ?_
    cases Option.some.inj h
    exact aw_ret ⟨rfl, rv (rg [_, _, _, _, _, _])⟩
  replace h := Md.cond_f h c1
  refine aw_skip (aw_seq (aw_region (s_ls [_, _, _, _, _, _] ?_)))
  refine s_st [_, _, _, _, _, _] ?_
  refine aops_nil ?_
  cases Option.some.inj h
  exact aw_ret ⟨rfl, rv (rg [_, _, _, _, _, _])⟩
set_option maxHeartbeats 2000000 in
theorem disk_Append_fn (k : Nat) (a0 : Disk) (a1 : List UInt8) (r : Disk × Int) (h : disk_Append k a0 a1 = some r) : FnC Try.prog 18 [.agg (c_Disk a0), .one (CV.ls byC a1)] [] (Det (.tup [.agg (c_Disk r.1), vI r.2]) []) := by
  unfold disk_Append at h
  refine fn_intro' 56 Try.func18 rfl rfl rfl (aw_seq (aw_region (aops_step1 rfl (st_box 0 rfl rfl rfl rfl) ?_)))
  refine aops_step1 rfl (st_alloc (cs := [.val (.slice none 0 0), cI 0, cB false, cI 0, cI 0, cB false]) 1 rfl rfl rfl rfl rfl) (s_sa ?_)
  refine aops_nil (aw_seq (aw_block (aw_seq (aw_region (s_ls [_, _, _, _, _, _] ?_)))))
  obtain ⟨x1, hx1, h⟩ := Md.bind_s h
  refine aops_step1 rfl (ev_call_v (disk_Valid_fn k a0 x1 hx1) rfl [] ai rfl rfl rfl (.inl rfl) rfl) (s_nt ?_)
  refine s_sa ?_
  refine aops_nil ?_
  refine aw_cond rfl (fun c2 => ?_) (fun c2 => ?_)
  · replace h := Md.cond_t h c2
    refine aw_seq (aw_region (aops_step1 rfl (ev_build' (out := [_, _, _, _, _, _]) rfl rfl rfl rfl rfl) (s_st [_, _, _, _, _, _] ?_)))
    refine s_sa ?_
    refine aops_nil ?_
    cases Option.some.inj h
    exact aw_ret ⟨rfl, rv (rn (.cons (va [_, _, _, _, _, _]) (.cons o1 .nil)))⟩
  replace h := Md.cond_f h c2
  refine aw_seq (aw_region (s_fd ?_))
  refine s_ld ?_
  refine s_sa ?_
  refine aops_nil ?_
  refine aw_cond rfl (fun c3 => ?_) (fun c3 => ?_)
  · replace h := Md.cond_t h c3
    refine aw_seq (aw_region (s_ls [_, _, _, _, _, _] ?_))
    obtain ⟨x4, hx4, h⟩ := Md.bind_s h
    refine aops_step1 rfl (ev_call_v (disk_clone_fn k a0 x4 hx4) rfl [] ai rfl rfl rfl (.inl rfl) rfl) (s_st [_, _, _, _, _, _] ?_)
    refine s_sa ?_
    refine aops_nil ?_
    cases Option.some.inj h
    exact aw_ret ⟨rfl, rv (rn (.cons (va [_, _, _, _, _, _]) (.cons o1 .nil)))⟩
  replace h := Md.cond_f h c3
  refine aw_seq (aw_region (s_mv ?_))
  refine s_ln ?_
  refine s_fd ?_
  refine s_ld ?_
  refine s_fd ?_
  refine s_ld ?_
  refine s_ln ?_
  refine aops_step1 rfl (ev_sub rfl rfl rfl (Md.wrap_W _)) (s_cm ?_)
  refine s_sa ?_
  refine aops_nil ?_
  refine aw_cond rfl (fun c5 => ?_) (fun c5 => ?_)
  · replace h := Md.cond_t h c5
    refine aw_seq (aw_region (s_ls [_, _, _, _, _, _] ?_))
    obtain ⟨x6, hx6, h⟩ := Md.bind_s h
    refine aops_step1 rfl (ev_call_v (disk_clone_fn k a0 x6 hx6) rfl [] ai rfl rfl rfl (.inl rfl) rfl) (s_st [_, _, _, _, _, _] ?_)
    refine s_sa ?_
    refine aops_nil ?_
    cases Option.some.inj h
    exact aw_ret ⟨rfl, rv (rn (.cons (va [_, _, _, _, _, _]) (.cons o1 .nil)))⟩
  replace h := Md.cond_f h c5
  refine aw_seq (aw_region (s_fd ?_))
  refine s_ld ?_
  refine s_mv ?_
  refine aops_mid 4 (⟨56, [], [(1, .one (CV.ls byC a1)), (2, .one (.ptr 0 0)), (4, .one (.ptr 1 0)), (35, vB (a0.Armed && (a0.Writes == 0)))], [(0, some (.box (c_Disk a0))), (1, some (.box [.val (.slice none 0 0), cI 0, cB false, cI 0, cI 0, cB false]))]⟩ : ASt) ?_ ?_
  · rcases Md.bool_or (a0.Armed) with q7 | q7
    · skip
      refine y_fd q7 ?_
      refine y_ld q7 ?_
      refine y_cm q7 ?_
      refine s_py q7 ?_
      refine aops_nil ?_
      exact wq q7
    iterate 3 refine np q7 ?_
    refine s_pn q7 ?_
    refine aops_nil ?_
    exact wq q7
  refine s_sa ?_
  refine aops_nil ?_
  refine aw_cond rfl (fun c8 => ?_) (fun c8 => ?_)
  · replace h := Md.cond_t h c8
    obtain ⟨g9, h⟩ := Md.ifp_s h
    obtain ⟨g10, h⟩ := Md.ifp_s h
    obtain ⟨x11, hx11, h⟩ := Md.bind_s h
    obtain ⟨x12, hx12, h⟩ := Md.bind_s h
    refine aw_seq ?_
    apply aw_draw 12 ((⟨[], .agg (c_Disk a0)⟩ : Add) :: ⟨[], .one (.ptr 0 _)⟩ :: ⟨[], .one (CV.ls byC a0.Data)⟩ :: ⟨[], .one (CV.ls byC a1)⟩ :: ⟨[], .one (.ptr 0 _)⟩ :: ⟨[], vI a0.Keep⟩ :: ⟨[], .one (CV.ls byC a1)⟩ :: ⟨[], vI ((a1.length : Nat) : Int)⟩ :: ⟨[], vI (min a0.Keep ((a1.length : Nat) : Int))⟩ :: ⟨[], .one (CV.ls byC (a1.take (((min a0.Keep ((a1.length : Nat) : Int))).toNat)))⟩ :: ⟨[], .one (CV.ls c_LU8 [a0.Data, (a1.take (((min a0.Keep ((a1.length : Nat) : Int))).toNat))])⟩ :: ⟨[], .one (CV.ls byC x11)⟩ :: []) (by decide) rfl ?hk2x ?hf2x ?ho2x ?hr2x
    case ho2x =>
     refine ob [] (fun S hle hfr => .inl ⟨w0, ev_loads (ds := [_, _, _, _, _, _]) (hle.e rfl) (hle.heap _ _ rfl) rfl rfl (hle.d rfl)⟩) ?_
     refine ob [] (fun S hle hfr => .inl ⟨w0, ev_field (hle.e rfl) rfl (hle.d rfl)⟩) ?_
     refine ob [1] (fun S hle hfr => .inl ⟨w0, ev_load (hle.e rfl) (hle.heap _ _ rfl) rfl (hle.d rfl)⟩) ?_
     refine ob [] (fun S hle hfr => .inl ⟨w0, st_move (hle.e rfl) (hle.d rfl)⟩) (ob [] (fun S hle hfr => .inl ⟨w0, ev_field (hle.e rfl) rfl (hle.d rfl)⟩) ?_)
     refine ob [4] (fun S hle hfr => .inl ⟨w0, ev_load (hle.e rfl) (hle.heap _ _ rfl) rfl (hle.d rfl)⟩) ?_
     refine ob [] (fun S hle hfr => .inl ⟨w0, st_move (hle.e rfl) (hle.d rfl)⟩) (ob [6] (fun S hle hfr => .inl ⟨w0, ev_len_slc (hle.e rfl) (hle.d rfl)⟩) ?_)
     refine ob [5, 7, 4, 6] (fun S hle hfr => .inl ⟨w0, ev_min (hle.e rfl) (hle.e rfl) (hle.d rfl) (Md.int_min _ _)⟩) ?_
     refine ob [3, 8, 5, 7, 4, 6] (fun S hle hfr => .inl ⟨w0, st_cut_hi (f := byC) (fun _ => rfl) (hle.e rfl) ⟨_, _, (hle.e rfl), (Md.nn_eq g9)⟩ g10 (hle.d rfl)⟩) ?_
     refine ob [2, 9, 1, 3, 8, 5, 7, 4, 6] (fun S hle hfr => .inl ⟨w0, st_slice_lit_z (el := lsEl c_LU8 [a0.Data, (a1.take (((min a0.Keep ((a1.length : Nat) : Int))).toNat))]) (map_ev2 (.cons (hle.e rfl) (.cons (hle.e rfl) (.nil)))) rfl rfl rfl rfl rfl rfl (lit_el c_LU8 1 [a0.Data, (a1.take (((min a0.Keep ((a1.length : Nat) : Int))).toNat))] (fun _ => rfl)) (hle.d rfl)⟩) ?_
     refine ob [10, 2, 9, 1, 3, 8, 5, 7, 4, 6] (fun S hle hfr => .inl ⟨w0, st_call_z (slices_Concat_fn k [a0.Data, (a1.take (((min a0.Keep ((a1.length : Nat) : Int))).toNat))] x11 hx11) (map_ev (.cons (hle.e rfl) (.nil))) [] (fun _ => (by repeat' (first | exact .nil | refine .cons ?_ ?_ | refine .one ?_ | refine .agg ?_ | exact .mk rfl | exact .lend (hle.heap _ _ rfl) (by simp) | exact .le (.nil _) rfl | exact .le (.emp _) rfl | exact .le (.any _) rfl | fail))) rfl (.inl rfl) (hle.d rfl)⟩) ?_
     exact trivial
    case hk2x => rfl
    case hf2x => rfl
    refine aops_step1 rfl (ev_call_v (disk_crash_fn k a0 x11 x12 hx12) rfl [] ai rfl rfl rfl (.inl rfl) rfl) (s_st [_, _, _, _, _, _] ?_)
    refine s_sa ?_
    refine aops_nil ?_
    cases Option.some.inj h
    exact aw_ret ⟨rfl, rv (rn (.cons (va [_, _, _, _, _, _]) (.cons o1 .nil)))⟩
  replace h := Md.cond_f h c8
  refine aw_skip ?_
  obtain ⟨x13, hx13, h⟩ := Md.bind_s h
  obtain ⟨x14, hx14, h⟩ := Md.bind_s h
  refine aw_seq ?_
  apply aw_draw 6 ((⟨[], .agg (c_Disk a0)⟩ : Add) :: ⟨[], .one (.ptr 0 _)⟩ :: ⟨[], .one (CV.ls byC a0.Data)⟩ :: ⟨[], .one (CV.ls byC a1)⟩ :: ⟨[], .one (CV.ls c_LU8 [a0.Data, a1])⟩ :: ⟨[], .one (CV.ls byC x13)⟩ :: []) (by decide) rfl ?hk3x ?hf3x ?ho3x ?hr3x
  case ho3x =>
   refine ob [] (fun S hle hfr => .inl ⟨w0, ev_loads (ds := [_, _, _, _, _, _]) (hle.e rfl) (hle.heap _ _ rfl) rfl rfl (hle.d rfl)⟩) ?_
   refine ob [] (fun S hle hfr => .inl ⟨w0, ev_field (hle.e rfl) rfl (hle.d rfl)⟩) ?_
   refine ob [1] (fun S hle hfr => .inl ⟨w0, ev_load (hle.e rfl) (hle.heap _ _ rfl) rfl (hle.d rfl)⟩) ?_
   refine ob [] (fun S hle hfr => .inl ⟨w0, st_move (hle.e rfl) (hle.d rfl)⟩) ?_
   refine ob [2, 3, 1] (fun S hle hfr => .inl ⟨w0, st_slice_lit_z (el := lsEl c_LU8 [a0.Data, a1]) (map_ev2 (.cons (hle.e rfl) (.cons (hle.e rfl) (.nil)))) rfl rfl rfl rfl rfl rfl (lit_el c_LU8 1 [a0.Data, a1] (fun _ => rfl)) (hle.d rfl)⟩) ?_
   refine ob [4, 2, 3, 1] (fun S hle hfr => .inl ⟨w0, st_call_z (slices_Concat_fn k [a0.Data, a1] x13 hx13) (map_ev (.cons (hle.e rfl) (.nil))) [] (fun _ => (by repeat' (first | exact .nil | refine .cons ?_ ?_ | refine .one ?_ | refine .agg ?_ | exact .mk rfl | exact .lend (hle.heap _ _ rfl) (by simp) | exact .le (.nil _) rfl | exact .le (.emp _) rfl | exact .le (.any _) rfl | fail))) rfl (.inl rfl) (hle.d rfl)⟩) ?_
   exact trivial
  case hk3x => rfl
  case hf3x => rfl
  refine aops_step1 rfl (ev_call_v (disk_written_fn k a0 x13 x14 hx14) rfl [] ai rfl rfl rfl (.inl rfl) rfl) (s_st [_, _, _, _, _, _] ?_)
  refine s_sa ?_
  refine aops_nil ?_
  cases Option.some.inj h
  exact aw_ret ⟨rfl, rv (rn (.cons (va [_, _, _, _, _, _]) (.cons o1 .nil)))⟩
set_option maxHeartbeats 2000000 in
theorem disk_Truncate_fn (k : Nat) (a0 : Disk) (a1 : Int) (r : Disk × Int) (h : disk_Truncate k a0 a1 = some r) : FnC Try.prog 25 [.agg (c_Disk a0), vI a1] [] (Det (.tup [.agg (c_Disk r.1), vI r.2]) []) := by
  unfold disk_Truncate at h
  refine fn_intro' 66 Try.func25 rfl rfl rfl (aw_seq (aw_region (aops_step1 rfl (st_box 0 rfl rfl rfl rfl) ?_)))
  refine aops_step1 rfl (st_alloc (cs := [.val (.slice none 0 0), cI 0, cB false, cI 0, cI 0, cB false]) 1 rfl rfl rfl rfl rfl) (s_sa ?_)
  refine aops_nil (aw_seq (aw_block (aw_seq (aw_region (s_ls [_, _, _, _, _, _] ?_)))))
  obtain ⟨x1, hx1, h⟩ := Md.bind_s h
  refine aops_step1 rfl (ev_call_v (disk_Valid_fn k a0 x1 hx1) rfl [] ai rfl rfl rfl (.inl rfl) rfl) (s_nt ?_)
  refine s_sa ?_
  refine aops_nil ?_
  refine aw_cond rfl (fun c2 => ?_) (fun c2 => ?_)
  · replace h := Md.cond_t h c2
    refine aw_seq (aw_region (aops_step1 rfl (ev_build' (out := [_, _, _, _, _, _]) rfl rfl rfl rfl rfl) (s_st [_, _, _, _, _, _] ?_)))
    refine s_sa ?_
    refine aops_nil ?_
    cases Option.some.inj h
    exact aw_ret ⟨rfl, rv (rn (.cons (va [_, _, _, _, _, _]) (.cons o1 .nil)))⟩
  replace h := Md.cond_f h c2
  refine aw_seq (aw_region (s_fd ?_))
  refine s_ld ?_
  refine s_sa ?_
  refine aops_nil ?_
  refine aw_cond rfl (fun c3 => ?_) (fun c3 => ?_)
  · replace h := Md.cond_t h c3
    refine aw_seq (aw_region (s_ls [_, _, _, _, _, _] ?_))
    obtain ⟨x4, hx4, h⟩ := Md.bind_s h
    refine aops_step1 rfl (ev_call_v (disk_clone_fn k a0 x4 hx4) rfl [] ai rfl rfl rfl (.inl rfl) rfl) (s_st [_, _, _, _, _, _] ?_)
    refine s_sa ?_
    refine aops_nil ?_
    cases Option.some.inj h
    exact aw_ret ⟨rfl, rv (rn (.cons (va [_, _, _, _, _, _]) (.cons o1 .nil)))⟩
  replace h := Md.cond_f h c3
  refine aw_seq (aw_region (s_mv ?_))
  refine s_cm ?_
  refine s_mv ?_
  refine aops_mid 6 (⟨66, [], [(1, vI a1), (2, .one (.ptr 0 0)), (4, .one (.ptr 1 0)), (25, vB ((decide (a1 < 0)) || (decide (a1 > ((a0.Data.length : Nat) : Int)))))], [(0, some (.box (c_Disk a0))), (1, some (.box [.val (.slice none 0 0), cI 0, cB false, cI 0, cI 0, cB false]))]⟩ : ASt) ?_ ?_
  · rcases Md.bool_or ((decide (a1 < 0))) with q5 | q5
    · skip
      iterate 5 refine np q5 ?_
      refine s_py q5 ?_
      refine aops_nil ?_
      exact wq q5
    refine y_mv q5 ?_
    refine y_fd q5 ?_
    refine y_ld q5 ?_
    refine y_ln q5 ?_
    refine y_cm q5 ?_
    refine s_pn q5 ?_
    refine aops_nil ?_
    exact wq q5
  refine s_sa ?_
  refine aops_nil ?_
  refine aw_cond rfl (fun c6 => ?_) (fun c6 => ?_)
  · replace h := Md.cond_t h c6
    refine aw_seq (aw_region (s_ls [_, _, _, _, _, _] ?_))
    obtain ⟨x7, hx7, h⟩ := Md.bind_s h
    refine aops_step1 rfl (ev_call_v (disk_clone_fn k a0 x7 hx7) rfl [] ai rfl rfl rfl (.inl rfl) rfl) (s_st [_, _, _, _, _, _] ?_)
    refine s_sa ?_
    refine aops_nil ?_
    cases Option.some.inj h
    exact aw_ret ⟨rfl, rv (rn (.cons (va [_, _, _, _, _, _]) (.cons o1 .nil)))⟩
  replace h := Md.cond_f h c6
  refine aw_seq (aw_region (s_fd ?_))
  refine s_ld ?_
  refine s_mv ?_
  refine aops_mid 4 (⟨66, [], [(1, vI a1), (2, .one (.ptr 0 0)), (4, .one (.ptr 1 0)), (35, vB (a0.Armed && (a0.Writes == 0)))], [(0, some (.box (c_Disk a0))), (1, some (.box [.val (.slice none 0 0), cI 0, cB false, cI 0, cI 0, cB false]))]⟩ : ASt) ?_ ?_
  · rcases Md.bool_or (a0.Armed) with q8 | q8
    · skip
      refine y_fd q8 ?_
      refine y_ld q8 ?_
      refine y_cm q8 ?_
      refine s_py q8 ?_
      refine aops_nil ?_
      exact wq q8
    iterate 3 refine np q8 ?_
    refine s_pn q8 ?_
    refine aops_nil ?_
    exact wq q8
  refine s_mv ?_
  refine aops_mid 4 (⟨66, [], [(1, vI a1), (2, .one (.ptr 0 0)), (4, .one (.ptr 1 0)), (40, vB ((a0.Armed && (a0.Writes == 0)) && (decide (a0.Keep > 0))))], [(0, some (.box (c_Disk a0))), (1, some (.box [.val (.slice none 0 0), cI 0, cB false, cI 0, cI 0, cB false]))]⟩ : ASt) ?_ ?_
  · rcases Md.bool_or ((a0.Armed && (a0.Writes == 0))) with q9 | q9
    · skip
      refine y_fd q9 ?_
      refine y_ld q9 ?_
      refine y_cm q9 ?_
      refine s_py q9 ?_
      refine aops_nil ?_
      exact wq q9
    iterate 3 refine np q9 ?_
    refine s_pn q9 ?_
    refine aops_nil ?_
    exact wq q9
  refine s_sa ?_
  refine aops_nil ?_
  refine aw_cond rfl (fun c10 => ?_) (fun c10 => ?_)
  · replace h := Md.cond_t h c10
    obtain ⟨g11, h⟩ := Md.ifp_s h
    obtain ⟨g12, h⟩ := Md.ifp_s h
    obtain ⟨x13, hx13, h⟩ := Md.bind_s h
    refine aw_seq ?_
    apply aw_draw 5 ((⟨[], .agg (c_Disk a0)⟩ : Add) :: ⟨[], .one (.ptr 0 _)⟩ :: ⟨[], .one (CV.ls byC a0.Data)⟩ :: ⟨[], vI a1⟩ :: ⟨[], .one (CV.ls byC (a0.Data.take ((a1).toNat)))⟩ :: []) (by decide) rfl ?hk2x ?hf2x ?ho2x ?hr2x
    case ho2x =>
     refine ob [] (fun S hle hfr => .inl ⟨w0, ev_loads (ds := [_, _, _, _, _, _]) (hle.e rfl) (hle.heap _ _ rfl) rfl rfl (hle.d rfl)⟩) ?_
     refine ob [] (fun S hle hfr => .inl ⟨w0, ev_field (hle.e rfl) rfl (hle.d rfl)⟩) ?_
     refine ob [1] (fun S hle hfr => .inl ⟨w0, ev_load (hle.e rfl) (hle.heap _ _ rfl) rfl (hle.d rfl)⟩) ?_
     refine ob [] (fun S hle hfr => .inl ⟨w0, st_move (hle.e rfl) (hle.d rfl)⟩) ?_
     refine ob [2, 3, 1] (fun S hle hfr => .inl ⟨w0, st_cut_hi (f := byC) (fun _ => rfl) (hle.e rfl) ⟨_, _, (hle.e rfl), (Md.nn_eq g11)⟩ g12 (hle.d rfl)⟩) ?_
     exact trivial
    case hk2x => rfl
    case hf2x => rfl
    refine aops_step1 rfl (ev_call_v (disk_crash_fn k a0 (a0.Data.take ((a1).toNat)) x13 hx13) rfl [] ai rfl rfl rfl (.inl rfl) rfl) (s_st [_, _, _, _, _, _] ?_)
    refine s_sa ?_
    refine aops_nil ?_
    cases Option.some.inj h
    exact aw_ret ⟨rfl, rv (rn (.cons (va [_, _, _, _, _, _]) (.cons o1 .nil)))⟩
  replace h := Md.cond_f h c10
  refine aw_seq (aw_region (s_fd ?_))
  refine s_ld ?_
  refine s_mv ?_
  refine aops_mid 4 (⟨66, [], [(1, vI a1), (2, .one (.ptr 0 0)), (4, .one (.ptr 1 0)), (54, vB (a0.Armed && (a0.Writes == 0)))], [(0, some (.box (c_Disk a0))), (1, some (.box [.val (.slice none 0 0), cI 0, cB false, cI 0, cI 0, cB false]))]⟩ : ASt) ?_ ?_
  · rcases Md.bool_or (a0.Armed) with q14 | q14
    · skip
      refine y_fd q14 ?_
      refine y_ld q14 ?_
      refine y_cm q14 ?_
      refine s_py q14 ?_
      refine aops_nil ?_
      exact wq q14
    iterate 3 refine np q14 ?_
    refine s_pn q14 ?_
    refine aops_nil ?_
    exact wq q14
  refine s_sa ?_
  refine aops_nil ?_
  refine aw_cond rfl (fun c15 => ?_) (fun c15 => ?_)
  · replace h := Md.cond_t h c15
    refine aw_seq (aw_region (s_ls [_, _, _, _, _, _] ?_))
    refine s_fd ?_
    refine s_ld ?_
    obtain ⟨x16, hx16, h⟩ := Md.bind_s h
    refine aops_step1 rfl (ev_call_v (disk_crash_fn k a0 a0.Data x16 hx16) rfl [] ai rfl rfl rfl (.inl rfl) rfl) (s_st [_, _, _, _, _, _] ?_)
    refine s_sa ?_
    refine aops_nil ?_
    cases Option.some.inj h
    exact aw_ret ⟨rfl, rv (rn (.cons (va [_, _, _, _, _, _]) (.cons o1 .nil)))⟩
  replace h := Md.cond_f h c15
  refine aw_skip ?_
  obtain ⟨g17, h⟩ := Md.ifp_s h
  obtain ⟨g18, h⟩ := Md.ifp_s h
  obtain ⟨g19, h⟩ := Md.ifp_s h
  obtain ⟨x20, hx20, h⟩ := Md.bind_s h
  refine aw_seq ?_
  apply aw_draw 6 ((⟨[], .agg (c_Disk a0)⟩ : Add) :: ⟨[], .one (.ptr 0 _)⟩ :: ⟨[], .one (CV.ls byC a0.Data)⟩ :: ⟨[], vI a1⟩ :: ⟨[], .one (CV.ls byC (a0.Data.take ((a1).toNat)))⟩ :: ⟨[], .one (CV.ls byC (a0.Data.take ((a1).toNat)))⟩ :: []) (by decide) rfl ?hk3x ?hf3x ?ho3x ?hr3x
  case ho3x =>
   refine ob [] (fun S hle hfr => .inl ⟨w0, ev_loads (ds := [_, _, _, _, _, _]) (hle.e rfl) (hle.heap _ _ rfl) rfl rfl (hle.d rfl)⟩) ?_
   refine ob [] (fun S hle hfr => .inl ⟨w0, ev_field (hle.e rfl) rfl (hle.d rfl)⟩) ?_
   refine ob [1] (fun S hle hfr => .inl ⟨w0, ev_load (hle.e rfl) (hle.heap _ _ rfl) rfl (hle.d rfl)⟩) ?_
   refine ob [] (fun S hle hfr => .inl ⟨w0, st_move (hle.e rfl) (hle.d rfl)⟩) ?_
   refine ob [2, 3, 1] (fun S hle hfr => .inl ⟨w0, st_cut_hi (f := byC) (fun _ => rfl) (hle.e rfl) ⟨_, _, (hle.e rfl), (Md.nn_eq g17)⟩ g18 (hle.d rfl)⟩) ?_
   refine ob [4, 2, 3, 1] (fun S hle hfr => .inl ⟨w0, st_app_nil_z (f := byC) (a0.Data.take ((a1).toNat)) (fun _ => rfl) (hle.e rfl) (.inl (hle.e rfl)) (by omega) (by omega) (hle.d rfl)⟩) ?_
   exact trivial
  case hk3x => rfl
  case hf3x => rfl
  refine aops_step1 rfl (ev_call_v (disk_written_fn k a0 (a0.Data.take ((a1).toNat)) x20 hx20) rfl [] ai rfl rfl rfl (.inl rfl) rfl) (s_st [_, _, _, _, _, _] ?_)
  refine s_sa ?_
  refine aops_nil ?_
  cases Option.some.inj h
  exact aw_ret ⟨rfl, rv (rn (.cons (va [_, _, _, _, _, _]) (.cons o1 .nil)))⟩
set_option maxHeartbeats 2000000 in
theorem disk_Arm_fn (k : Nat) (a0 : Disk) (a1 : Int) (a2 : Int) (r : Disk × Int) (h : disk_Arm k a0 a1 a2 = some r) : FnC Try.prog 17 [.agg (c_Disk a0), vI a1, vI a2] [] (Det (.tup [.agg (c_Disk r.1), vI r.2]) []) := by
  unfold disk_Arm at h
  refine fn_intro' 33 Try.func17 rfl rfl rfl (aw_seq (aw_region (aops_step1 rfl (st_box 0 rfl rfl rfl rfl) ?_)))
  refine aops_step1 rfl (st_alloc (cs := [.val (.slice none 0 0), cI 0, cB false, cI 0, cI 0, cB false]) 1 rfl rfl rfl rfl rfl) (s_sa ?_)
  refine aops_nil (aw_seq (aw_block (aw_seq (aw_region (s_ls [_, _, _, _, _, _] ?_)))))
  obtain ⟨x1, hx1, h⟩ := Md.bind_s h
  refine aops_step1 rfl (ev_call_v (disk_Valid_fn k a0 x1 hx1) rfl [] ai rfl rfl rfl (.inl rfl) rfl) (s_nt ?_)
  refine s_mv ?_
  refine aops_mid 3 (⟨33, [], [(1, vI a1), (2, vI a2), (3, .one (.ptr 0 0)), (6, .one (.ptr 1 0)), (15, vB ((!x1) || (decide (a1 < 0))))], [(0, some (.box (c_Disk a0))), (1, some (.box [.val (.slice none 0 0), cI 0, cB false, cI 0, cI 0, cB false]))]⟩ : ASt) ?_ ?_
  · rcases Md.bool_or ((!x1)) with q2 | q2
    · skip
      iterate 2 refine np q2 ?_
      refine s_py q2 ?_
      refine aops_nil ?_
      exact wq q2
    refine y_mv q2 ?_
    refine y_cm q2 ?_
    refine s_pn q2 ?_
    refine aops_nil ?_
    exact wq q2
  refine s_mv ?_
  refine aops_mid 3 (⟨33, [], [(1, vI a1), (2, vI a2), (3, .one (.ptr 0 0)), (6, .one (.ptr 1 0)), (19, vB (((!x1) || (decide (a1 < 0))) || (decide (a2 < 0))))], [(0, some (.box (c_Disk a0))), (1, some (.box [.val (.slice none 0 0), cI 0, cB false, cI 0, cI 0, cB false]))]⟩ : ASt) ?_ ?_
  · rcases Md.bool_or (((!x1) || (decide (a1 < 0)))) with q3 | q3
    · skip
      iterate 2 refine np q3 ?_
      refine s_py q3 ?_
      refine aops_nil ?_
      exact wq q3
    refine y_mv q3 ?_
    refine y_cm q3 ?_
    refine s_pn q3 ?_
    refine aops_nil ?_
    exact wq q3
  refine s_sa ?_
  refine aops_nil ?_
  refine aw_cond rfl (fun c4 => ?_) (fun c4 => ?_)
  · replace h := Md.cond_t h c4
    refine aw_seq (aw_region (aops_step1 rfl (ev_build' (out := [_, _, _, _, _, _]) rfl rfl rfl rfl rfl) (s_st [_, _, _, _, _, _] ?_)))
    refine s_sa ?_
    refine aops_nil ?_
    cases Option.some.inj h
    exact aw_ret ⟨rfl, rv (rn (.cons (va [_, _, _, _, _, _]) (.cons o1 .nil)))⟩
  replace h := Md.cond_f h c4
  refine aw_seq (aw_region (s_fd ?_))
  refine s_ld ?_
  refine s_sa ?_
  refine aops_nil ?_
  refine aw_cond rfl (fun c5 => ?_) (fun c5 => ?_)
  · replace h := Md.cond_t h c5
    refine aw_seq (aw_region (aops_step1 rfl (ev_build' (out := [_, _, _, _, _, _]) rfl rfl rfl rfl rfl) (s_st [_, _, _, _, _, _] ?_)))
    refine s_sa ?_
    refine aops_nil ?_
    cases Option.some.inj h
    exact aw_ret ⟨rfl, rv (rn (.cons (va [_, _, _, _, _, _]) (.cons o1 .nil)))⟩
  replace h := Md.cond_f h c5
  refine aw_skip (aw_seq (aw_region (s_ls [_, _, _, _, _, _] ?_)))
  obtain ⟨x6, hx6, h⟩ := Md.bind_s h
  refine aops_step1 rfl (ev_call_v (disk_clone_fn k a0 x6 hx6) rfl [] ai rfl rfl rfl (.inl rfl) rfl) (s_st [_, _, _, _, _, _] ?_)
  refine aops_nil (aw_seq (aw_region ?_))
  iterate 2 refine s_mv ?_
  refine s_fd ?_
  refine s_st [_, _, _, _, _, _] ?_
  refine s_fd ?_
  refine s_st [_, _, _, _, _, _] ?_
  refine s_fd ?_
  refine s_st [_, _, _, _, _, _] ?_
  refine aops_nil (aw_seq (aw_region (s_ls [_, _, _, _, _, _] ?_)))
  refine s_st [_, _, _, _, _, _] ?_
  refine s_sa ?_
  refine aops_nil ?_
  cases Option.some.inj h
  exact aw_ret ⟨rfl, rv (rn (.cons (va [_, _, _, _, _, _]) (.cons o1 .nil)))⟩
set_option maxHeartbeats 2000000 in
theorem disk_Restart_fn (k : Nat) (a0 : Disk) (r : Disk × Int) (h : disk_Restart k a0 = some r) : FnC Try.prog 19 [.agg (c_Disk a0)] [] (Det (.tup [.agg (c_Disk r.1), vI r.2]) []) := by
  unfold disk_Restart at h
  refine fn_intro' 14 Try.func19 rfl rfl rfl (aw_seq (aw_region (aops_step1 rfl (st_box 0 rfl rfl rfl rfl) ?_)))
  refine aops_step1 rfl (st_alloc (cs := [.val (.slice none 0 0), cI 0, cB false, cI 0, cI 0, cB false]) 1 rfl rfl rfl rfl rfl) (s_sa ?_)
  refine aops_nil (aw_seq (aw_seq (aw_region (s_ls [_, _, _, _, _, _] ?_))))
  obtain ⟨x1, hx1, h⟩ := Md.bind_s h
  refine aops_step1 rfl (ev_call_v (disk_Valid_fn k a0 x1 hx1) rfl [] ai rfl rfl rfl (.inl rfl) rfl) (s_nt ?_)
  refine aops_nil ?_
  refine aw_cond rfl (fun c2 => ?_) (fun c2 => ?_)
  · replace h := Md.cond_t h c2
    refine aw_seq (aw_region (aops_step1 rfl (ev_build' (out := [_, _, _, _, _, _]) rfl rfl rfl rfl rfl) (s_st [_, _, _, _, _, _] ?_)))
    refine s_sa ?_
    refine aops_nil ?_
    cases Option.some.inj h
    exact aw_ret ⟨rfl, rv (rn (.cons (va [_, _, _, _, _, _]) (.cons o1 .nil)))⟩
  replace h := Md.cond_f h c2
  refine aw_skip ?_
  obtain ⟨g3, h⟩ := Md.ifp_s h
  refine aw_seq ?_
  apply aw_draw 5 ((⟨[], .one (.ptr 0 _)⟩ : Add) :: ⟨[], .one (CV.ls byC a0.Data)⟩ :: ⟨[], .one (CV.ls byC a0.Data)⟩ :: ⟨[], .one (.ptr 0 _)⟩ :: ⟨[], vI a0.Capacity⟩ :: []) (by decide) rfl ?hk1x ?hf1x ?ho1x ?hr1x
  case ho1x =>
   refine ob [] (fun S hle hfr => .inl ⟨w0, ev_field (hle.e rfl) rfl (hle.d rfl)⟩) ?_
   refine ob [0] (fun S hle hfr => .inl ⟨w0, ev_load (hle.e rfl) (hle.heap _ _ rfl) rfl (hle.d rfl)⟩) ?_
   refine ob [1, 0] (fun S hle hfr => .inl ⟨w0, st_app_nil_z (f := byC) a0.Data (fun _ => rfl) (hle.e rfl) (.inl (hle.e rfl)) (by omega) (by omega) (hle.d rfl)⟩) ?_
   refine ob [] (fun S hle hfr => .inl ⟨w0, ev_field (hle.e rfl) rfl (hle.d rfl)⟩) ?_
   refine ob [3] (fun S hle hfr => .inl ⟨w0, ev_load (hle.e rfl) (hle.heap _ _ rfl) rfl (hle.d rfl)⟩) ?_
   exact trivial
  case hk1x => rfl
  case hf1x => rfl
  refine aops_step1 rfl (ev_build' (out := [_, _, _, _, _, _]) rfl rfl rfl rfl rfl) (s_st [_, _, _, _, _, _] ?_)
  refine s_sa ?_
  refine aops_nil ?_
  cases Option.some.inj h
  exact aw_ret ⟨rfl, rv (rn (.cons (va [_, _, _, _, _, _]) (.cons o1 .nil)))⟩
set_option maxHeartbeats 2000000 in
theorem actorgridref26_copyDisk_fn (k : Nat) (a0 : Disk) (r : Disk) (h : actorgridref26_copyDisk k a0 = some r) : FnC Try.prog 63 [.agg (c_Disk a0)] [] (Det (.agg [.own 0, cI r.Capacity, cB r.Armed, cI r.Writes, cI r.Keep, cB r.Down]) [(0, some (.row 5 1 r.Data.length (lsEl byC r.Data)))]) := by
  unfold actorgridref26_copyDisk at h
  refine fn_intro' 9 Try.func63 rfl rfl rfl (aw_seq (aw_region (aops_step1 rfl (st_box 0 rfl rfl rfl rfl) ?_)))
  refine aops_step1 rfl (st_alloc (cs := [.val (.slice none 0 0), cI 0, cB false, cI 0, cI 0, cB false]) 1 rfl rfl rfl rfl rfl) (aops_nil (aw_seq (aw_region ?_)))
  refine aops_step1 rfl (st_slice_lit (el := lsEl byC ([] : List UInt8)) 2 rfl rfl rfl rfl rfl rfl rfl rfl (lit_el byC 1 ([] : List UInt8) (fun _ => rfl)) rfl) (s_fd ?_)
  refine s_ld ?_
  obtain ⟨g1, h⟩ := Md.ifp_s h
  refine aops_step1 rfl (st_app_ls (f := byC) ([] : List UInt8) a0.Data (fun _ => rfl) rfl rfl (.inl rfl) (by omega) (by omega) rfl) (s_fd ?_)
  refine s_st [_, _, _, _, _, _] ?_
  refine aops_nil (aw_seq (aw_region (s_ls [_, _, _, _, _, _] ?_)))
  refine s_st [_, _, _, _, _, _] ?_
  refine aops_nil ?_
  cases Option.some.inj h
  refine aw_ret ⟨rfl, ret_r 2 (rg [_, _, _, _, _, _]) rfl rfl rfl ?_ ?_ ?_⟩
  · first | exact TLe.refl _ | (repeat' (first | exact .refl _ | exact .nil | refine .tup ?_ | refine .v ?_ | refine .cons ?_ ?_ | refine .agg ?_ | refine .one ?_ | exact .nil _ | exact .emp _ | refine .val ?_ | refine .slc ?_ ?_ | fail))
  · rfl
  · rfl
set_option maxHeartbeats 2000000 in
theorem actorgridref26_AppendDisk_fn (k : Nat) (a0 : Disk) (a1 : List UInt8) (r : Disk × Int) (h : actorgridref26_AppendDisk k a0 a1 = some r) : FnC Try.prog 23 [.agg (c_Disk a0), .one (CV.ls byC a1)] [] (Det (.tup [.agg (c_Disk r.1), vI r.2]) []) := by
  unfold actorgridref26_AppendDisk at h
  refine fn_intro' 60 Try.func23 rfl rfl rfl (aw_seq (aw_region (aops_step1 rfl (st_box 0 rfl rfl rfl rfl) ?_)))
  refine aops_step1 rfl (st_alloc (cs := [.val (.slice none 0 0), cI 0, cB false, cI 0, cI 0, cB false]) 1 rfl rfl rfl rfl rfl) (s_sa ?_)
  refine aops_nil (aw_seq (aw_seq (aw_region (s_ls [_, _, _, _, _, _] ?_))))
  obtain ⟨x1, hx1, h⟩ := Md.bind_s h
  refine aops_step1 rfl (ev_call_v (actorgridref26_ValidDisk_fn k a0 x1 hx1) rfl [] ai rfl rfl rfl (.inl rfl) rfl) (s_nt ?_)
  refine aops_nil ?_
  refine aw_cond rfl (fun c2 => ?_) (fun c2 => ?_)
  · replace h := Md.cond_t h c2
    refine aw_seq (aw_region (aops_step1 rfl (ev_build' (out := [_, _, _, _, _, _]) rfl rfl rfl rfl rfl) (s_st [_, _, _, _, _, _] ?_)))
    refine s_sa ?_
    refine aops_nil ?_
    cases Option.some.inj h
    exact aw_ret ⟨rfl, rv (rn (.cons (va [_, _, _, _, _, _]) (.cons o1 .nil)))⟩
  replace h := Md.cond_f h c2
  refine aw_skip (aw_seq (aw_region (s_ls [_, _, _, _, _, _] ?_)))
  obtain ⟨x3, hx3, h⟩ := Md.bind_s h
  refine aops_step1 rfl (st_call_r (r' := .agg [.own 2, cI x3.Capacity, cB x3.Armed, cI x3.Writes, cI x3.Keep, cB x3.Down]) 2 rfl (actorgridref26_copyDisk_fn k a0 x3 hx3) rfl [] ai rfl rfl rfl (.inl rfl) rfl rfl) (s_st [_, _, _, _, _, _] ?_)
  refine aops_nil (aw_seq (aw_seq (aw_region (s_fd ?_))))
  refine s_ld ?_
  refine aops_nil ?_
  refine aw_cond rfl (fun c4 => ?_) (fun c4 => ?_)
  · replace h := Md.cond_t h c4
    refine aw_seq (aw_region (s_ls [_, _, _, _, _, _] ?_))
    refine s_st [_, _, _, _, _, _] ?_
    refine s_sa ?_
    refine aops_nil ?_
    cases Option.some.inj h
    refine aw_freeze 2 rfl ?_
    exact aw_ret ⟨rfl, rv (rn (.cons (va [_, _, _, _, _, _]) (.cons o1 .nil)))⟩
  replace h := Md.cond_f h c4
  refine aw_skip (aw_seq (aw_seq (aw_region (s_mv ?_))))
  refine s_ln ?_
  refine s_fd ?_
  refine s_ld ?_
  refine s_fd ?_
  refine s_ld ?_
  refine aops_step1 rfl (ev_len_own rfl rfl rfl) (aops_step1 rfl (ev_sub rfl rfl rfl (Md.wrap_W _)) (s_cm ?_))
  refine aops_nil ?_
  refine aw_cond rfl (fun c5 => ?_) (fun c5 => ?_)
  · replace h := Md.cond_t h c5
    refine aw_seq (aw_region (s_ls [_, _, _, _, _, _] ?_))
    refine s_st [_, _, _, _, _, _] ?_
    refine s_sa ?_
    refine aops_nil ?_
    cases Option.some.inj h
    refine aw_freeze 2 rfl ?_
    exact aw_ret ⟨rfl, rv (rn (.cons (va [_, _, _, _, _, _]) (.cons o1 .nil)))⟩
  replace h := Md.cond_f h c5
  refine aw_skip (aw_seq (aw_seq (aw_region (s_fd ?_))))
  refine s_ld ?_
  refine s_mv ?_
  refine aops_mid 4 (⟨60, [], [(1, .one (CV.ls byC a1)), (2, .one (.ptr 0 0)), (4, .one (.ptr 1 0)), (31, vB (x3.Armed && (x3.Writes == 0)))], [(0, some (.box [.own 2, cI x3.Capacity, cB x3.Armed, cI x3.Writes, cI x3.Keep, cB x3.Down])), (1, some (.box [.val (.slice none 0 0), cI 0, cB false, cI 0, cI 0, cB false])), (2, some (.row 5 1 x3.Data.length (lsEl byC x3.Data)))]⟩ : ASt) ?_ ?_
  · rcases Md.bool_or (x3.Armed) with q6 | q6
    · skip
      refine y_fd q6 ?_
      refine y_ld q6 ?_
      refine y_cm q6 ?_
      refine s_py q6 ?_
      refine aops_nil ?_
      exact wq q6
    iterate 3 refine np q6 ?_
    refine s_pn q6 ?_
    refine aops_nil ?_
    exact wq q6
  refine aops_nil ?_
  refine aw_cond rfl (fun c7 => ?_) (fun c7 => ?_)
  · replace h := Md.cond_t h c7
    obtain ⟨g8, h⟩ := Md.ifp_s h
    obtain ⟨g9, h⟩ := Md.ifp_s h
    obtain ⟨g10, h⟩ := Md.ifp_s h
    refine aw_seq ?_
    apply aw_draw 9 ((⟨[], .one (.ptr 0 _)⟩ : Add) :: ⟨[], .one (.own 2)⟩ :: ⟨[], .one (CV.ls byC a1)⟩ :: ⟨[], .one (.ptr 0 _)⟩ :: ⟨[], vI x3.Keep⟩ :: ⟨[], .one (CV.ls byC a1)⟩ :: ⟨[], vI ((a1.length : Nat) : Int)⟩ :: ⟨[], vI (min x3.Keep ((a1.length : Nat) : Int))⟩ :: ⟨[], .one (CV.ls byC (a1.take (((min x3.Keep ((a1.length : Nat) : Int))).toNat)))⟩ :: []) (by decide) rfl ?hk1x ?hf1x ?ho1x ?hr1x
    case ho1x =>
     refine ob [] (fun S hle hfr => .inl ⟨w0, ev_field (hle.e rfl) rfl (hle.d rfl)⟩) ?_
     refine ob [0] (fun S hle hfr => .inl ⟨w0, ev_load (hle.e rfl) (hle.heap _ _ rfl) rfl (hle.d rfl)⟩) ?_
     refine ob [] (fun S hle hfr => .inl ⟨w0, st_move (hle.e rfl) (hle.d rfl)⟩) (ob [] (fun S hle hfr => .inl ⟨w0, ev_field (hle.e rfl) rfl (hle.d rfl)⟩) ?_)
     refine ob [3] (fun S hle hfr => .inl ⟨w0, ev_load (hle.e rfl) (hle.heap _ _ rfl) rfl (hle.d rfl)⟩) ?_
     refine ob [] (fun S hle hfr => .inl ⟨w0, st_move (hle.e rfl) (hle.d rfl)⟩) (ob [5] (fun S hle hfr => .inl ⟨w0, ev_len_slc (hle.e rfl) (hle.d rfl)⟩) ?_)
     refine ob [4, 6, 3, 5] (fun S hle hfr => .inl ⟨w0, ev_min (hle.e rfl) (hle.e rfl) (hle.d rfl) (Md.int_min _ _)⟩) ?_
     refine ob [2, 7, 4, 6, 3, 5] (fun S hle hfr => .inl ⟨w0, st_cut_hi (f := byC) (fun _ => rfl) (hle.e rfl) ⟨_, _, (hle.e rfl), (Md.nn_eq g8)⟩ g9 (hle.d rfl)⟩) ?_
     exact trivial
    case hk1x => rfl
    case hf1x => rfl
    refine aops_step1 rfl (st_app_ls (f := byC) x3.Data (a1.take (((min x3.Keep ((a1.length : Nat) : Int))).toNat)) (fun _ => rfl) rfl rfl (.inl rfl) (by omega) (by omega) rfl) (s_fd ?_)
    refine s_st [_, _, _, _, _, _] ?_
    refine aops_nil (aw_seq (aw_region (s_fd ?_)))
    refine s_ld ?_
    refine s_fd ?_
    refine s_ld ?_
    refine aops_step1 rfl (ev_build' (out := [_, _, _, _, _, _]) rfl rfl rfl rfl rfl) (s_st [_, _, _, _, _, _] ?_)
    refine s_sa ?_
    refine aops_nil ?_
    cases Option.some.inj h
    refine aw_freeze 2 rfl ?_
    exact aw_ret ⟨rfl, rv (rn (.cons (va [_, _, _, _, _, _]) (.cons o1 .nil)))⟩
  replace h := Md.cond_f h c7
  refine aw_skip (aw_seq (aw_region (s_fd ?_)))
  refine s_ld ?_
  refine s_mv ?_
  obtain ⟨g11, h⟩ := Md.ifp_s h
  refine aops_step1 rfl (st_app_ls (f := byC) x3.Data a1 (fun _ => rfl) rfl rfl (.inl rfl) (by omega) (by omega) rfl) (s_fd ?_)
  refine s_st [_, _, _, _, _, _] ?_
  refine aops_nil (aw_seq (aw_seq (aw_region (s_fd ?_))))
  refine s_ld ?_
  refine aops_nil ?_
  refine aw_cond rfl (fun c12 => ?_) (fun c12 => ?_)
  · replace h := Md.cond_t h c12
    refine aw_region (s_fd ?_)
    refine s_ld ?_
    refine aops_step1 rfl (ev_sub rfl rfl rfl (Md.wrap_W _)) (s_fd ?_)
    refine s_st [_, _, _, _, _, _] ?_
    refine aops_nil (aw_seq (aw_region (s_ls [_, _, _, _, _, _] ?_)))
    refine s_st [_, _, _, _, _, _] ?_
    refine s_sa ?_
    refine aops_nil ?_
    cases Option.some.inj h
    refine aw_freeze 2 rfl ?_
    exact aw_ret ⟨rfl, rv (rn (.cons (va [_, _, _, _, _, _]) (.cons o1 .nil)))⟩
  replace h := Md.cond_f h c12
  refine aw_skip (aw_seq (aw_region (s_ls [_, _, _, _, _, _] ?_)))
  refine s_st [_, _, _, _, _, _] ?_
  refine s_sa ?_
  refine aops_nil ?_
  cases Option.some.inj h
  refine aw_freeze 2 rfl ?_
  exact aw_ret ⟨rfl, rv (rn (.cons (va [_, _, _, _, _, _]) (.cons o1 .nil)))⟩
set_option maxHeartbeats 2000000 in
theorem actorgridref26_Truncate_fn (k : Nat) (a0 : Disk) (a1 : Int) (r : Disk × Int) (h : actorgridref26_Truncate k a0 a1 = some r) : FnC Try.prog 26 [.agg (c_Disk a0), vI a1] [] (Det (.tup [.agg (c_Disk r.1), vI r.2]) []) := by
  unfold actorgridref26_Truncate at h
  refine fn_intro' 57 Try.func26 rfl rfl rfl (aw_seq (aw_region (aops_step1 rfl (st_box 0 rfl rfl rfl rfl) ?_)))
  refine aops_step1 rfl (st_alloc (cs := [.val (.slice none 0 0), cI 0, cB false, cI 0, cI 0, cB false]) 1 rfl rfl rfl rfl rfl) (s_sa ?_)
  refine aops_nil (aw_seq (aw_seq (aw_region (s_ls [_, _, _, _, _, _] ?_))))
  obtain ⟨x1, hx1, h⟩ := Md.bind_s h
  refine aops_step1 rfl (ev_call_v (actorgridref26_ValidDisk_fn k a0 x1 hx1) rfl [] ai rfl rfl rfl (.inl rfl) rfl) (s_nt ?_)
  refine aops_nil ?_
  refine aw_cond rfl (fun c2 => ?_) (fun c2 => ?_)
  · replace h := Md.cond_t h c2
    refine aw_seq (aw_region (aops_step1 rfl (ev_build' (out := [_, _, _, _, _, _]) rfl rfl rfl rfl rfl) (s_st [_, _, _, _, _, _] ?_)))
    refine s_sa ?_
    refine aops_nil ?_
    cases Option.some.inj h
    exact aw_ret ⟨rfl, rv (rn (.cons (va [_, _, _, _, _, _]) (.cons o1 .nil)))⟩
  replace h := Md.cond_f h c2
  refine aw_skip (aw_seq (aw_region (s_ls [_, _, _, _, _, _] ?_)))
  obtain ⟨x3, hx3, h⟩ := Md.bind_s h
  refine aops_step1 rfl (st_call_r (r' := .agg [.own 2, cI x3.Capacity, cB x3.Armed, cI x3.Writes, cI x3.Keep, cB x3.Down]) 2 rfl (actorgridref26_copyDisk_fn k a0 x3 hx3) rfl [] ai rfl rfl rfl (.inl rfl) rfl rfl) (s_st [_, _, _, _, _, _] ?_)
  refine aops_nil (aw_seq (aw_seq (aw_region (s_fd ?_))))
  refine s_ld ?_
  refine aops_nil ?_
  refine aw_cond rfl (fun c4 => ?_) (fun c4 => ?_)
  · replace h := Md.cond_t h c4
    refine aw_seq (aw_region (s_ls [_, _, _, _, _, _] ?_))
    refine s_st [_, _, _, _, _, _] ?_
    refine s_sa ?_
    refine aops_nil ?_
    cases Option.some.inj h
    refine aw_freeze 2 rfl ?_
    exact aw_ret ⟨rfl, rv (rn (.cons (va [_, _, _, _, _, _]) (.cons o1 .nil)))⟩
  replace h := Md.cond_f h c4
  refine aw_skip (aw_seq (aw_seq (aw_region (s_mv ?_))))
  refine s_cm ?_
  refine s_mv ?_
  refine aops_mid 6 (⟨57, [], [(1, vI a1), (2, .one (.ptr 0 0)), (4, .one (.ptr 1 0)), (23, vB ((decide (a1 < 0)) || (decide (a1 > ((x3.Data.length : Nat) : Int)))))], [(0, some (.box [.own 2, cI x3.Capacity, cB x3.Armed, cI x3.Writes, cI x3.Keep, cB x3.Down])), (1, some (.box [.val (.slice none 0 0), cI 0, cB false, cI 0, cI 0, cB false])), (2, some (.row 5 1 x3.Data.length (lsEl byC x3.Data)))]⟩ : ASt) ?_ ?_
  · rcases Md.bool_or ((decide (a1 < 0))) with q5 | q5
    · skip
      iterate 5 refine np q5 ?_
      refine s_py q5 ?_
      refine aops_nil ?_
      exact wq q5
    refine y_mv q5 ?_
    refine y_fd q5 ?_
    refine y_ld q5 ?_
    refine aops_yes rfl rfl rfl rfl q5 (ev_len_own rfl rfl rfl) (y_cm q5 ?_)
    refine s_pn q5 ?_
    refine aops_nil ?_
    exact wq q5
  refine aops_nil ?_
  refine aw_cond rfl (fun c6 => ?_) (fun c6 => ?_)
  · replace h := Md.cond_t h c6
    refine aw_seq (aw_region (s_ls [_, _, _, _, _, _] ?_))
    refine s_st [_, _, _, _, _, _] ?_
    refine s_sa ?_
    refine aops_nil ?_
    cases Option.some.inj h
    refine aw_freeze 2 rfl ?_
    exact aw_ret ⟨rfl, rv (rn (.cons (va [_, _, _, _, _, _]) (.cons o1 .nil)))⟩
  replace h := Md.cond_f h c6
  refine aw_skip (aw_seq (aw_seq (aw_region (s_fd ?_))))
  refine s_ld ?_
  refine s_mv ?_
  refine aops_mid 4 (⟨57, [], [(1, vI a1), (2, .one (.ptr 0 0)), (4, .one (.ptr 1 0)), (31, vB (x3.Armed && (x3.Writes == 0)))], [(0, some (.box [.own 2, cI x3.Capacity, cB x3.Armed, cI x3.Writes, cI x3.Keep, cB x3.Down])), (1, some (.box [.val (.slice none 0 0), cI 0, cB false, cI 0, cI 0, cB false])), (2, some (.row 5 1 x3.Data.length (lsEl byC x3.Data)))]⟩ : ASt) ?_ ?_
  · rcases Md.bool_or (x3.Armed) with q7 | q7
    · skip
      refine y_fd q7 ?_
      refine y_ld q7 ?_
      refine y_cm q7 ?_
      refine s_py q7 ?_
      refine aops_nil ?_
      exact wq q7
    iterate 3 refine np q7 ?_
    refine s_pn q7 ?_
    refine aops_nil ?_
    exact wq q7
  refine aops_nil ?_
  refine aw_cond rfl (fun c8 => ?_) (fun c8 => ?_)
  · replace h := Md.cond_t h c8
    refine aw_seq (aw_seq (aw_region (s_fd ?_)))
    refine s_ld ?_
    refine s_cm ?_
    refine aops_nil ?_
    refine aw_cond rfl (fun c9 => ?_) (fun c9 => ?_)
    · replace h := Md.cond_t h c9
      refine aw_region (s_fd ?_)
      refine s_ld ?_
      refine s_mv ?_
      obtain ⟨g10, h⟩ := Md.ifp_s h
      obtain ⟨g11, h⟩ := Md.ifp_s h
      refine aops_freeze 2 rfl (aops_step1 rfl (st_cut_hi (f := byC) (fun _ => rfl) rfl ⟨_, _, rfl, (Md.nn_eq g10)⟩ g11 rfl) (s_fd ?_))
      refine s_st [_, _, _, _, _, _] ?_
      refine aops_nil (aw_seq (aw_region (s_fd ?_)))
      refine s_ld ?_
      refine s_fd ?_
      refine s_ld ?_
      refine aops_step1 rfl (ev_build' (out := [_, _, _, _, _, _]) rfl rfl rfl rfl rfl) (s_st [_, _, _, _, _, _] ?_)
      refine s_sa ?_
      refine aops_nil ?_
      cases Option.some.inj h
      exact aw_ret ⟨rfl, rv (rn (.cons (va [_, _, _, _, _, _]) (.cons o1 .nil)))⟩
    replace h := Md.cond_f h c9
    refine aw_skip (aw_seq (aw_region (s_fd ?_)))
    refine s_ld ?_
    refine s_fd ?_
    refine s_ld ?_
    refine aops_step1 rfl (ev_build' (out := [_, _, _, _, _, _]) rfl rfl rfl rfl rfl) (s_st [_, _, _, _, _, _] ?_)
    refine s_sa ?_
    refine aops_nil ?_
    cases Option.some.inj h
    refine aw_freeze 2 rfl ?_
    exact aw_ret ⟨rfl, rv (rn (.cons (va [_, _, _, _, _, _]) (.cons o1 .nil)))⟩
  replace h := Md.cond_f h c8
  refine aw_skip (aw_seq (aw_region (s_fd ?_)))
  refine s_ld ?_
  refine s_mv ?_
  obtain ⟨g12, h⟩ := Md.ifp_s h
  obtain ⟨g13, h⟩ := Md.ifp_s h
  refine aops_freeze 2 rfl (aops_step1 rfl (st_cut_hi (f := byC) (fun _ => rfl) rfl ⟨_, _, rfl, (Md.nn_eq g12)⟩ g13 rfl) (s_fd ?_))
  refine s_st [_, _, _, _, _, _] ?_
  refine aops_nil (aw_seq (aw_seq (aw_region (s_fd ?_))))
  refine s_ld ?_
  refine aops_nil ?_
  refine aw_cond rfl (fun c14 => ?_) (fun c14 => ?_)
  · replace h := Md.cond_t h c14
    refine aw_region (s_fd ?_)
    refine s_ld ?_
    refine aops_step1 rfl (ev_sub rfl rfl rfl (Md.wrap_W _)) (s_fd ?_)
    refine s_st [_, _, _, _, _, _] ?_
    refine aops_nil (aw_seq (aw_region (s_ls [_, _, _, _, _, _] ?_)))
    refine s_st [_, _, _, _, _, _] ?_
    refine s_sa ?_
    refine aops_nil ?_
    cases Option.some.inj h
    exact aw_ret ⟨rfl, rv (rn (.cons (va [_, _, _, _, _, _]) (.cons o1 .nil)))⟩
  replace h := Md.cond_f h c14
  refine aw_skip (aw_seq (aw_region (s_ls [_, _, _, _, _, _] ?_)))
  refine s_st [_, _, _, _, _, _] ?_
  refine s_sa ?_
  refine aops_nil ?_
  cases Option.some.inj h
  exact aw_ret ⟨rfl, rv (rn (.cons (va [_, _, _, _, _, _]) (.cons o1 .nil)))⟩
set_option maxHeartbeats 2000000 in
theorem actorgridref26_Arm_fn (k : Nat) (a0 : Disk) (a1 : Int) (a2 : Int) (r : Disk × Int) (h : actorgridref26_Arm k a0 a1 a2 = some r) : FnC Try.prog 27 [.agg (c_Disk a0), vI a1, vI a2] [] (Det (.tup [.agg (c_Disk r.1), vI r.2]) []) := by
  unfold actorgridref26_Arm at h
  refine fn_intro' 31 Try.func27 rfl rfl rfl (aw_seq (aw_region (aops_step1 rfl (st_box 0 rfl rfl rfl rfl) ?_)))
  refine aops_step1 rfl (st_alloc (cs := [.val (.slice none 0 0), cI 0, cB false, cI 0, cI 0, cB false]) 1 rfl rfl rfl rfl rfl) (s_sa ?_)
  refine aops_nil (aw_seq (aw_seq (aw_region (s_ls [_, _, _, _, _, _] ?_))))
  obtain ⟨x1, hx1, h⟩ := Md.bind_s h
  refine aops_step1 rfl (ev_call_v (actorgridref26_ValidDisk_fn k a0 x1 hx1) rfl [] ai rfl rfl rfl (.inl rfl) rfl) (s_nt ?_)
  refine s_mv ?_
  refine aops_mid 3 (⟨31, [], [(1, vI a1), (2, vI a2), (3, .one (.ptr 0 0)), (6, .one (.ptr 1 0)), (14, vB ((!x1) || (decide (a1 < 0))))], [(0, some (.box (c_Disk a0))), (1, some (.box [.val (.slice none 0 0), cI 0, cB false, cI 0, cI 0, cB false]))]⟩ : ASt) ?_ ?_
  · rcases Md.bool_or ((!x1)) with q2 | q2
    · skip
      iterate 2 refine np q2 ?_
      refine s_py q2 ?_
      refine aops_nil ?_
      exact wq q2
    refine y_mv q2 ?_
    refine y_cm q2 ?_
    refine s_pn q2 ?_
    refine aops_nil ?_
    exact wq q2
  refine s_mv ?_
  refine aops_mid 3 (⟨31, [], [(1, vI a1), (2, vI a2), (3, .one (.ptr 0 0)), (6, .one (.ptr 1 0)), (18, vB (((!x1) || (decide (a1 < 0))) || (decide (a2 < 0))))], [(0, some (.box (c_Disk a0))), (1, some (.box [.val (.slice none 0 0), cI 0, cB false, cI 0, cI 0, cB false]))]⟩ : ASt) ?_ ?_
  · rcases Md.bool_or (((!x1) || (decide (a1 < 0)))) with q3 | q3
    · skip
      iterate 2 refine np q3 ?_
      refine s_py q3 ?_
      refine aops_nil ?_
      exact wq q3
    refine y_mv q3 ?_
    refine y_cm q3 ?_
    refine s_pn q3 ?_
    refine aops_nil ?_
    exact wq q3
  refine aops_nil ?_
  refine aw_cond rfl (fun c4 => ?_) (fun c4 => ?_)
  · replace h := Md.cond_t h c4
    refine aw_seq (aw_region (aops_step1 rfl (ev_build' (out := [_, _, _, _, _, _]) rfl rfl rfl rfl rfl) (s_st [_, _, _, _, _, _] ?_)))
    refine s_sa ?_
    refine aops_nil ?_
    cases Option.some.inj h
    exact aw_ret ⟨rfl, rv (rn (.cons (va [_, _, _, _, _, _]) (.cons o1 .nil)))⟩
  replace h := Md.cond_f h c4
  refine aw_skip (aw_seq (aw_seq (aw_region (s_fd ?_))))
  refine s_ld ?_
  refine aops_nil ?_
  refine aw_cond rfl (fun c5 => ?_) (fun c5 => ?_)
  · replace h := Md.cond_t h c5
    refine aw_seq (aw_region (aops_step1 rfl (ev_build' (out := [_, _, _, _, _, _]) rfl rfl rfl rfl rfl) (s_st [_, _, _, _, _, _] ?_)))
    refine s_sa ?_
    refine aops_nil ?_
    cases Option.some.inj h
    exact aw_ret ⟨rfl, rv (rn (.cons (va [_, _, _, _, _, _]) (.cons o1 .nil)))⟩
  replace h := Md.cond_f h c5
  refine aw_skip (aw_seq (aw_region (s_ls [_, _, _, _, _, _] ?_)))
  obtain ⟨x6, hx6, h⟩ := Md.bind_s h
  refine aops_step1 rfl (st_call_r (r' := .agg [.own 2, cI x6.Capacity, cB x6.Armed, cI x6.Writes, cI x6.Keep, cB x6.Down]) 2 rfl (actorgridref26_copyDisk_fn k a0 x6 hx6) rfl [] ai rfl rfl rfl (.inl rfl) rfl rfl) (s_st [_, _, _, _, _, _] ?_)
  refine aops_nil (aw_seq (aw_region ?_))
  iterate 2 refine s_mv ?_
  refine s_fd ?_
  refine s_st [_, _, _, _, _, _] ?_
  refine s_fd ?_
  refine s_st [_, _, _, _, _, _] ?_
  refine s_fd ?_
  refine s_st [_, _, _, _, _, _] ?_
  refine aops_nil (aw_seq (aw_region (s_ls [_, _, _, _, _, _] ?_)))
  refine s_st [_, _, _, _, _, _] ?_
  refine s_sa ?_
  refine aops_nil ?_
  cases Option.some.inj h
  refine aw_freeze 2 rfl ?_
  exact aw_ret ⟨rfl, rv (rn (.cons (va [_, _, _, _, _, _]) (.cons o1 .nil)))⟩
set_option maxHeartbeats 2000000 in
theorem actorgridref26_Restart_fn (k : Nat) (a0 : Disk) (r : Disk × Int) (h : actorgridref26_Restart k a0 = some r) : FnC Try.prog 28 [.agg (c_Disk a0)] [] (Det (.tup [.agg (c_Disk r.1), vI r.2]) []) := by
  unfold actorgridref26_Restart at h
  refine fn_intro' 15 Try.func28 rfl rfl rfl (aw_seq (aw_region (aops_step1 rfl (st_box 0 rfl rfl rfl rfl) ?_)))
  refine aops_step1 rfl (st_alloc (cs := [.val (.slice none 0 0), cI 0, cB false, cI 0, cI 0, cB false]) 1 rfl rfl rfl rfl rfl) (s_sa ?_)
  refine aops_nil (aw_seq (aw_seq (aw_region (s_ls [_, _, _, _, _, _] ?_))))
  obtain ⟨x1, hx1, h⟩ := Md.bind_s h
  refine aops_step1 rfl (ev_call_v (actorgridref26_ValidDisk_fn k a0 x1 hx1) rfl [] ai rfl rfl rfl (.inl rfl) rfl) (s_nt ?_)
  refine aops_nil ?_
  refine aw_cond rfl (fun c2 => ?_) (fun c2 => ?_)
  · replace h := Md.cond_t h c2
    refine aw_seq (aw_region (aops_step1 rfl (ev_build' (out := [_, _, _, _, _, _]) rfl rfl rfl rfl rfl) (s_st [_, _, _, _, _, _] ?_)))
    refine s_sa ?_
    refine aops_nil ?_
    cases Option.some.inj h
    exact aw_ret ⟨rfl, rv (rn (.cons (va [_, _, _, _, _, _]) (.cons o1 .nil)))⟩
  replace h := Md.cond_f h c2
  refine aw_skip ?_
  obtain ⟨g3, h⟩ := Md.ifp_s h
  refine aw_seq ?_
  apply aw_draw 6 ((⟨[], .one (.emp0)⟩ : Add) :: ⟨[], .one (.ptr 0 _)⟩ :: ⟨[], .one (CV.ls byC a0.Data)⟩ :: ⟨[], .one (CV.ls byC a0.Data)⟩ :: ⟨[], .one (.ptr 0 _)⟩ :: ⟨[], vI a0.Capacity⟩ :: []) (by decide) rfl ?hk1x ?hf1x ?ho1x ?hr1x
  case ho1x =>
   refine ob [] (fun S hle hfr => .inl ⟨w0, st_slice_emp (hle.d rfl)⟩) (ob [] (fun S hle hfr => .inl ⟨w0, ev_field (hle.e rfl) rfl (hle.d rfl)⟩) ?_)
   refine ob [1] (fun S hle hfr => .inl ⟨w0, ev_load (hle.e rfl) (hle.heap _ _ rfl) rfl (hle.d rfl)⟩) ?_
   refine ob [0, 2, 1] (fun S hle hfr => .inl ⟨w0, st_app_emp_z (f := byC) a0.Data (fun _ => rfl) (hle.e rfl) (.inl (hle.e rfl)) (by omega) (by omega) (hle.d rfl)⟩) ?_
   refine ob [] (fun S hle hfr => .inl ⟨w0, ev_field (hle.e rfl) rfl (hle.d rfl)⟩) ?_
   refine ob [4] (fun S hle hfr => .inl ⟨w0, ev_load (hle.e rfl) (hle.heap _ _ rfl) rfl (hle.d rfl)⟩) ?_
   exact trivial
  case hk1x => rfl
  case hf1x => rfl
  refine aops_step1 rfl (ev_build' (out := [_, _, _, _, _, _]) rfl rfl rfl rfl rfl) (s_st [_, _, _, _, _, _] ?_)
  refine s_sa ?_
  refine aops_nil ?_
  cases Option.some.inj h
  exact aw_ret ⟨rfl, rv (rn (.cons (va [_, _, _, _, _, _]) (.cons o1 .nil)))⟩
end Md
end Go.Proofs.Ytkcfkcgclljncaa
