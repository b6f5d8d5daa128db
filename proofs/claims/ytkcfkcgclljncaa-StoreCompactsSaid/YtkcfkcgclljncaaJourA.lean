/-
  JourA: where a function's model gives a value, the function returns what reads as it (printed by wip/tools/auto.py). Condition of each: the model gives a value.
-/
import Derived.Test.YtkcfkcgclljncaaJourAM
import Derived.Test.YtkcfkcgclljncaaTy
import Derived.Test.YtkcfkcgclljncaaAbsS
import Derived.Test.YtkcfkcgclljncaaWireJ
namespace Go.Proofs.Ytkcfkcgclljncaa
open Go.ChangeShapes Go.WideShapes Go.RowKit
open Abs
set_option linter.unusedVariables false
set_option linter.unusedSimpArgs false
set_option maxRecDepth 10000
namespace Md
def c_JournalRecord (x : JournalRecord) : List CV := [cI x.Kind, CV.ls byC x.Body]
def c_Int (x : Int) : List CV := [cI x]
set_option maxHeartbeats 2000000 in
theorem journal_ValidRecord_fn (k : Nat) (a0 : JournalRecord) (r : Bool) (h : journal_ValidRecord k a0 = some r) : FnC Try.prog 35 [.agg (c_JournalRecord a0)] [] (Det (vB r) []) := by
  unfold journal_ValidRecord at h
  refine fn_intro' 17 Try.func35 rfl rfl rfl (aw_seq (aw_region (aops_step1 rfl (st_box 0 rfl rfl rfl rfl) (s_sa ?_))))
  refine aops_nil (aw_seq (aw_region (s_fd ?_)))
  refine s_ld ?_
  refine s_cm ?_
  refine s_mv ?_
  refine aops_mid 4 (⟨17, [], [(1, .one (.ptr 0 0)), (2, vB false), (10, vB ((decide (a0.Kind ≥ 1)) && (decide (a0.Kind ≤ 255))))], [(0, some (.box (c_JournalRecord a0)))]⟩ : ASt) ?_ ?_
  · rcases Md.bool_or ((decide (a0.Kind ≥ 1))) with q1 | q1
    · skip
      refine y_fd q1 ?_
      refine y_ld q1 ?_
      refine y_cm q1 ?_
      refine s_py q1 ?_
      refine aops_nil ?_
      exact wq q1
    iterate 3 refine np q1 ?_
    refine s_pn q1 ?_
    refine aops_nil ?_
    exact wq q1
  refine s_mv ?_
  refine aops_mid 5 (⟨17, [], [(2, vB false), (16, vB (((decide (a0.Kind ≥ 1)) && (decide (a0.Kind ≤ 255))) && (decide (((a0.Body.length : Nat) : Int) ≤ 16777216))))], []⟩ : ASt) ?_ ?_
  · rcases Md.bool_or (((decide (a0.Kind ≥ 1)) && (decide (a0.Kind ≤ 255)))) with q2 | q2
    · skip
      refine y_fd q2 ?_
      refine y_ld q2 ?_
      refine y_ln q2 ?_
      refine y_cm q2 ?_
      refine s_py q2 ?_
      refine aops_nil ?_
      exact wq q2
    iterate 4 refine np q2 ?_
    refine s_pn q2 ?_
    refine aops_nil ?_
    exact wq q2
  refine s_sa ?_
  refine aops_nil ?_
  cases Option.some.inj h
  exact aw_ret ⟨rfl, rv r1⟩
set_option maxHeartbeats 2000000 in
theorem journal_Append_fn (k : Nat) (a0 : Disk) (a1 : JournalRecord) (r : Disk × Int) (h : journal_Append k a0 a1 = some r) : FnC Try.prog 32 [.agg (c_Disk a0), .agg (c_JournalRecord a1)] [] (Det (.tup [.agg (c_Disk r.1), vI r.2]) []) := by
  unfold journal_Append at h
  refine fn_intro' 34 Try.func32 rfl rfl rfl (aw_seq (aw_region (aops_step1 rfl (st_box 0 rfl rfl rfl rfl) (aops_step1 rfl (st_box 1 rfl rfl rfl rfl) ?_))))
  refine aops_step1 rfl (st_alloc (cs := [.val (.slice none 0 0), cI 0, cB false, cI 0, cI 0, cB false]) 2 rfl rfl rfl rfl rfl) (s_sa ?_)
  refine aops_nil (aw_seq (aw_seq (aw_region (s_ls [_, _, _, _, _, _] ?_))))
  obtain ⟨x1, hx1, h⟩ := Md.bind_s h
  refine aops_step1 rfl (ev_call_v (disk_Valid_fn k a0 x1 hx1) rfl [] ai rfl rfl rfl (.inl rfl) rfl) (s_nt ?_)
  refine s_mv ?_
  obtain ⟨o2, j2, h⟩ := Md.bind_s h
  refine aops_cut 4 (ε := Bool) (fun x2 => (⟨34, [], [(2, .one (.ptr 0 0)), (3, .one (.ptr 1 0)), (4, .one (.ptr 2 0)), (15, vB x2)], [(0, some (.box (c_Disk a0))), (1, some (.box (c_JournalRecord a1))), (2, some (.box [.val (.slice none 0 0), cI 0, cB false, cI 0, cI 0, cB false]))]⟩ : ASt)) (fun x2 => x2 = o2) ?_ ?_
  · intro x2 hI2
    subst hI2
    change AOps _ _ _ (⟨34, [], [(2, .one (.ptr 0 0)), (3, .one (.ptr 1 0)), (4, .one (.ptr 2 0)), (15, vB x2)], [(0, some (.box (c_Disk a0))), (1, some (.box (c_JournalRecord a1))), (2, some (.box [.val (.slice none 0 0), cI 0, cB false, cI 0, cI 0, cB false]))]⟩ : ASt) _
    refine aops_nil ?_
    refine aw_cond rfl (fun c3 => ?_) (fun c3 => ?_)
    · replace h := Md.cond_t h c3
      refine aw_seq (aw_region (aops_step1 rfl (ev_build' (out := [_, _, _, _, _, _]) rfl rfl rfl rfl rfl) (s_st [_, _, _, _, _, _] ?_)))
      refine s_sa ?_
      refine aops_nil ?_
      cases Option.some.inj h
      exact aw_ret ⟨rfl, rv (rn (.cons (va [_, _, _, _, _, _]) (.cons o1 .nil)))⟩
    replace h := Md.cond_f h c3
    refine aw_skip (aw_seq (aw_region (s_fd ?_)))
    refine s_ld ?_
    refine s_fd ?_
    refine s_ld ?_
    obtain ⟨x4, hx4, h⟩ := Md.bind_s h
    refine aops_step1 rfl (ev_call_v (wire_Seal_fn k a1.Kind a1.Body x4 hx4) rfl [] ai rfl rfl rfl (.inl rfl) rfl) (s_mt ?_)
    iterate 2 refine s_ex ?_
    iterate 2 refine s_sa ?_
    refine aops_nil (aw_seq (aw_seq (aw_region (s_mv ?_))))
    refine s_cm ?_
    refine aops_nil ?_
    refine aw_cond rfl (fun c5 => ?_) (fun c5 => ?_)
    · replace h := Md.cond_t h c5
      refine aw_seq (aw_region (aops_step1 rfl (ev_build' (out := [_, _, _, _, _, _]) rfl rfl rfl rfl rfl) (s_mv ?_)))
      refine s_st [_, _, _, _, _, _] ?_
      refine s_sa ?_
      refine aops_nil ?_
      cases Option.some.inj h
      exact aw_ret ⟨rfl, rv (rn (.cons (va [_, _, _, _, _, _]) (.cons o1 .nil)))⟩
    replace h := Md.cond_f h c5
    refine aw_skip (aw_seq (aw_region (s_ls [_, _, _, _, _, _] ?_)))
    refine s_mv ?_
    obtain ⟨x6, hx6, h⟩ := Md.bind_s h
    refine aops_step1 rfl (ev_call_v (disk_Append_fn k a0 x4.1 x6 hx6) rfl [] ai rfl rfl rfl (.inl rfl) rfl) ?_
    iterate 2 refine s_ex ?_
    refine s_st [_, _, _, _, _, _] ?_
    refine s_sa ?_
    refine aops_nil ?_
    cases Option.some.inj h
    exact aw_ret ⟨rfl, rv (rn (.cons (va [_, _, _, _, _, _]) (.cons o1 .nil)))⟩
  rcases Md.bool_or ((!x1)) with q2 | q2
  · replace j2 := Md.cond_t j2 q2
    iterate 3 refine np q2 ?_
    refine s_py q2 ?_
    refine aops_nil ?_
    show ∃ _x : Bool, _ = _ ∧ Weak _ _
    exact ⟨true, Option.some.inj j2, wk⟩
  replace j2 := Md.cond_f j2 q2
  refine aops_yes rfl rfl rfl rfl q2 (ev_loads (ds := [_, _]) rfl rfl rfl rfl rfl) ?_
  obtain ⟨x7, hx7, j2⟩ := Md.bind_s j2
  refine aops_yes rfl rfl rfl rfl q2 (ev_call_v (journal_ValidRecord_fn k a1 x7 hx7) rfl [] ai rfl rfl rfl (.inl rfl) rfl) (y_nt q2 ?_)
  refine s_pn q2 ?_
  refine aops_nil ?_
  show ∃ _x : Bool, _ = _ ∧ Weak _ _
  exact ⟨(!x7), Option.some.inj j2, wk⟩
set_option maxHeartbeats 2000000 in
theorem actorgridref26_ValidRecord_fn (k : Nat) (a0 : JournalRecord) (r : Bool) (h : actorgridref26_ValidRecord k a0 = some r) : FnC Try.prog 36 [.agg (c_JournalRecord a0)] [] (Det (vB r) []) := by
  unfold actorgridref26_ValidRecord at h
  refine fn_intro' 17 Try.func36 rfl rfl rfl (aw_seq (aw_region (aops_step1 rfl (st_box 0 rfl rfl rfl rfl) (s_sa ?_))))
  refine aops_nil (aw_seq (aw_region (s_fd ?_)))
  refine s_ld ?_
  refine s_cm ?_
  refine s_mv ?_
  refine aops_mid 4 (⟨17, [], [(1, .one (.ptr 0 0)), (2, vB false), (10, vB ((decide (a0.Kind ≥ 1)) && (decide (a0.Kind ≤ 255))))], [(0, some (.box (c_JournalRecord a0)))]⟩ : ASt) ?_ ?_
  · rcases Md.bool_or ((decide (a0.Kind ≥ 1))) with q1 | q1
    · skip
      refine y_fd q1 ?_
      refine y_ld q1 ?_
      refine y_cm q1 ?_
      refine s_py q1 ?_
      refine aops_nil ?_
      exact wq q1
    iterate 3 refine np q1 ?_
    refine s_pn q1 ?_
    refine aops_nil ?_
    exact wq q1
  refine s_mv ?_
  refine aops_mid 5 (⟨17, [], [(2, vB false), (16, vB (((decide (a0.Kind ≥ 1)) && (decide (a0.Kind ≤ 255))) && (decide (((a0.Body.length : Nat) : Int) ≤ 16777216))))], []⟩ : ASt) ?_ ?_
  · rcases Md.bool_or (((decide (a0.Kind ≥ 1)) && (decide (a0.Kind ≤ 255)))) with q2 | q2
    · skip
      refine y_fd q2 ?_
      refine y_ld q2 ?_
      refine y_ln q2 ?_
      refine y_cm q2 ?_
      refine s_py q2 ?_
      refine aops_nil ?_
      exact wq q2
    iterate 4 refine np q2 ?_
    refine s_pn q2 ?_
    refine aops_nil ?_
    exact wq q2
  refine s_sa ?_
  refine aops_nil ?_
  cases Option.some.inj h
  exact aw_ret ⟨rfl, rv r1⟩
set_option maxHeartbeats 2000000 in
theorem actorgridref26_AppendRecord_fn (k : Nat) (a0 : Disk) (a1 : JournalRecord) (r : Disk × Int) (h : actorgridref26_AppendRecord k a0 a1 = some r) : FnC Try.prog 33 [.agg (c_Disk a0), .agg (c_JournalRecord a1)] [] (Det (.tup [.agg (c_Disk r.1), vI r.2]) []) := by
  unfold actorgridref26_AppendRecord at h
  refine fn_intro' 30 Try.func33 rfl rfl rfl (aw_seq (aw_region (aops_step1 rfl (st_box 0 rfl rfl rfl rfl) (aops_step1 rfl (st_box 1 rfl rfl rfl rfl) ?_))))
  refine aops_step1 rfl (st_alloc (cs := [.val (.slice none 0 0), cI 0, cB false, cI 0, cI 0, cB false]) 2 rfl rfl rfl rfl rfl) (s_sa ?_)
  refine aops_nil (aw_seq (aw_seq (aw_region (s_ls [_, _, _, _, _, _] ?_))))
  obtain ⟨x1, hx1, h⟩ := Md.bind_s h
  refine aops_step1 rfl (ev_call_v (actorgridref26_ValidDisk_fn k a0 x1 hx1) rfl [] ai rfl rfl rfl (.inl rfl) rfl) (s_nt ?_)
  refine s_mv ?_
  obtain ⟨o2, j2, h⟩ := Md.bind_s h
  refine aops_cut 4 (ε := Bool) (fun x2 => (⟨30, [], [(2, .one (.ptr 0 0)), (3, .one (.ptr 1 0)), (4, .one (.ptr 2 0)), (15, vB x2)], [(0, some (.box (c_Disk a0))), (1, some (.box (c_JournalRecord a1))), (2, some (.box [.val (.slice none 0 0), cI 0, cB false, cI 0, cI 0, cB false]))]⟩ : ASt)) (fun x2 => x2 = o2) ?_ ?_
  · intro x2 hI2
    subst hI2
    change AOps _ _ _ (⟨30, [], [(2, .one (.ptr 0 0)), (3, .one (.ptr 1 0)), (4, .one (.ptr 2 0)), (15, vB x2)], [(0, some (.box (c_Disk a0))), (1, some (.box (c_JournalRecord a1))), (2, some (.box [.val (.slice none 0 0), cI 0, cB false, cI 0, cI 0, cB false]))]⟩ : ASt) _
    refine aops_nil ?_
    refine aw_cond rfl (fun c3 => ?_) (fun c3 => ?_)
    · replace h := Md.cond_t h c3
      refine aw_seq (aw_region (aops_step1 rfl (ev_build' (out := [_, _, _, _, _, _]) rfl rfl rfl rfl rfl) (s_st [_, _, _, _, _, _] ?_)))
      refine s_sa ?_
      refine aops_nil ?_
      cases Option.some.inj h
      exact aw_ret ⟨rfl, rv (rn (.cons (va [_, _, _, _, _, _]) (.cons o1 .nil)))⟩
    replace h := Md.cond_f h c3
    refine aw_skip (aw_seq (aw_region (s_fd ?_)))
    refine s_ld ?_
    refine s_fd ?_
    refine s_ld ?_
    obtain ⟨x4, hx4, h⟩ := Md.bind_s h
    refine aops_step1 rfl (ev_call_v (actorgridref1_Seal_fn k a1.Kind a1.Body x4 hx4) rfl [] ai rfl rfl rfl (.inl rfl) rfl) (s_mt ?_)
    iterate 2 refine s_ex ?_
    iterate 2 refine s_sa ?_
    refine aops_nil (aw_seq (aw_region (s_ls [_, _, _, _, _, _] ?_)))
    refine s_mv ?_
    obtain ⟨x5, hx5, h⟩ := Md.bind_s h
    refine aops_step1 rfl (ev_call_v (actorgridref26_AppendDisk_fn k a0 x4.1 x5 hx5) rfl [] ai rfl rfl rfl (.inl rfl) rfl) ?_
    iterate 2 refine s_ex ?_
    refine s_st [_, _, _, _, _, _] ?_
    refine s_sa ?_
    refine aops_nil ?_
    cases Option.some.inj h
    exact aw_ret ⟨rfl, rv (rn (.cons (va [_, _, _, _, _, _]) (.cons o1 .nil)))⟩
  rcases Md.bool_or ((!x1)) with q2 | q2
  · replace j2 := Md.cond_t j2 q2
    iterate 3 refine np q2 ?_
    refine s_py q2 ?_
    refine aops_nil ?_
    show ∃ _x : Bool, _ = _ ∧ Weak _ _
    exact ⟨true, Option.some.inj j2, wk⟩
  replace j2 := Md.cond_f j2 q2
  refine aops_yes rfl rfl rfl rfl q2 (ev_loads (ds := [_, _]) rfl rfl rfl rfl rfl) ?_
  obtain ⟨x6, hx6, j2⟩ := Md.bind_s j2
  refine aops_yes rfl rfl rfl rfl q2 (ev_call_v (actorgridref26_ValidRecord_fn k a1 x6 hx6) rfl [] ai rfl rfl rfl (.inl rfl) rfl) (y_nt q2 ?_)
  refine s_pn q2 ?_
  refine aops_nil ?_
  show ∃ _x : Bool, _ = _ ∧ Weak _ _
  exact ⟨(!x6), Option.some.inj j2, wk⟩
set_option maxHeartbeats 2000000 in
theorem actorgridref26_Scan_fn (k : Nat) (a0 : List UInt8) (r : (List JournalRecord) × (List Int) × Int) (h : actorgridref26_Scan k a0 = some r) : FnC Try.prog 39 [.one (CV.ls byC a0)] [] (Det (.tup [.one (CV.ls c_JournalRecord r.1), .one (CV.ls c_Int r.2.1), vI r.2.2]) []) := by
  unfold actorgridref26_Scan at h
  refine fn_intro' 41 Try.func39 rfl rfl rfl (aw_seq (aw_region ?_))
  iterate 3 refine s_sa ?_
  refine aops_nil (aw_seq (aw_region (s_sa ?_)))
  refine aops_nil (aw_seq (aw_region (s_sa ?_)))
  refine aops_nil (aw_seq (aw_region (s_sa ?_)))
  refine aops_nil (aw_block (aw_own_nil 5 0 46 2 (lsEl c_JournalRecord []) rfl rfl (aw_own_nil 6 1 3 1 (lsEl c_Int []) rfl rfl ?_)))
  obtain ⟨o1, ho1, h⟩ := Md.bind_s h
  refine aw_loop (ι := {p : Nat × Int × (List JournalRecord) × (List Int) // actorgridref26_Scan_loop1 k a0 p.1 p.2.1 p.2.2.1 p.2.2.2 = some o1}) (fun p => (⟨41, [], [(0, .one (CV.ls byC a0)), (5, .one (.own 0)), (6, .one (.own 1)), (7, vI p.1.2.1)], [(0, some (.row 46 2 p.1.2.2.1.length (lsEl c_JournalRecord p.1.2.2.1))), (1, some (.row 3 1 p.1.2.2.2.length (lsEl c_Int p.1.2.2.2)))]⟩ : ASt)) (fun p => p.1.1) ⟨(k, 0, ([] : List JournalRecord), ([] : List Int)), ho1⟩ wk ?_
  intro p1
  obtain ⟨⟨n1, s1_0, s1_1, s1_2⟩, l1⟩ := p1
  change AW _ _ (⟨41, [], [(0, .one (CV.ls byC a0)), (5, .one (.own 0)), (6, .one (.own 1)), (7, vI s1_0)], [(0, some (.row 46 2 s1_1.length (lsEl c_JournalRecord s1_1))), (1, some (.row 3 1 s1_2.length (lsEl c_Int s1_2)))]⟩ : ASt) _
  replace l1 : actorgridref26_Scan_loop1 k a0 n1 s1_0 s1_1 s1_2 = some o1 := l1
  rcases n1 with _ | n1
  · exact absurd (show none = some o1 from l1) nofun
  rw [actorgridref26_Scan_loop1] at l1
  refine aw_block (aw_seq (aw_region ?_))
  iterate 2 refine s_mv ?_
  obtain ⟨g2, l1⟩ := Md.ifp_s l1
  obtain ⟨g3, l1⟩ := Md.ifp_s l1
  refine aops_step1 rfl (st_cut_lo (f := byC) (fun _ => rfl) rfl ⟨_, _, rfl, (Md.nn_eq g2)⟩ g3 rfl) ?_
  obtain ⟨x4, hx4, l1⟩ := Md.bind_s l1
  refine aops_step1 rfl (ev_call_v (actorgridref1_Open_fn k (a0.drop ((s1_0).toNat)) x4 hx4) rfl [] ai rfl rfl rfl (.inl rfl) rfl) (s_mt ?_)
  iterate 4 refine s_ex ?_
  iterate 4 refine s_sa ?_
  refine aops_nil (aw_seq (aw_seq (aw_region (s_mv ?_))))
  refine s_cm ?_
  refine aops_nil ?_
  refine aw_cond rfl (fun c5 => ?_) (fun c5 => ?_)
  · replace l1 := Md.cond_t l1 c5
    refine aw_seq (aw_region ?_)
    iterate 3 refine s_mv ?_
    iterate 3 refine s_sa ?_
    refine aops_nil ?_
    cases Option.some.inj l1
    cases Option.some.inj h
    refine aw_freeze 0 rfl (aw_freeze 1 rfl ?_)
    exact aw_ret ⟨rfl, rv (rn (.cons o1 (.cons o1 (.cons o1 .nil))))⟩
  replace l1 := Md.cond_f l1 c5
  refine aw_skip (aw_seq (aw_region ?_))
  iterate 2 refine s_mv ?_
  refine aops_step1 rfl (st_slice_lit (el := lsEl byC ([] : List UInt8)) 2 rfl rfl rfl rfl rfl rfl rfl rfl (lit_el byC 1 ([] : List UInt8) (fun _ => rfl)) rfl) (s_mv ?_)
  obtain ⟨g6, l1⟩ := Md.ifp_s l1
  refine aops_step1 rfl (st_app_ls (f := byC) ([] : List UInt8) x4.2.1 (fun _ => rfl) rfl rfl (.inl rfl) (by omega) (by omega) rfl) ?_
  refine aops_step1 rfl (ev_build' (out := [_, _]) rfl rfl rfl rfl rfl) (aops_freeze 2 rfl ?_)
  refine aops_step1 rfl (st_slice_lit (el := lsEl c_JournalRecord [(⟨x4.1, (([] : List UInt8) ++ x4.2.1)⟩ : JournalRecord)]) 3 rfl rfl rfl rfl rfl rfl rfl rfl (lit_el c_JournalRecord 2 [(⟨x4.1, (([] : List UInt8) ++ x4.2.1)⟩ : JournalRecord)] (fun _ => rfl)) rfl) ?_
  obtain ⟨g7, l1⟩ := Md.ifp_s l1
  refine aops_step1 rfl (st_app_ls (f := c_JournalRecord) s1_1 [(⟨x4.1, (([] : List UInt8) ++ x4.2.1)⟩ : JournalRecord)] (fun _ => rfl) rfl rfl (.inr ⟨_, _, rfl, rfl⟩) (by omega) (by omega) rfl) (s_sa ?_)
  refine aops_nil (aw_seq (aw_region ?_))
  iterate 2 refine s_mv ?_
  refine aops_step1 rfl (st_slice_lit (el := lsEl c_Int [s1_0]) 4 rfl rfl rfl rfl rfl rfl rfl rfl (lit_el c_Int 1 [s1_0] (fun _ => rfl)) rfl) ?_
  obtain ⟨g8, l1⟩ := Md.ifp_s l1
  refine aops_step1 rfl (st_app_ls (f := c_Int) s1_2 [s1_0] (fun _ => rfl) rfl rfl (.inr ⟨_, _, rfl, rfl⟩) (by omega) (by omega) rfl) (s_sa ?_)
  refine aops_nil (aw_region ?_)
  iterate 2 refine s_mv ?_
  refine aops_step1 rfl (ev_add rfl rfl rfl (Md.wrap_W _)) (s_sa ?_)
  refine aops_nil ?_
  exact ⟨⟨(n1, (Md.W (s1_0 + x4.2.2.1)), (s1_1 ++ [(⟨x4.1, (([] : List UInt8) ++ x4.2.1)⟩ : JournalRecord)]), (s1_2 ++ [s1_0])), l1⟩, Nat.lt_succ_self _, wk⟩
set_option maxHeartbeats 2000000 in
theorem actorgridref26_SameRecords_fn (k : Nat) (a0 : List JournalRecord) (a1 : List JournalRecord) (r : Bool) (h : actorgridref26_SameRecords k a0 a1 = some r) : FnC Try.prog 40 [.one (CV.ls c_JournalRecord a0), .one (CV.ls c_JournalRecord a1)] [] (Det (vB r) []) := by
  unfold actorgridref26_SameRecords at h
  refine fn_intro' 43 Try.func40 rfl rfl rfl (aw_seq (aw_region (s_sa ?_)))
  refine aops_nil (aw_seq (aw_seq (aw_region (s_mv ?_))))
  refine s_ln ?_
  refine s_mv ?_
  refine s_ln ?_
  refine s_cm ?_
  refine aops_nil ?_
  refine aw_cond rfl (fun c1 => ?_) (fun c1 => ?_)
  · replace h := Md.cond_t h c1
    refine aw_seq (aw_region (s_sa ?_))
    refine aops_nil ?_
    cases Option.some.inj h
    exact aw_ret ⟨rfl, rv r1⟩
  replace h := Md.cond_f h c1
  refine aw_skip (aw_seq (aw_seq (aw_region (s_sa ?_))))
  refine aops_nil (aw_block ?_)
  obtain ⟨o2, ho2, h⟩ := Md.bind_s h
  refine aw_loop_x (ι := {p : Nat × Nat // actorgridref26_SameRecords_loop1 k a0 a1 p.1 p.2 = some o2}) (fun p => (⟨43, [], [(0, .one (CV.ls c_JournalRecord a0)), (1, .one (CV.ls c_JournalRecord a1)), (5, vI ((p.1.2 : Nat) : Int))], []⟩ : ASt)) (fun p => p.1.1) ⟨(k, 0), ho2⟩ wk 0 (ε := Unit) (fun x => (⟨43, [], [], []⟩ : ASt)) (fun x => Sum.inl x = o2) (fun _ _ w h => aw_weak w h) ?_ ?_
  · intro x2_0 hI2
    subst hI2
    replace h := Md.onS_l h
    change AW _ _ (⟨43, [], [], []⟩ : ASt) _
    refine aw_seq (aw_region (s_sa ?_))
    refine aops_nil ?_
    cases Option.some.inj h
    exact aw_ret ⟨rfl, rv r1⟩
  intro p2
  obtain ⟨⟨n2, s2_0⟩, l2⟩ := p2
  change AW _ _ (⟨43, [], [(0, .one (CV.ls c_JournalRecord a0)), (1, .one (CV.ls c_JournalRecord a1)), (5, vI ((s2_0 : Nat) : Int))], []⟩ : ASt) _
  replace l2 : actorgridref26_SameRecords_loop1 k a0 a1 n2 s2_0 = some o2 := l2
  rcases n2 with _ | n2
  · exact absurd (show none = some o2 from l2) nofun
  rw [actorgridref26_SameRecords_loop1] at l2
  refine aw_seq (aw_seq (aw_region ?_))
  iterate 2 refine s_mv ?_
  refine s_ln ?_
  refine s_cm ?_
  refine aops_nil ?_
  refine aw_cond rfl (fun c3 => ?_) (fun c3 => ?_)
  · replace l2 := Md.cond_t l2 c3
    refine aw_skip (aw_seq (aw_block ?_))
    obtain ⟨g4, l2⟩ := Md.ifp_s l2
    obtain ⟨g5, l2⟩ := Md.ifp_s l2
    rcases Md.bool_or ((((a0.getD s2_0 default).Kind) != ((a1.getD s2_0 default).Kind))) with q6 | q6
    · replace l2 := Md.cond_t l2 q6
      refine aw_seq ?_
      apply aw_draw 24 ((⟨[], .one (CV.ls c_JournalRecord a0)⟩ : Add) :: ⟨[], vI ((s2_0 : Nat) : Int)⟩ :: ⟨[], .one (.cptr _)⟩ :: ⟨[], .one (.cptr _)⟩ :: ⟨[], vI ((a0.getD s2_0 default).Kind)⟩ :: ⟨[], .one (CV.ls c_JournalRecord a1)⟩ :: ⟨[], vI ((s2_0 : Nat) : Int)⟩ :: ⟨[], .one (.cptr _)⟩ :: ⟨[], .one (.cptr _)⟩ :: ⟨[], vI ((a1.getD s2_0 default).Kind)⟩ :: ⟨[], vB (((a0.getD s2_0 default).Kind) != ((a1.getD s2_0 default).Kind))⟩ :: ⟨[], vB (((a0.getD s2_0 default).Kind) != ((a1.getD s2_0 default).Kind))⟩ :: ⟨[], .tup []⟩ :: ⟨[], .tup []⟩ :: ⟨[], .tup []⟩ :: ⟨[], .tup []⟩ :: ⟨[], .tup []⟩ :: ⟨[], .tup []⟩ :: ⟨[], .tup []⟩ :: ⟨[], .tup []⟩ :: ⟨[], .tup []⟩ :: ⟨[], .tup []⟩ :: ⟨[], .tup []⟩ :: ⟨[], .tup []⟩ :: []) (by decide) rfl ?hk11x ?hf11x ?ho11x ?hr11x
      case ho11x =>
       refine ob [] (fun S hle hfr => .inl ⟨w0, st_move (hle.e rfl) (hle.d rfl)⟩) (ob [] (fun S hle hfr => .inl ⟨w0, st_move (hle.e rfl) (hle.d rfl)⟩) ?_)
       refine ob [0, 1] (fun S hle hfr => .inl ⟨w0, ev_index_in (hle.e rfl) (hle.e rfl) rfl g4 rfl (hle.d rfl)⟩) ?_
       refine ob [2, 0, 1] (fun S hle hfr => .inl ⟨w0, ev_field_in (hle.e rfl) rfl (hle.d rfl)⟩) ?_
       refine ob [3, 2, 0, 1] (fun S hle hfr => .inl ⟨w0, ev_load_in (hle.e rfl) rfl (hle.d rfl)⟩) ?_
       refine ob [] (fun S hle hfr => .inl ⟨w0, st_move (hle.e rfl) (hle.d rfl)⟩) (ob [] (fun S hle hfr => .inl ⟨w0, st_move (hle.e rfl) (hle.d rfl)⟩) ?_)
       refine ob [5, 6] (fun S hle hfr => .inl ⟨w0, ev_index_in (hle.e rfl) (hle.e rfl) rfl g5 rfl (hle.d rfl)⟩) ?_
       refine ob [7, 5, 6] (fun S hle hfr => .inl ⟨w0, ev_field_in (hle.e rfl) rfl (hle.d rfl)⟩) ?_
       refine ob [8, 7, 5, 6] (fun S hle hfr => .inl ⟨w0, ev_load_in (hle.e rfl) rfl (hle.d rfl)⟩) ?_
       refine ob [4, 9, 3, 8, 2, 7, 0, 1, 5, 6] (fun S hle hfr => .inl ⟨w0, ev_cmp (hle.e rfl) (hle.e rfl) (hle.d rfl) rfl⟩) ?_
       refine ob [10, 4, 9, 3, 8, 2, 7, 0, 1, 5, 6] (fun S hle hfr => .inl ⟨w0, st_move (hle.e rfl) (hle.d rfl)⟩) ?_
       refine ob [11, 10, 4, 9, 3, 8, 2, 7, 0, 1, 5, 6] (fun S hle hfr => nw hle q6) (ob [11, 10, 4, 9, 3, 8, 2, 7, 0, 1, 5, 6] (fun S hle hfr => nw hle q6) ?_)
       refine ob [12, 13, 11, 10, 4, 9, 3, 8, 2, 7, 0, 1, 5, 6] (fun S hle hfr => nw hle q6) ?_
       refine ob [14, 11, 12, 13, 10, 4, 9, 3, 8, 2, 7, 0, 1, 5, 6] (fun S hle hfr => nw hle q6) ?_
       refine ob [15, 11, 14, 10, 12, 13, 4, 9, 3, 8, 2, 7, 0, 1, 5, 6] (fun S hle hfr => nw hle q6) ?_
       refine ob [16, 11, 15, 10, 14, 4, 9, 12, 13, 3, 8, 2, 7, 0, 1, 5, 6] (fun S hle hfr => nw hle q6) ?_
       refine ob [11, 10, 4, 9, 3, 8, 2, 7, 0, 1, 5, 6] (fun S hle hfr => nw hle q6) (ob [11, 10, 4, 9, 3, 8, 2, 7, 0, 1, 5, 6] (fun S hle hfr => nw hle q6) ?_)
       refine ob [18, 19, 11, 10, 4, 9, 3, 8, 2, 7, 0, 1, 5, 6] (fun S hle hfr => nw hle q6) ?_
       refine ob [20, 11, 18, 19, 10, 4, 9, 3, 8, 2, 7, 0, 1, 5, 6] (fun S hle hfr => nw hle q6) ?_
       refine ob [21, 11, 20, 10, 18, 19, 4, 9, 3, 8, 2, 7, 0, 1, 5, 6] (fun S hle hfr => nw hle q6) ?_
       refine ob [22, 11, 21, 10, 20, 4, 9, 18, 19, 3, 8, 2, 7, 0, 1, 5, 6] (fun S hle hfr => nw hle q6) ?_
       exact trivial
      case hk11x => rfl
      case hf11x => rfl
      refine np q6 ?_
      refine s_py q6 ?_
      refine aops_nil (aw_yes rfl (rfl) (aw_seq (aw_region (s_sa ?_))))
      refine aops_nil ?_
      cases Option.some.inj l2
      replace h := Md.onS_r h
      cases Option.some.inj h
      exact aw_ret ⟨rfl, rv r1⟩
    replace l2 := Md.cond_f l2 q6
    obtain ⟨g7, l2⟩ := Md.ifp_s l2
    obtain ⟨g8, l2⟩ := Md.ifp_s l2
    refine aw_seq ?_
    apply aw_draw 24 ((⟨[], .one (CV.ls c_JournalRecord a0)⟩ : Add) :: ⟨[], vI ((s2_0 : Nat) : Int)⟩ :: ⟨[], .one (.cptr _)⟩ :: ⟨[], .one (.cptr _)⟩ :: ⟨[], vI ((a0.getD s2_0 default).Kind)⟩ :: ⟨[], .one (CV.ls c_JournalRecord a1)⟩ :: ⟨[], vI ((s2_0 : Nat) : Int)⟩ :: ⟨[], .one (.cptr _)⟩ :: ⟨[], .one (.cptr _)⟩ :: ⟨[], vI ((a1.getD s2_0 default).Kind)⟩ :: ⟨[], vB (((a0.getD s2_0 default).Kind) != ((a1.getD s2_0 default).Kind))⟩ :: ⟨[], vB (((a0.getD s2_0 default).Kind) != ((a1.getD s2_0 default).Kind))⟩ :: ⟨[], .one (CV.ls c_JournalRecord a0)⟩ :: ⟨[], vI ((s2_0 : Nat) : Int)⟩ :: ⟨[], .one (.cptr _)⟩ :: ⟨[], .one (.cptr _)⟩ :: ⟨[], .one (CV.ls byC ((a0.getD s2_0 default).Body))⟩ :: ⟨[], .one (.val (Sv ((a0.getD s2_0 default).Body)))⟩ :: ⟨[], .one (CV.ls c_JournalRecord a1)⟩ :: ⟨[], vI ((s2_0 : Nat) : Int)⟩ :: ⟨[], .one (.cptr _)⟩ :: ⟨[], .one (.cptr _)⟩ :: ⟨[], .one (CV.ls byC ((a1.getD s2_0 default).Body))⟩ :: ⟨[], .one (.val (Sv ((a1.getD s2_0 default).Body)))⟩ :: []) (by decide) rfl ?hk12x ?hf12x ?ho12x ?hr12x
    case ho12x =>
     refine ob [] (fun S hle hfr => .inl ⟨w0, st_move (hle.e rfl) (hle.d rfl)⟩) (ob [] (fun S hle hfr => .inl ⟨w0, st_move (hle.e rfl) (hle.d rfl)⟩) ?_)
     refine ob [0, 1] (fun S hle hfr => .inl ⟨w0, ev_index_in (hle.e rfl) (hle.e rfl) rfl g4 rfl (hle.d rfl)⟩) ?_
     refine ob [2, 0, 1] (fun S hle hfr => .inl ⟨w0, ev_field_in (hle.e rfl) rfl (hle.d rfl)⟩) ?_
     refine ob [3, 2, 0, 1] (fun S hle hfr => .inl ⟨w0, ev_load_in (hle.e rfl) rfl (hle.d rfl)⟩) ?_
     refine ob [] (fun S hle hfr => .inl ⟨w0, st_move (hle.e rfl) (hle.d rfl)⟩) (ob [] (fun S hle hfr => .inl ⟨w0, st_move (hle.e rfl) (hle.d rfl)⟩) ?_)
     refine ob [5, 6] (fun S hle hfr => .inl ⟨w0, ev_index_in (hle.e rfl) (hle.e rfl) rfl g5 rfl (hle.d rfl)⟩) ?_
     refine ob [7, 5, 6] (fun S hle hfr => .inl ⟨w0, ev_field_in (hle.e rfl) rfl (hle.d rfl)⟩) ?_
     refine ob [8, 7, 5, 6] (fun S hle hfr => .inl ⟨w0, ev_load_in (hle.e rfl) rfl (hle.d rfl)⟩) ?_
     refine ob [4, 9, 3, 8, 2, 7, 0, 1, 5, 6] (fun S hle hfr => .inl ⟨w0, ev_cmp (hle.e rfl) (hle.e rfl) (hle.d rfl) rfl⟩) ?_
     refine ob [10, 4, 9, 3, 8, 2, 7, 0, 1, 5, 6] (fun S hle hfr => .inl ⟨w0, st_move (hle.e rfl) (hle.d rfl)⟩) ?_
     refine ob [11, 10, 4, 9, 3, 8, 2, 7, 0, 1, 5, 6] (fun S hle hfr => .inl ⟨wy hle q6, st_move (hle.e rfl) (hle.d rfl)⟩) ?_
     refine ob [11, 10, 4, 9, 3, 8, 2, 7, 0, 1, 5, 6] (fun S hle hfr => .inl ⟨wy hle q6, st_move (hle.e rfl) (hle.d rfl)⟩) ?_
     refine ob [12, 13, 11, 10, 4, 9, 3, 8, 2, 7, 0, 1, 5, 6] (fun S hle hfr => .inl ⟨wy hle q6, ev_index_in (hle.e rfl) (hle.e rfl) rfl g7 rfl (hle.d rfl)⟩) ?_
     refine ob [14, 11, 12, 13, 10, 4, 9, 3, 8, 2, 7, 0, 1, 5, 6] (fun S hle hfr => .inl ⟨wy hle q6, ev_field_in (hle.e rfl) rfl (hle.d rfl)⟩) ?_
     refine ob [15, 11, 14, 10, 12, 13, 4, 9, 3, 8, 2, 7, 0, 1, 5, 6] (fun S hle hfr => .inl ⟨wy hle q6, ev_load_in (hle.e rfl) rfl (hle.d rfl)⟩) ?_
     refine ob [16, 11, 15, 10, 14, 4, 9, 12, 13, 3, 8, 2, 7, 0, 1, 5, 6] (fun S hle hfr => .inl ⟨wy hle q6, ev_str_bytes (.inl (hle.e rfl)) Try.underlying24 Try.underlying5 Try.underlying9 (hle.d rfl)⟩) ?_
     refine ob [11, 10, 4, 9, 3, 8, 2, 7, 0, 1, 5, 6] (fun S hle hfr => .inl ⟨wy hle q6, st_move (hle.e rfl) (hle.d rfl)⟩) ?_
     refine ob [11, 10, 4, 9, 3, 8, 2, 7, 0, 1, 5, 6] (fun S hle hfr => .inl ⟨wy hle q6, st_move (hle.e rfl) (hle.d rfl)⟩) ?_
     refine ob [18, 19, 11, 10, 4, 9, 3, 8, 2, 7, 0, 1, 5, 6] (fun S hle hfr => .inl ⟨wy hle q6, ev_index_in (hle.e rfl) (hle.e rfl) rfl g8 rfl (hle.d rfl)⟩) ?_
     refine ob [20, 11, 18, 19, 10, 4, 9, 3, 8, 2, 7, 0, 1, 5, 6] (fun S hle hfr => .inl ⟨wy hle q6, ev_field_in (hle.e rfl) rfl (hle.d rfl)⟩) ?_
     refine ob [21, 11, 20, 10, 18, 19, 4, 9, 3, 8, 2, 7, 0, 1, 5, 6] (fun S hle hfr => .inl ⟨wy hle q6, ev_load_in (hle.e rfl) rfl (hle.d rfl)⟩) ?_
     refine ob [22, 11, 21, 10, 20, 4, 9, 18, 19, 3, 8, 2, 7, 0, 1, 5, 6] (fun S hle hfr => .inl ⟨wy hle q6, ev_str_bytes (.inl (hle.e rfl)) Try.underlying24 Try.underlying5 Try.underlying9 (hle.d rfl)⟩) ?_
     exact trivial
    case hk12x => rfl
    case hf12x => rfl
    refine aops_yes rfl rfl rfl rfl q6 (st_str_ne rfl rfl rfl) (s_pn q6 ?_)
    refine aops_nil ?_
    refine aw_cond rfl (fun c9 => ?_) (fun c9 => ?_)
    · replace l2 := Md.cond_t l2 c9
      refine aw_seq (aw_region (s_sa ?_))
      refine aops_nil ?_
      cases Option.some.inj l2
      replace h := Md.onS_r h
      cases Option.some.inj h
      exact aw_ret ⟨rfl, rv r1⟩
    replace l2 := Md.cond_f l2 c9
    refine aw_skip (aw_region (s_mv ?_))
    obtain ⟨g10, l2⟩ := Md.ifp_s l2
    refine aops_step1 rfl (ev_add rfl rfl rfl (Md.nat_add g10)) (s_sa ?_)
    refine aops_nil ?_
    exact ⟨⟨(n2, (s2_0 + 1)), l2⟩, Nat.lt_succ_self _, wk⟩
  replace l2 := Md.cond_f l2 c3
  refine aw_exit ?_
  show ∃ _x : Unit, _ = _ ∧ Weak _ _
  exact ⟨(), Option.some.inj l2, wk⟩
set_option maxHeartbeats 2000000 in
theorem actorgridlaw27_bytes_fn (k : Nat) (a0 : List JournalRecord) (a1 : List UInt8) (r : (List UInt8)) (h : actorgridlaw27_bytes k a0 a1 = some r) : FnC Try.prog 37 [.one (CV.ls c_JournalRecord a0), .one (CV.ls byC a1)] [] (Det (.one (.own 0)) [(0, some (.row 5 1 r.length (lsEl byC r)))]) := by
  unfold actorgridlaw27_bytes at h
  refine fn_intro' 37 Try.func37 rfl rfl rfl (aw_seq (aw_region (s_sa ?_)))
  refine aops_nil (aw_seq (aw_region (s_sa ?_)))
  refine aops_nil (aw_seq (aw_seq (aw_region (s_sa ?_))))
  refine aops_nil (aw_block (aw_own_nil 5 0 5 1 (lsEl byC []) rfl rfl ?_))
  obtain ⟨o1, ho1, h⟩ := Md.bind_s h
  refine aw_loop_x (ι := {p : Nat × Nat × (List UInt8) // actorgridlaw27_bytes_loop1 k a0 p.1 p.2.1 p.2.2 = some o1}) (fun p => (⟨37, [], [(0, .one (CV.ls c_JournalRecord a0)), (1, .one (CV.ls byC a1)), (5, .one (.own 0)), (6, vI ((p.1.2.1 : Nat) : Int))], [(0, some (.row 5 1 p.1.2.2.length (lsEl byC p.1.2.2)))]⟩ : ASt)) (fun p => p.1.1) ⟨(k, 0, ([] : List UInt8)), ho1⟩ wk 0 (ε := (List UInt8)) (fun x => (⟨37, [], [(1, .one (CV.ls byC a1)), (5, .one (.own 0))], [(0, some (.row 5 1 x.length (lsEl byC x)))]⟩ : ASt)) (fun x => x = o1) (fun _ _ w h => aw_weak w h) ?_ ?_
  · intro x1_0 hI1
    subst hI1
    change AW _ _ (⟨37, [], [(1, .one (CV.ls byC a1)), (5, .one (.own 0))], [(0, some (.row 5 1 x1_0.length (lsEl byC x1_0)))]⟩ : ASt) _
    refine aw_seq (aw_region ?_)
    iterate 2 refine s_mv ?_
    obtain ⟨g2, h⟩ := Md.ifp_s h
    refine aops_step1 rfl (st_app_ls (f := byC) x1_0 a1 (fun _ => rfl) rfl rfl (.inl rfl) (by omega) (by omega) rfl) (s_sa ?_)
    refine aops_nil ?_
    cases Option.some.inj h
    refine aw_ret ⟨rfl, ret_r 0 r1 rfl rfl rfl ?_ ?_ ?_⟩
    · first | exact TLe.refl _ | (repeat' (first | exact .refl _ | exact .nil | refine .tup ?_ | refine .v ?_ | refine .cons ?_ ?_ | refine .agg ?_ | refine .one ?_ | exact .nil _ | exact .emp _ | refine .val ?_ | refine .slc ?_ ?_ | fail))
    · rfl
    · rfl
  intro p1
  obtain ⟨⟨n1, s1_0, s1_1⟩, l1⟩ := p1
  change AW _ _ (⟨37, [], [(0, .one (CV.ls c_JournalRecord a0)), (1, .one (CV.ls byC a1)), (5, .one (.own 0)), (6, vI ((s1_0 : Nat) : Int))], [(0, some (.row 5 1 s1_1.length (lsEl byC s1_1)))]⟩ : ASt) _
  replace l1 : actorgridlaw27_bytes_loop1 k a0 n1 s1_0 s1_1 = some o1 := l1
  rcases n1 with _ | n1
  · exact absurd (show none = some o1 from l1) nofun
  rw [actorgridlaw27_bytes_loop1] at l1
  refine aw_seq (aw_seq (aw_region ?_))
  iterate 2 refine s_mv ?_
  refine s_ln ?_
  refine s_cm ?_
  refine aops_nil ?_
  refine aw_cond rfl (fun c3 => ?_) (fun c3 => ?_)
  · replace l1 := Md.cond_t l1 c3
    refine aw_skip ?_
    obtain ⟨o4, j4, l1⟩ := Md.bind_s l1
    refine aw_cut (ε := (List UInt8)) (fun x => (⟨37, [], [(0, .one (CV.ls c_JournalRecord a0)), (1, .one (CV.ls byC a1)), (5, .one (.own 0)), (6, vI ((s1_0 : Nat) : Int))], [(0, some (.row 5 1 x.length (lsEl byC x)))]⟩ : ASt)) (fun x => x = o4) ?_ ?_
    · intro x4_0 hI4
      subst hI4
      change AW _ _ (⟨37, [], [(0, .one (CV.ls c_JournalRecord a0)), (1, .one (CV.ls byC a1)), (5, .one (.own 0)), (6, vI ((s1_0 : Nat) : Int))], [(0, some (.row 5 1 x4_0.length (lsEl byC x4_0)))]⟩ : ASt) _
      refine aw_region (s_mv ?_)
      obtain ⟨g5, l1⟩ := Md.ifp_s l1
      refine aops_step1 rfl (ev_add rfl rfl rfl (Md.nat_add g5)) (s_sa ?_)
      refine aops_nil ?_
      exact ⟨⟨(n1, (s1_0 + 1), x4_0), l1⟩, Nat.lt_succ_self _, wk⟩
    refine aw_block ?_
    obtain ⟨g6, j4⟩ := Md.ifp_s j4
    obtain ⟨g7, j4⟩ := Md.ifp_s j4
    obtain ⟨x8, hx8, j4⟩ := Md.bind_s j4
    refine aw_seq ?_
    apply aw_draw 15 ((⟨[], .one (CV.ls c_JournalRecord a0)⟩ : Add) :: ⟨[], vI ((s1_0 : Nat) : Int)⟩ :: ⟨[], .one (.cptr _)⟩ :: ⟨[], .one (.cptr _)⟩ :: ⟨[], vI ((a0.getD s1_0 default).Kind)⟩ :: ⟨[], .one (CV.ls c_JournalRecord a0)⟩ :: ⟨[], vI ((s1_0 : Nat) : Int)⟩ :: ⟨[], .one (.cptr _)⟩ :: ⟨[], .one (.cptr _)⟩ :: ⟨[], .one (CV.ls byC ((a0.getD s1_0 default).Body))⟩ :: ⟨[], .tup [.one (CV.ls byC x8.1), vI x8.2]⟩ :: ⟨[], .tup [.one (CV.ls byC x8.1), vI x8.2]⟩ :: ⟨[], .one (CV.ls byC x8.1)⟩ :: ⟨[], vI x8.2⟩ :: ⟨[], .one (CV.ls byC x8.1)⟩ :: []) (by decide) rfl ?hk7x ?hf7x ?ho7x ?hr7x
    case ho7x =>
     refine ob [] (fun S hle hfr => .inl ⟨w0, st_move (hle.e rfl) (hle.d rfl)⟩) (ob [] (fun S hle hfr => .inl ⟨w0, st_move (hle.e rfl) (hle.d rfl)⟩) ?_)
     refine ob [0, 1] (fun S hle hfr => .inl ⟨w0, ev_index_in (hle.e rfl) (hle.e rfl) rfl g6 rfl (hle.d rfl)⟩) ?_
     refine ob [2, 0, 1] (fun S hle hfr => .inl ⟨w0, ev_field_in (hle.e rfl) rfl (hle.d rfl)⟩) ?_
     refine ob [3, 2, 0, 1] (fun S hle hfr => .inl ⟨w0, ev_load_in (hle.e rfl) rfl (hle.d rfl)⟩) ?_
     refine ob [] (fun S hle hfr => .inl ⟨w0, st_move (hle.e rfl) (hle.d rfl)⟩) (ob [] (fun S hle hfr => .inl ⟨w0, st_move (hle.e rfl) (hle.d rfl)⟩) ?_)
     refine ob [5, 6] (fun S hle hfr => .inl ⟨w0, ev_index_in (hle.e rfl) (hle.e rfl) rfl g7 rfl (hle.d rfl)⟩) ?_
     refine ob [7, 5, 6] (fun S hle hfr => .inl ⟨w0, ev_field_in (hle.e rfl) rfl (hle.d rfl)⟩) ?_
     refine ob [8, 7, 5, 6] (fun S hle hfr => .inl ⟨w0, ev_load_in (hle.e rfl) rfl (hle.d rfl)⟩) ?_
     refine ob [4, 9, 3, 8, 2, 7, 0, 1, 5, 6] (fun S hle hfr => .inl ⟨w0, ev_call_v (actorgridref1_Seal_fn k ((a0.getD s1_0 default).Kind) ((a0.getD s1_0 default).Body) x8 hx8) (map_ev (.cons (hle.e rfl) (.cons (hle.e rfl) (.nil)))) [] (by repeat' (first | exact .nil | refine .cons ?_ ?_ | refine .one ?_ | refine .agg ?_ | exact .mk rfl | exact .lend (hle.heap _ _ rfl) (by simp) | exact .le (.nil _) rfl | exact .le (.emp _) rfl | exact .le (.any _) rfl | fail)) rfl rfl rfl (.inl rfl) (hle.d rfl)⟩) ?_
     refine ob [10, 4, 9, 3, 8, 2, 7, 0, 1, 5, 6] (fun S hle hfr => .inl ⟨w0, st_movet (hle.e rfl) (hle.d rfl)⟩) ?_
     refine ob [11, 10, 4, 9, 3, 8, 2, 7, 0, 1, 5, 6] (fun S hle hfr => .inl ⟨w0, ev_extract (hle.e rfl) rfl (hle.d rfl)⟩) ?_
     refine ob [11, 10, 4, 9, 3, 8, 2, 7, 0, 1, 5, 6] (fun S hle hfr => .inl ⟨w0, ev_extract (hle.e rfl) rfl (hle.d rfl)⟩) ?_
     refine ob [12, 10, 0, 1, 2, 3, 4, 5, 6, 7, 8, 9, 11] (fun S hle hfr => .inl ⟨w0, st_assign (hle.e rfl) (hle.d rfl)⟩) ?_
     exact trivial
    case hk7x => rfl
    case hf7x => rfl
    refine s_sa ?_
    refine aops_nil (aw_seq (aw_region (s_mv ?_)))
    refine s_cm ?_
    refine aops_nil ?_
    refine aw_cond rfl (fun c9 => ?_) (fun c9 => ?_)
    · replace j4 := Md.cond_t j4 c9
      refine aw_region ?_
      iterate 2 refine s_mv ?_
      obtain ⟨g10, j4⟩ := Md.ifp_s j4
      refine aops_step1 rfl (st_app_ls (f := byC) s1_1 x8.1 (fun _ => rfl) rfl rfl (.inl rfl) (by omega) (by omega) rfl) (s_sa ?_)
      refine aops_nil ?_
      show ∃ _x : (List UInt8), _ = _ ∧ Weak _ _
      exact ⟨(s1_1 ++ x8.1), Option.some.inj j4, wk⟩
    replace j4 := Md.cond_f j4 c9
    refine aw_skip ?_
    show ∃ _x : (List UInt8), _ = _ ∧ Weak _ _
    exact ⟨s1_1, Option.some.inj j4, wk⟩
  replace l1 := Md.cond_f l1 c3
  refine aw_exit ?_
  show ∃ _x : (List UInt8), _ = _ ∧ Weak _ _
  exact ⟨s1_1, Option.some.inj l1, wk⟩
set_option maxHeartbeats 2000000 in
theorem actorgridref26_RecoverRecords_fn (k : Nat) (a0 : Disk) (r : (List JournalRecord) × Disk × Int) (h : actorgridref26_RecoverRecords k a0 = some r) : FnC Try.prog 43 [.agg (c_Disk a0)] [] (Det (.tup [.one (CV.ls c_JournalRecord r.1), .agg (c_Disk r.2.1), vI r.2.2]) []) := by
  unfold actorgridref26_RecoverRecords at h
  refine fn_intro' 45 Try.func43 rfl rfl rfl (aw_seq (aw_region (aops_step1 rfl (st_box 0 rfl rfl rfl rfl) (s_sa ?_))))
  refine aops_step1 rfl (st_alloc (cs := [.val (.slice none 0 0), cI 0, cB false, cI 0, cI 0, cB false]) 1 rfl rfl rfl rfl rfl) (s_sa ?_)
  refine aops_nil (aw_seq (aw_seq (aw_region (s_ls [_, _, _, _, _, _] ?_))))
  obtain ⟨x1, hx1, h⟩ := Md.bind_s h
  refine aops_step1 rfl (ev_call_v (actorgridref26_ValidDisk_fn k a0 x1 hx1) rfl [] ai rfl rfl rfl (.inl rfl) rfl) (s_nt ?_)
  refine aops_nil ?_
  refine aw_cond rfl (fun c2 => ?_) (fun c2 => ?_)
  · replace h := Md.cond_t h c2
    refine aw_seq (aw_region (aops_step1 rfl (ev_build' (out := [_, _, _, _, _, _]) rfl rfl rfl rfl rfl) (s_sa ?_)))
    refine s_st [_, _, _, _, _, _] ?_
    refine s_sa ?_
    refine aops_nil ?_
    cases Option.some.inj h
    exact aw_ret ⟨rfl, rv (rn (.cons o1 (.cons (va [_, _, _, _, _, _]) (.cons o1 .nil))))⟩
  replace h := Md.cond_f h c2
  refine aw_skip (aw_seq (aw_seq (aw_region (s_fd ?_))))
  refine s_ld ?_
  refine aops_nil ?_
  refine aw_cond rfl (fun c3 => ?_) (fun c3 => ?_)
  · replace h := Md.cond_t h c3
    refine aw_seq (aw_region (s_ls [_, _, _, _, _, _] ?_))
    obtain ⟨x4, hx4, h⟩ := Md.bind_s h
    refine aops_step1 rfl (st_call_r (r' := .agg [.own 2, cI x4.Capacity, cB x4.Armed, cI x4.Writes, cI x4.Keep, cB x4.Down]) 2 rfl (actorgridref26_copyDisk_fn k a0 x4 hx4) rfl [] ai rfl rfl rfl (.inl rfl) rfl rfl) (s_sa ?_)
    refine s_st [_, _, _, _, _, _] ?_
    refine s_sa ?_
    refine aops_nil ?_
    cases Option.some.inj h
    refine aw_freeze 2 rfl ?_
    exact aw_ret ⟨rfl, rv (rn (.cons o1 (.cons (va [_, _, _, _, _, _]) (.cons o1 .nil))))⟩
  replace h := Md.cond_f h c3
  refine aw_skip (aw_seq (aw_region (s_fd ?_)))
  refine s_ld ?_
  obtain ⟨x5, hx5, h⟩ := Md.bind_s h
  refine aops_step1 rfl (ev_call_v (actorgridref26_Scan_fn k a0.Data x5 hx5) rfl [] ai rfl rfl rfl (.inl rfl) rfl) (s_mt ?_)
  iterate 3 refine s_ex ?_
  iterate 3 refine s_sa ?_
  refine aops_nil (aw_seq (aw_seq (aw_region (s_mv ?_))))
  refine s_fd ?_
  refine s_ld ?_
  refine s_ln ?_
  refine s_cm ?_
  refine aops_nil ?_
  refine aw_cond rfl (fun c6 => ?_) (fun c6 => ?_)
  · replace h := Md.cond_t h c6
    refine aw_seq (aw_region (s_mv ?_))
    refine s_ls [_, _, _, _, _, _] ?_
    obtain ⟨x7, hx7, h⟩ := Md.bind_s h
    refine aops_step1 rfl (st_call_r (r' := .agg [.own 2, cI x7.Capacity, cB x7.Armed, cI x7.Writes, cI x7.Keep, cB x7.Down]) 2 rfl (actorgridref26_copyDisk_fn k a0 x7 hx7) rfl [] ai rfl rfl rfl (.inl rfl) rfl rfl) (s_sa ?_)
    refine s_st [_, _, _, _, _, _] ?_
    refine s_sa ?_
    refine aops_nil ?_
    cases Option.some.inj h
    refine aw_freeze 2 rfl ?_
    exact aw_ret ⟨rfl, rv (rn (.cons o1 (.cons (va [_, _, _, _, _, _]) (.cons o1 .nil))))⟩
  replace h := Md.cond_f h c6
  refine aw_skip (aw_seq (aw_region (s_ls [_, _, _, _, _, _] ?_)))
  refine s_mv ?_
  obtain ⟨x8, hx8, h⟩ := Md.bind_s h
  refine aops_step1 rfl (ev_call_v (actorgridref26_Truncate_fn k a0 x5.2.2 x8 hx8) rfl [] ai rfl rfl rfl (.inl rfl) rfl) (s_mt ?_)
  iterate 2 refine s_ex ?_
  refine aops_step1 rfl (st_alloc (cs := [.val (.slice none 0 0), cI 0, cB false, cI 0, cI 0, cB false]) 2 rfl rfl rfl rfl rfl) (s_st [_, _, _, _, _, _] ?_)
  refine s_sa ?_
  refine aops_nil (aw_seq (aw_seq (aw_region (s_mv ?_))))
  refine s_cm ?_
  refine aops_nil ?_
  refine aw_cond rfl (fun c9 => ?_) (fun c9 => ?_)
  · replace h := Md.cond_t h c9
    refine aw_seq_mid (⟨45, [], [(2, .one (.val (.slice none 0 0))), (3, .one (.ptr 1 0)), (4, vI x8.2)], [(1, some (.box (c_Disk x8.1)))]⟩ : ASt) ?_ ?_
    ·
      apply aw_late 3 1 ((⟨[], .agg (c_Disk x8.1)⟩ : Add) :: ⟨[], vI x8.2⟩ :: ⟨[], .one (.val (.slice none 0 0))⟩ :: []) (by decide) (by decide) rfl rfl rfl ?hk1x ?hf1x ?ho1x ?hr1x ?hl1x
      case ho1x =>
       refine ob [] (fun S hle hfr => .inl ⟨w0, ev_loads (ds := [_, _, _, _, _, _]) (hle.e rfl) (hle.heap _ _ rfl) rfl rfl (hle.d rfl)⟩) ?_
       refine ob [] (fun S hle hfr => .inl ⟨w0, st_move (hle.e rfl) (hle.d rfl)⟩) (ob [] (fun S hle hfr => .inl ⟨w0, st_assign (hle.e rfl) (hle.d rfl)⟩) ?_)
       exact trivial
      case hk1x => rfl
      case hf1x => rfl
      case hr1x =>
       refine s_st [_, _, _, _, _, _] ?_
       refine s_sa ?_
       refine aops_nil ?_
       exact wk
      case hl1x =>
       refine s_st [_, _, _, _, _, _] ?_
       refine s_mv ?_
       refine s_sa ?_
       refine aops_nil ?_
       exact wk
    cases Option.some.inj h
    exact aw_ret ⟨rfl, rv (rn (.cons o1 (.cons (va [_, _, _, _, _, _]) (.cons o1 .nil))))⟩
  replace h := Md.cond_f h c9
  refine aw_skip (aw_seq ?_)
  apply aw_draw 3 ((⟨[], .one (CV.ls c_JournalRecord x5.1)⟩ : Add) :: ⟨[], .agg (c_Disk x8.1)⟩ :: ⟨[], .one (CV.ls c_JournalRecord x5.1)⟩ :: []) (by decide) rfl ?hk2x ?hf2x ?ho2x ?hr2x
  case ho2x =>
   refine ob [] (fun S hle hfr => .inl ⟨w0, st_move (hle.e rfl) (hle.d rfl)⟩) ?_
   refine ob [] (fun S hle hfr => .inl ⟨w0, ev_loads (ds := [_, _, _, _, _, _]) (hle.e rfl) (hle.heap _ _ rfl) rfl rfl (hle.d rfl)⟩) ?_
   refine ob [0] (fun S hle hfr => .inl ⟨w0, st_assign (hle.e rfl) (hle.d rfl)⟩) ?_
   exact trivial
  case hk2x => rfl
  case hf2x => rfl
  refine s_st [_, _, _, _, _, _] ?_
  refine s_sa ?_
  refine aops_nil ?_
  cases Option.some.inj h
  exact aw_ret ⟨rfl, rv (rn (.cons o1 (.cons (va [_, _, _, _, _, _]) (.cons o1 .nil))))⟩
end Md
end Go.Proofs.Ytkcfkcgclljncaa
