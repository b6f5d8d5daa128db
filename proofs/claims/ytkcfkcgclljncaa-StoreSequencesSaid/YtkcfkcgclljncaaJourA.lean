/-
  JourA: where a function's model gives a value, the function returns what reads as it (printed by wip/tools/auto.py). Condition of each: the model gives a value.
-/
import Derived.Test.YtkcfkcgclljncaaJourAM
import Derived.Test.YtkcfkcgclljncaaTy
import Derived.Test.YtkcfkcgclljncaaAbsS
import Derived.Test.YtkcfkcgclljncaaWireJ
namespace Go.Proofs.Ytkcfkcgclljncaa
open Go.ChangeShapes Go.WideShapes Go.RowKit
open Abs
set_option linter.unusedVariables false
set_option linter.unusedSimpArgs false
set_option maxRecDepth 10000
namespace Md
def c_JournalRecord (x : JournalRecord) : List CV := [cI x.Kind, CV.ls byC x.Body]
def c_Int (x : Int) : List CV := [cI x]
set_option maxHeartbeats 2000000 in
theorem journal_ValidRecord_fn (k : Nat) (a0 : JournalRecord) (r : Bool) (h : journal_ValidRecord k a0 = some r) : FnC Try.prog 35 [.agg (c_JournalRecord a0)] [] (Det (vB r) []) := by
  unfold journal_ValidRecord at h
  refine fn_intro' 17 Try.func35 rfl rfl rfl (aw_seq (aw_region (aops_step1 rfl (st_box 0 rfl rfl rfl rfl) (s_sa ?_))))
  refine aops_nil (aw_seq (aw_region (s_fd ?_)))
  refine s_ld ?_
  refine s_cm ?_
  refine s_mv ?_
  refine aops_mid 4 (⟨17, [], [(1, .one (.ptr 0 0)), (2, vB false), (10, vB ((decide (a0.Kind ≥ 1)) && (decide (a0.Kind ≤ 255))))], [(0, some (.box (c_JournalRecord a0)))]⟩ : ASt) ?_ ?_
  · rcases Md.bool_or ((decide (a0.Kind ≥ 1))) with q1 | q1
    · skip
      refine y_fd q1 ?_
      refine y_ld q1 ?_
      refine y_cm q1 ?_
      refine s_py q1 ?_
      refine aops_nil ?_
      exact wq q1
    iterate 3 refine np q1 ?_
    refine s_pn q1 ?_
    refine aops_nil ?_
    exact wq q1
  refine s_mv ?_
  refine aops_mid 5 (⟨17, [], [(2, vB false), (16, vB (((decide (a0.Kind ≥ 1)) && (decide (a0.Kind ≤ 255))) && (decide (((a0.Body.length : Nat) : Int) ≤ 16777216))))], []⟩ : ASt) ?_ ?_
  · rcases Md.bool_or (((decide (a0.Kind ≥ 1)) && (decide (a0.Kind ≤ 255)))) with q2 | q2
    · skip
      refine y_fd q2 ?_
      refine y_ld q2 ?_
      refine y_ln q2 ?_
      refine y_cm q2 ?_
      refine s_py q2 ?_
      refine aops_nil ?_
      exact wq q2
    iterate 4 refine np q2 ?_
    refine s_pn q2 ?_
    refine aops_nil ?_
    exact wq q2
  refine s_sa ?_
  refine aops_nil ?_
  cases Option.some.inj h
  exact aw_ret ⟨rfl, rv r1⟩
set_option maxHeartbeats 2000000 in
theorem journal_Append_fn (k : Nat) (a0 : Disk) (a1 : JournalRecord) (r : Disk × Int) (h : journal_Append k a0 a1 = some r) : FnC Try.prog 32 [.agg (c_Disk a0), .agg (c_JournalRecord a1)] [] (Det (.tup [.agg (c_Disk r.1), vI r.2]) []) := by
  unfold journal_Append at h
  refine fn_intro' 34 Try.func32 rfl rfl rfl (aw_seq (aw_region (aops_step1 rfl (st_box 0 rfl rfl rfl rfl) (aops_step1 rfl (st_box 1 rfl rfl rfl rfl) ?_))))
  refine aops_step1 rfl (st_alloc (cs := [.val (.slice none 0 0), cI 0, cB false, cI 0, cI 0, cB false]) 2 rfl rfl rfl rfl rfl) (s_sa ?_)
  refine aops_nil (aw_seq (aw_seq (aw_region (s_ls [_, _, _, _, _, _] ?_))))
  obtain ⟨x1, hx1, h⟩ := Md.bind_s h
  refine aops_step1 rfl (ev_call_v (disk_Valid_fn k a0 x1 hx1) rfl [] ai rfl rfl rfl (.inl rfl) rfl) (s_nt ?_)
  refine s_mv ?_
  obtain ⟨o2, j2, h⟩ := Md.bind_s h
  refine aops_cut 4 (ε := Bool) (fun x2 => (⟨34, [], [(2, .one (.ptr 0 0)), (3, .one (.ptr 1 0)), (4, .one (.ptr 2 0)), (15, vB x2)], [(0, some (.box (c_Disk a0))), (1, some (.box (c_JournalRecord a1))), (2, some (.box [.val (.slice none 0 0), cI 0, cB false, cI 0, cI 0, cB false]))]⟩ : ASt)) (fun x2 => x2 = o2) ?_ ?_
  · intro x2 hI2
    subst hI2
    change AOps _ _ _ (⟨34, [], [(2, .one (.ptr 0 0)), (3, .one (.ptr 1 0)), (4, .one (.ptr 2 0)), (15, vB x2)], [(0, some (.box (c_Disk a0))), (1, some (.box (c_JournalRecord a1))), (2, some (.box [.val (.slice none 0 0), cI 0, cB false, cI 0, cI 0, cB false]))]⟩ : ASt) _
    refine aops_nil ?_
    refine aw_cond rfl (fun c3 => ?_) (fun c3 => ?_)
    · replace h := Md.cond_t h c3
      refine aw_seq (aw_region (aops_step1 rfl (ev_build' (out := [_, _, _, _, _, _]) rfl rfl rfl rfl rfl) (s_st [_, _, _, _, _, _] ?_)))
      refine s_sa ?_
      refine aops_nil ?_
      cases Option.some.inj h
      exact aw_ret ⟨rfl, rv (rn (.cons (va [_, _, _, _, _, _]) (.cons o1 .nil)))⟩
    replace h := Md.cond_f h c3
    refine aw_skip (aw_seq (aw_region (s_fd ?_)))
    refine s_ld ?_
    refine s_fd ?_
    refine s_ld ?_
    obtain ⟨x4, hx4, h⟩ := Md.bind_s h
    refine aops_step1 rfl (ev_call_v (wire_Seal_fn k a1.Kind a1.Body x4 hx4) rfl [] ai rfl rfl rfl (.inl rfl) rfl) (s_mt ?_)
    iterate 2 refine s_ex ?_
    iterate 2 refine s_sa ?_
    refine aops_nil (aw_seq (aw_seq (aw_region (s_mv ?_))))
    refine s_cm ?_
    refine aops_nil ?_
    refine aw_cond rfl (fun c5 => ?_) (fun c5 => ?_)
    · replace h := Md.cond_t h c5
      refine aw_seq (aw_region (aops_step1 rfl (ev_build' (out := [_, _, _, _, _, _]) rfl rfl rfl rfl rfl) (s_mv ?_)))
      refine s_st [_, _, _, _, _, _] ?_
      refine s_sa ?_
      refine aops_nil ?_
      cases Option.some.inj h
      exact aw_ret ⟨rfl, rv (rn (.cons (va [_, _, _, _, _, _]) (.cons o1 .nil)))⟩
    replace h := Md.cond_f h c5
    refine aw_skip (aw_seq (aw_region (s_ls [_, _, _, _, _, _] ?_)))
    refine s_mv ?_
    obtain ⟨x6, hx6, h⟩ := Md.bind_s h
    refine aops_step1 rfl (ev_call_v (disk_Append_fn k a0 x4.1 x6 hx6) rfl [] ai rfl rfl rfl (.inl rfl) rfl) ?_
    iterate 2 refine s_ex ?_
    refine s_st [_, _, _, _, _, _] ?_
    refine s_sa ?_
    refine aops_nil ?_
    cases Option.some.inj h
    exact aw_ret ⟨rfl, rv (rn (.cons (va [_, _, _, _, _, _]) (.cons o1 .nil)))⟩
  rcases Md.bool_or ((!x1)) with q2 | q2
  · replace j2 := Md.cond_t j2 q2
    iterate 3 refine np q2 ?_
    refine s_py q2 ?_
    refine aops_nil ?_
    show ∃ _x : Bool, _ = _ ∧ Weak _ _
    exact ⟨true, Option.some.inj j2, wk⟩
  replace j2 := Md.cond_f j2 q2
  refine aops_yes rfl rfl rfl rfl q2 (ev_loads (ds := [_, _]) rfl rfl rfl rfl rfl) ?_
  obtain ⟨x7, hx7, j2⟩ := Md.bind_s j2
  refine aops_yes rfl rfl rfl rfl q2 (ev_call_v (journal_ValidRecord_fn k a1 x7 hx7) rfl [] ai rfl rfl rfl (.inl rfl) rfl) (y_nt q2 ?_)
  refine s_pn q2 ?_
  refine aops_nil ?_
  show ∃ _x : Bool, _ = _ ∧ Weak _ _
  exact ⟨(!x7), Option.some.inj j2, wk⟩
set_option maxHeartbeats 2000000 in
theorem actorgridref26_ValidRecord_fn (k : Nat) (a0 : JournalRecord) (r : Bool) (h : actorgridref26_ValidRecord k a0 = some r) : FnC Try.prog 36 [.agg (c_JournalRecord a0)] [] (Det (vB r) []) := by
  unfold actorgridref26_ValidRecord at h
  refine fn_intro' 17 Try.func36 rfl rfl rfl (aw_seq (aw_region (aops_step1 rfl (st_box 0 rfl rfl rfl rfl) (s_sa ?_))))
  refine aops_nil (aw_seq (aw_region (s_fd ?_)))
  refine s_ld ?_
  refine s_cm ?_
  refine s_mv ?_
  refine aops_mid 4 (⟨17, [], [(1, .one (.ptr 0 0)), (2, vB false), (10, vB ((decide (a0.Kind ≥ 1)) && (decide (a0.Kind ≤ 255))))], [(0, some (.box (c_JournalRecord a0)))]⟩ : ASt) ?_ ?_
  · rcases Md.bool_or ((decide (a0.Kind ≥ 1))) with q1 | q1
    · skip
      refine y_fd q1 ?_
      refine y_ld q1 ?_
      refine y_cm q1 ?_
      refine s_py q1 ?_
      refine aops_nil ?_
      exact wq q1
    iterate 3 refine np q1 ?_
    refine s_pn q1 ?_
    refine aops_nil ?_
    exact wq q1
  refine s_mv ?_
  refine aops_mid 5 (⟨17, [], [(2, vB false), (16, vB (((decide (a0.Kind ≥ 1)) && (decide (a0.Kind ≤ 255))) && (decide (((a0.Body.length : Nat) : Int) ≤ 16777216))))], []⟩ : ASt) ?_ ?_
  · rcases Md.bool_or (((decide (a0.Kind ≥ 1)) && (decide (a0.Kind ≤ 255)))) with q2 | q2
    · skip
      refine y_fd q2 ?_
      refine y_ld q2 ?_
      refine y_ln q2 ?_
      refine y_cm q2 ?_
      refine s_py q2 ?_
      refine aops_nil ?_
      exact wq q2
    iterate 4 refine np q2 ?_
    refine s_pn q2 ?_
    refine aops_nil ?_
    exact wq q2
  refine s_sa ?_
  refine aops_nil ?_
  cases Option.some.inj h
  exact aw_ret ⟨rfl, rv r1⟩
set_option maxHeartbeats 2000000 in
theorem actorgridref26_AppendRecord_fn (k : Nat) (a0 : Disk) (a1 : JournalRecord) (r : Disk × Int) (h : actorgridref26_AppendRecord k a0 a1 = some r) : FnC Try.prog 33 [.agg (c_Disk a0), .agg (c_JournalRecord a1)] [] (Det (.tup [.agg (c_Disk r.1), vI r.2]) []) := by
  unfold actorgridref26_AppendRecord at h
  refine fn_intro' 30 Try.func33 rfl rfl rfl (aw_seq (aw_region (aops_step1 rfl (st_box 0 rfl rfl rfl rfl) (aops_step1 rfl (st_box 1 rfl rfl rfl rfl) ?_))))
  refine aops_step1 rfl (st_alloc (cs := [.val (.slice none 0 0), cI 0, cB false, cI 0, cI 0, cB false]) 2 rfl rfl rfl rfl rfl) (s_sa ?_)
  refine aops_nil (aw_seq (aw_seq (aw_region (s_ls [_, _, _, _, _, _] ?_))))
  obtain ⟨x1, hx1, h⟩ := Md.bind_s h
  refine aops_step1 rfl (ev_call_v (actorgridref26_ValidDisk_fn k a0 x1 hx1) rfl [] ai rfl rfl rfl (.inl rfl) rfl) (s_nt ?_)
  refine s_mv ?_
  obtain ⟨o2, j2, h⟩ := Md.bind_s h
  refine aops_cut 4 (ε := Bool) (fun x2 => (⟨30, [], [(2, .one (.ptr 0 0)), (3, .one (.ptr 1 0)), (4, .one (.ptr 2 0)), (15, vB x2)], [(0, some (.box (c_Disk a0))), (1, some (.box (c_JournalRecord a1))), (2, some (.box [.val (.slice none 0 0), cI 0, cB false, cI 0, cI 0, cB false]))]⟩ : ASt)) (fun x2 => x2 = o2) ?_ ?_
  · intro x2 hI2
    subst hI2
    change AOps _ _ _ (⟨30, [], [(2, .one (.ptr 0 0)), (3, .one (.ptr 1 0)), (4, .one (.ptr 2 0)), (15, vB x2)], [(0, some (.box (c_Disk a0))), (1, some (.box (c_JournalRecord a1))), (2, some (.box [.val (.slice none 0 0), cI 0, cB false, cI 0, cI 0, cB false]))]⟩ : ASt) _
    refine aops_nil ?_
    refine aw_cond rfl (fun c3 => ?_) (fun c3 => ?_)
    · replace h := Md.cond_t h c3
      refine aw_seq (aw_region (aops_step1 rfl (ev_build' (out := [_, _, _, _, _, _]) rfl rfl rfl rfl rfl) (s_st [_, _, _, _, _, _] ?_)))
      refine s_sa ?_
      refine aops_nil ?_
      cases Option.some.inj h
      exact aw_ret ⟨rfl, rv (rn (.cons (va [_, _, _, _, _, _]) (.cons o1 .nil)))⟩
    replace h := Md.cond_f h c3
    refine aw_skip (aw_seq (aw_region (s_fd ?_)))
    refine s_ld ?_
    refine s_fd ?_
    refine s_ld ?_
    obtain ⟨x4, hx4, h⟩ := Md.bind_s h
    refine aops_step1 rfl (ev_call_v (actorgridref1_Seal_fn k a1.Kind a1.Body x4 hx4) rfl [] ai rfl rfl rfl (.inl rfl) rfl) (s_mt ?_)
    iterate 2 refine s_ex ?_
    iterate 2 refine s_sa ?_
    refine aops_nil (aw_seq (aw_region (s_ls [_, _, _, _, _, _] ?_)))
    refine s_mv ?_
    obtain ⟨x5, hx5, h⟩ := Md.bind_s h
    refine aops_step1 rfl (ev_call_v (actorgridref26_AppendDisk_fn k a0 x4.1 x5 hx5) rfl [] ai rfl rfl rfl (.inl rfl) rfl) ?_
    iterate 2 refine s_ex ?_
    refine s_st [_, _, _, _, _, _] ?_
    refine s_sa ?_
    refine aops_nil ?_
    cases Option.some.inj h
    exact aw_ret ⟨rfl, rv (rn (.cons (va [_, _, _, _, _, _]) (.cons o1 .nil)))⟩
  rcases Md.bool_or ((!x1)) with q2 | q2
  · replace j2 := Md.cond_t j2 q2
    iterate 3 refine np q2 ?_
    refine s_py q2 ?_
    refine aops_nil ?_
    show ∃ _x : Bool, _ = _ ∧ Weak _ _
    exact ⟨true, Option.some.inj j2, wk⟩
  replace j2 := Md.cond_f j2 q2
  refine aops_yes rfl rfl rfl rfl q2 (ev_loads (ds := [_, _]) rfl rfl rfl rfl rfl) ?_
  obtain ⟨x6, hx6, j2⟩ := Md.bind_s j2
  refine aops_yes rfl rfl rfl rfl q2 (ev_call_v (actorgridref26_ValidRecord_fn k a1 x6 hx6) rfl [] ai rfl rfl rfl (.inl rfl) rfl) (y_nt q2 ?_)
  refine s_pn q2 ?_
  refine aops_nil ?_
  show ∃ _x : Bool, _ = _ ∧ Weak _ _
  exact ⟨(!x6), Option.some.inj j2, wk⟩
set_option maxHeartbeats 2000000 in
theorem actorgridref26_Scan_fn (k : Nat) (a0 : List UInt8) (r : (List JournalRecord) × (List Int) × Int) (h : actorgridref26_Scan k a0 = some r) : FnC Try.prog 39 [.one (CV.ls byC a0)] [] (Det (.tup [.one (CV.ls c_JournalRecord r.1), .one (CV.ls c_Int r.2.1), vI r.2.2]) []) := by
  unfold actorgridref26_Scan at h
  refine fn_intro' 41 Try.func39 rfl rfl rfl (aw_seq (aw_region ?_))
  iterate 3 refine s_sa ?_
  refine aops_nil (aw_seq (aw_region (s_sa ?_)))
  refine aops_nil (aw_seq (aw_region (s_sa ?_)))
  refine aops_nil (aw_seq (aw_region (s_sa ?_)))
  refine aops_nil (aw_block (aw_own_nil 5 0 46 2 (lsEl c_JournalRecord []) rfl rfl (aw_own_nil 6 1 3 1 (lsEl c_Int []) rfl rfl ?_)))
  obtain ⟨o1, ho1, h⟩ := Md.bind_s h
  refine aw_loop (ι := {p : Nat × Int × (List JournalRecord) × (List Int) // actorgridref26_Scan_loop1 k a0 p.1 p.2.1 p.2.2.1 p.2.2.2 = some o1}) (fun p => (⟨41, [], [(0, .one (CV.ls byC a0)), (5, .one (.own 0)), (6, .one (.own 1)), (7, vI p.1.2.1)], [(0, some (.row 46 2 p.1.2.2.1.length (lsEl c_JournalRecord p.1.2.2.1))), (1, some (.row 3 1 p.1.2.2.2.length (lsEl c_Int p.1.2.2.2)))]⟩ : ASt)) (fun p => p.1.1) ⟨(k, 0, ([] : List JournalRecord), ([] : List Int)), ho1⟩ wk ?_
  intro p1
  obtain ⟨⟨n1, s1_0, s1_1, s1_2⟩, l1⟩ := p1
  change AW _ _ (⟨41, [], [(0, .one (CV.ls byC a0)), (5, .one (.own 0)), (6, .one (.own 1)), (7, vI s1_0)], [(0, some (.row 46 2 s1_1.length (lsEl c_JournalRecord s1_1))), (1, some (.row 3 1 s1_2.length (lsEl c_Int s1_2)))]⟩ : ASt) _
  replace l1 : actorgridref26_Scan_loop1 k a0 n1 s1_0 s1_1 s1_2 = some o1 := l1
  rcases n1 with _ | n1
  · exact absurd (show none = some o1 from l1) nofun
  rw [actorgridref26_Scan_loop1] at l1
  refine aw_block (aw_seq (aw_region ?_))
  iterate 2 refine s_mv ?_
  obtain ⟨g2, l1⟩ := Md.ifp_s l1
  obtain ⟨g3, l1⟩ := Md.ifp_s l1
  refine aops_step1 rfl (st_cut_lo (f := byC) (fun _ => rfl) rfl ⟨_, _, rfl, (Md.nn_eq g2)⟩ g3 rfl) ?_
  obtain ⟨x4, hx4, l1⟩ := Md.bind_s l1
  refine aops_step1 rfl (ev_call_v (actorgridref1_Open_fn k (a0.drop ((s1_0).toNat)) x4 hx4) rfl [] ai rfl rfl rfl (.inl rfl) rfl) (s_mt ?_)
  iterate 4 refine s_ex ?_
  iterate 4 refine s_sa ?_
  refine aops_nil (aw_seq (aw_seq (aw_region (s_mv ?_))))
  refine s_cm ?_
  refine aops_nil ?_
  refine aw_cond rfl (fun c5 => ?_) (fun c5 => ?_)
  · replace l1 := Md.cond_t l1 c5
    refine aw_seq (aw_region ?_)
    iterate 3 refine s_mv ?_
    iterate 3 refine s_sa ?_
    refine aops_nil ?_
    cases Option.some.inj l1
    cases Option.some.inj h
    refine aw_freeze 0 rfl (aw_freeze 1 rfl ?_)
    exact aw_ret ⟨rfl, rv (rn (.cons o1 (.cons o1 (.cons o1 .nil))))⟩
  replace l1 := Md.cond_f l1 c5
  refine aw_skip (aw_seq (aw_region ?_))
  iterate 2 refine s_mv ?_
  refine aops_step1 rfl (st_slice_lit (el := lsEl byC ([] : List UInt8)) 2 rfl rfl rfl rfl rfl rfl rfl rfl (lit_el byC 1 ([] : List UInt8) (fun _ => rfl)) rfl) (s_mv ?_)
  obtain ⟨g6, l1⟩ := Md.ifp_s l1
  refine aops_step1 rfl (st_app_ls (f := byC) ([] : List UInt8) x4.2.1 (fun _ => rfl) rfl rfl (.inl rfl) (by omega) (by omega) rfl) ?_
  refine aops_step1 rfl (ev_build' (out := [_, _]) rfl rfl rfl rfl rfl) (aops_freeze 2 rfl ?_)
  refine aops_step1 rfl (st_slice_lit (el := lsEl c_JournalRecord [(⟨x4.1, (([] : List UInt8) ++ x4.2.1)⟩ : JournalRecord)]) 3 rfl rfl rfl rfl rfl rfl rfl rfl (lit_el c_JournalRecord 2 [(⟨x4.1, (([] : List UInt8) ++ x4.2.1)⟩ : JournalRecord)] (fun _ => rfl)) rfl) ?_
  obtain ⟨g7, l1⟩ := Md.ifp_s l1
  refine aops_step1 rfl (st_app_ls (f := c_JournalRecord) s1_1 [(⟨x4.1, (([] : List UInt8) ++ x4.2.1)⟩ : JournalRecord)] (fun _ => rfl) rfl rfl (.inr ⟨_, _, rfl, rfl⟩) (by omega) (by omega) rfl) (s_sa ?_)
  refine aops_nil (aw_seq (aw_region ?_))
  iterate 2 refine s_mv ?_
  refine aops_step1 rfl (st_slice_lit (el := lsEl c_Int [s1_0]) 4 rfl rfl rfl rfl rfl rfl rfl rfl (lit_el c_Int 1 [s1_0] (fun _ => rfl)) rfl) ?_
  obtain ⟨g8, l1⟩ := Md.ifp_s l1
  refine aops_step1 rfl (st_app_ls (f := c_Int) s1_2 [s1_0] (fun _ => rfl) rfl rfl (.inr ⟨_, _, rfl, rfl⟩) (by omega) (by omega) rfl) (s_sa ?_)
  refine aops_nil (aw_region ?_)
  iterate 2 refine s_mv ?_
  refine aops_step1 rfl (ev_add rfl rfl rfl (Md.wrap_W _)) (s_sa ?_)
  refine aops_nil ?_
  exact ⟨⟨(n1, (Md.W (s1_0 + x4.2.2.1)), (s1_1 ++ [(⟨x4.1, (([] : List UInt8) ++ x4.2.1)⟩ : JournalRecord)]), (s1_2 ++ [s1_0])), l1⟩, Nat.lt_succ_self _, wk⟩
end Md
end Go.Proofs.Ytkcfkcgclljncaa
