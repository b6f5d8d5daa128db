import Derived.Test.YtclffekkjfhpdaaQMo
import Derived.Test.YtclffekkjfhpdaaQTy
import Derived.Test.YtclffekkjfhpdaaQAbsS
import Derived.Test.YtclffekkjfhpdaaQAbsF
import Derived.Test.YtclffekkjfhpdaaQCodeB
namespace Go.Proofs.Ytclffekkjfhpdaa
open Go.ChangeShapes Go.WideShapes Go.RowKit
open Abs
set_option linter.unusedVariables false
set_option linter.unusedSimpArgs false
set_option maxRecDepth 10000
namespace Md
set_option maxHeartbeats 2000000 in
theorem bytecode_Same_1_fn (k : Nat) (a0 : Field) (a1 : Field) (r : Bool) (h : bytecode_Same_1 k a0 a1 = some r) : FnC Try.prog 24 [.agg (c_Field a0), .agg (c_Field a1)] [] (Det (vB r) []) := by
  unfold bytecode_Same_1 at h
  refine fn_intro' 24 Try.func24 rfl rfl rfl (aw_seq (aw_region (aops_step1 rfl (st_box 0 rfl rfl rfl rfl) (aops_step1 rfl (st_box 1 rfl rfl rfl rfl) (s_sa ?_)))))
  refine aops_nil (aw_seq (aw_region (s_fd ?_)))
  refine s_ld ?_
  refine s_fd ?_
  refine s_ld ?_
  refine aops_step1 rfl (st_str_eq rfl rfl rfl) (s_mv ?_)
  refine aops_mid 6 (⟨24, [], [(2, .one (.ptr 0 0)), (3, .one (.ptr 1 0)), (4, vB false), (16, vB ((decide (a0.Name = a1.Name)) && (a0.Kind == a1.Kind)))], [(0, some (.box (c_Field a0))), (1, some (.box (c_Field a1)))]⟩ : ASt) ?_ ?_
  · rcases Md.bool_or ((decide (a0.Name = a1.Name))) with q1 | q1
    · skip
      refine y_fd q1 ?_
      refine y_ld q1 ?_
      refine y_fd q1 ?_
      refine y_ld q1 ?_
      refine y_cm q1 ?_
      refine s_py q1 ?_
      refine aops_nil ?_
      exact wq q1
    iterate 5 refine np q1 ?_
    refine s_pn q1 ?_
    refine aops_nil ?_
    exact wq q1
  refine s_mv ?_
  obtain ⟨o2, j2, h⟩ := Md.bind_s h
  refine aops_cut 6 (ε := Bool) (fun x2 => (⟨24, [], [(4, vB false), (23, vB x2)], []⟩ : ASt)) (fun x2 => x2 = o2) ?_ ?_
  · intro x2 hI2
    subst hI2
    change AOps _ _ _ (⟨24, [], [(4, vB false), (23, vB x2)], []⟩ : ASt) _
    refine s_sa ?_
    refine aops_nil ?_
    cases Option.some.inj h
    exact aw_ret ⟨rfl, rv r1⟩
  rcases Md.bool_or (((decide (a0.Name = a1.Name)) && (a0.Kind == a1.Kind))) with q2 | q2
  · replace j2 := Md.cond_t j2 q2
    refine y_fd q2 ?_
    refine aops_yes rfl rfl rfl rfl q2 (ev_loads (ds := [_, _, _, _, _]) rfl rfl rfl rfl rfl) (y_fd q2 ?_)
    refine aops_yes rfl rfl rfl rfl q2 (ev_loads (ds := [_, _, _, _, _]) rfl rfl rfl rfl rfl) ?_
    obtain ⟨x3, hx3, j2⟩ := Md.bind_s j2
    refine aops_yes rfl rfl rfl rfl q2 (ev_call_v (wire_SameValue_fn k a0.Init a1.Init x3 hx3) rfl [] ai rfl rfl rfl (.inl rfl) rfl) (s_py q2 ?_)
    refine aops_nil ?_
    show ∃ _x : Bool, _ = _ ∧ Weak _ _
    exact ⟨x3, Option.some.inj j2, wk⟩
  replace j2 := Md.cond_f j2 q2
  iterate 5 refine np q2 ?_
  refine s_pn q2 ?_
  refine aops_nil ?_
  show ∃ _x : Bool, _ = _ ∧ Weak _ _
  exact ⟨false, Option.some.inj j2, wk⟩
set_option maxHeartbeats 2000000 in
theorem bytecode_Same_2_fn (k : Nat) (a0 : Instr) (a1 : Instr) (r : Bool) (h : bytecode_Same_2 k a0 a1 = some r) : FnC Try.prog 26 [.agg (c_Instr a0), .agg (c_Instr a1)] [] (Det (vB r) []) := by
  unfold bytecode_Same_2 at h
  refine fn_intro' 31 Try.func26 rfl rfl rfl (aw_seq (aw_region (aops_step1 rfl (st_box 0 rfl rfl rfl rfl) (aops_step1 rfl (st_box 1 rfl rfl rfl rfl) (s_sa ?_)))))
  refine aops_nil (aw_seq (aw_region (s_fd ?_)))
  refine s_ld ?_
  refine s_fd ?_
  refine s_ld ?_
  refine s_cm ?_
  refine s_mv ?_
  refine aops_mid 6 (⟨31, [], [(2, .one (.ptr 0 0)), (3, .one (.ptr 1 0)), (4, vB false), (16, vB ((a0.Op == a1.Op) && (a0.A == a1.A)))], [(0, some (.box (c_Instr a0))), (1, some (.box (c_Instr a1)))]⟩ : ASt) ?_ ?_
  · rcases Md.bool_or ((a0.Op == a1.Op)) with q1 | q1
    · skip
      refine y_fd q1 ?_
      refine y_ld q1 ?_
      refine y_fd q1 ?_
      refine y_ld q1 ?_
      refine y_cm q1 ?_
      refine s_py q1 ?_
      refine aops_nil ?_
      exact wq q1
    iterate 5 refine np q1 ?_
    refine s_pn q1 ?_
    refine aops_nil ?_
    exact wq q1
  refine s_mv ?_
  refine aops_mid 6 (⟨31, [], [(2, .one (.ptr 0 0)), (3, .one (.ptr 1 0)), (4, vB false), (23, vB (((a0.Op == a1.Op) && (a0.A == a1.A)) && (a0.B == a1.B)))], [(0, some (.box (c_Instr a0))), (1, some (.box (c_Instr a1)))]⟩ : ASt) ?_ ?_
  · rcases Md.bool_or (((a0.Op == a1.Op) && (a0.A == a1.A))) with q2 | q2
    · skip
      refine y_fd q2 ?_
      refine y_ld q2 ?_
      refine y_fd q2 ?_
      refine y_ld q2 ?_
      refine y_cm q2 ?_
      refine s_py q2 ?_
      refine aops_nil ?_
      exact wq q2
    iterate 5 refine np q2 ?_
    refine s_pn q2 ?_
    refine aops_nil ?_
    exact wq q2
  refine s_mv ?_
  obtain ⟨o3, j3, h⟩ := Md.bind_s h
  refine aops_cut 6 (ε := Bool) (fun x3 => (⟨31, [], [(4, vB false), (30, vB x3)], []⟩ : ASt)) (fun x3 => x3 = o3) ?_ ?_
  · intro x3 hI3
    subst hI3
    change AOps _ _ _ (⟨31, [], [(4, vB false), (30, vB x3)], []⟩ : ASt) _
    refine s_sa ?_
    refine aops_nil ?_
    cases Option.some.inj h
    exact aw_ret ⟨rfl, rv r1⟩
  rcases Md.bool_or ((((a0.Op == a1.Op) && (a0.A == a1.A)) && (a0.B == a1.B))) with q3 | q3
  · replace j3 := Md.cond_t j3 q3
    refine y_fd q3 ?_
    refine aops_yes rfl rfl rfl rfl q3 (ev_loads (ds := [_, _, _, _, _]) rfl rfl rfl rfl rfl) (y_fd q3 ?_)
    refine aops_yes rfl rfl rfl rfl q3 (ev_loads (ds := [_, _, _, _, _]) rfl rfl rfl rfl rfl) ?_
    obtain ⟨x4, hx4, j3⟩ := Md.bind_s j3
    refine aops_yes rfl rfl rfl rfl q3 (ev_call_v (wire_SameValue_fn k a0.Value a1.Value x4 hx4) rfl [] ai rfl rfl rfl (.inl rfl) rfl) (s_py q3 ?_)
    refine aops_nil ?_
    show ∃ _x : Bool, _ = _ ∧ Weak _ _
    exact ⟨x4, Option.some.inj j3, wk⟩
  replace j3 := Md.cond_f j3 q3
  iterate 5 refine np q3 ?_
  refine s_pn q3 ?_
  refine aops_nil ?_
  show ∃ _x : Bool, _ = _ ∧ Weak _ _
  exact ⟨false, Option.some.inj j3, wk⟩
set_option maxHeartbeats 2000000 in
theorem zqbg (k : Nat) (a0 : List Instr) (a1 : List Instr) (r : Bool) (h : zqbf k a0 a1 = some r) : FnC Try.prog 29 [.one (CV.ls c_Instr a0), .one (CV.ls c_Instr a1), .one (.fn 26 [])] [] (Det (vB r) []) := by
  unfold zqbf at h
  refine fn_intro' 32 Try.func29 rfl rfl rfl (aw_seq (aw_region (s_sa ?_)))
  refine aops_nil (aw_seq (aw_seq (aw_region (s_mv ?_))))
  refine s_ln ?_
  refine s_mv ?_
  refine s_ln ?_
  refine s_cm ?_
  refine aops_nil ?_
  refine aw_cond rfl (fun c1 => ?_) (fun c1 => ?_)
  · replace h := Md.cond_t h c1
    refine aw_seq (aw_region (s_sa ?_))
    refine aops_nil ?_
    cases Option.some.inj h
    exact aw_ret ⟨rfl, rv r1⟩
  replace h := Md.cond_f h c1
  refine aw_skip (aw_seq (aw_seq (aw_region (s_mv ?_))))
  refine s_ln ?_
  refine s_mv ?_
  refine aops_nil (aw_block ?_)
  obtain ⟨o2, ho2, h⟩ := Md.bind_s h
  refine aw_loop_x (ι := {p : Nat × Nat // zqbh k a0 a1 p.1 p.2 = some o2}) (fun p => (⟨32, [], [(1, .one (CV.ls c_Instr a1)), (2, .one (.fn 26 [])), (15, .one (CV.ls c_Instr a0)), (16, vI ((a0.length : Nat) : Int)), (17, vI ((p.1.2 : Nat) : Int))], []⟩ : ASt)) (fun p => p.1.1) ⟨(k, 0), ho2⟩ wk 0 (ε := Unit) (fun x => (⟨32, [], [], []⟩ : ASt)) (fun x => Sum.inl x = o2) (fun _ _ w h => aw_weak w h) ?_ ?_
  · intro x2_0 hI2
    subst hI2
    replace h := Md.onS_l h
    change AW _ _ (⟨32, [], [], []⟩ : ASt) _
    refine aw_seq (aw_region (s_sa ?_))
    refine aops_nil ?_
    cases Option.some.inj h
    exact aw_ret ⟨rfl, rv r1⟩
  intro p2
  obtain ⟨⟨n2, s2_0⟩, l2⟩ := p2
  change AW _ _ (⟨32, [], [(1, .one (CV.ls c_Instr a1)), (2, .one (.fn 26 [])), (15, .one (CV.ls c_Instr a0)), (16, vI ((a0.length : Nat) : Int)), (17, vI ((s2_0 : Nat) : Int))], []⟩ : ASt) _
  replace l2 : zqbh k a0 a1 n2 s2_0 = some o2 := l2
  rcases n2 with _ | n2
  · exact absurd (show none = some o2 from l2) nofun
  rw [zqbh] at l2
  refine aw_seq (aw_region (s_cm ?_))
  refine aops_nil (aw_seq ?_)
  refine aw_cond rfl (fun c3 => ?_) (fun c3 => ?_)
  · replace l2 := Md.cond_t l2 c3
    refine aw_skip (aw_seq (aw_block (aw_seq (aw_region (s_mv ?_)))))
    obtain ⟨g4, l2⟩ := Md.ifp_s l2
    refine aops_step1 rfl (ev_index_in rfl rfl rfl g4 rfl rfl) (aops_step1 rfl (ev_loads_in (ds := [_, _, _, _, _, _, _, _]) rfl rfl rfl rfl) ?_)
    refine aops_step1 rfl (st_alloc (cs := [cI 0, cI 0, cI 0, cI 0, cI 0, .val (Sv []), .val (.slice none 0 0), .val (.slice none 0 0)]) 0 rfl rfl rfl rfl rfl) (s_sa ?_)
    refine s_st [_, _, _, _, _, _, _, _] ?_
    refine aops_nil (aw_seq (aw_region ?_))
    iterate 2 refine s_mv ?_
    obtain ⟨g5, l2⟩ := Md.ifp_s l2
    refine aops_step1 rfl (ev_index_in rfl rfl rfl g5 rfl rfl) (aops_step1 rfl (ev_loads_in (ds := [_, _, _, _, _, _, _, _]) rfl rfl rfl rfl) ?_)
    refine aops_step1 rfl (st_alloc (cs := [cI 0, cI 0, cI 0, cI 0, cI 0, .val (Sv []), .val (.slice none 0 0), .val (.slice none 0 0)]) 1 rfl rfl rfl rfl rfl) (s_st [_, _, _, _, _, _, _, _] ?_)
    refine aops_nil (aw_seq (aw_region (s_mv ?_)))
    iterate 2 refine s_ls [_, _, _, _, _, _, _, _] ?_
    obtain ⟨x6, hx6, l2⟩ := Md.bind_s l2
    refine aops_step1 rfl (ev_callee rfl (ev_call_v (bytecode_Same_2_fn k (a0.getD s2_0 default) (a1.getD s2_0 default) x6 hx6) rfl [] ai rfl rfl rfl (.inl rfl) rfl)) (s_nt ?_)
    refine aops_nil ?_
    refine aw_cond rfl (fun c7 => ?_) (fun c7 => ?_)
    · replace l2 := Md.cond_t l2 c7
      refine aw_seq (aw_region (s_sa ?_))
      refine aops_nil ?_
      cases Option.some.inj l2
      replace h := Md.onS_r h
      cases Option.some.inj h
      exact aw_ret ⟨rfl, rv r1⟩
    replace l2 := Md.cond_f l2 c7
    refine aw_skip (aw_region ?_)
    obtain ⟨g8, l2⟩ := Md.ifp_s l2
    refine aops_step1 rfl (ev_add rfl rfl rfl (Md.nat_add g8)) (s_mv ?_)
    refine aops_nil ?_
    exact ⟨⟨(n2, (s2_0 + 1)), l2⟩, Nat.lt_succ_self _, wk⟩
  replace l2 := Md.cond_f l2 c3
  refine aw_exit ?_
  show ∃ _x : Unit, _ = _ ∧ Weak _ _
  exact ⟨(), Option.some.inj l2, wk⟩
set_option maxHeartbeats 2000000 in
theorem bytecode_Same_3_fn (k : Nat) (a0 : CodeMethod) (a1 : CodeMethod) (r : Bool) (h : bytecode_Same_3 k a0 a1 = some r) : FnC Try.prog 27 [.agg (c_CodeMethod a0), .agg (c_CodeMethod a1), .one (.cptr [.fn 26 []])] [] (Det (vB r) []) := by
  unfold bytecode_Same_3 at h
  refine fn_intro' 40 Try.func27 rfl rfl rfl (aw_seq (aw_region (aops_step1 rfl (st_box 0 rfl rfl rfl rfl) (aops_step1 rfl (st_box 1 rfl rfl rfl rfl) (s_sa ?_)))))
  refine aops_nil (aw_seq (aw_region (s_fd ?_)))
  refine s_ld ?_
  refine s_fd ?_
  refine s_ld ?_
  refine aops_step1 rfl (st_str_eq rfl rfl rfl) (s_mv ?_)
  refine aops_mid 6 (⟨40, [], [(2, .one (.cptr [.fn 26 []])), (3, .one (.ptr 0 0)), (4, .one (.ptr 1 0)), (5, vB false), (17, vB ((decide (a0.Name = a1.Name)) && (a0.Result == a1.Result)))], [(0, some (.box (c_CodeMethod a0))), (1, some (.box (c_CodeMethod a1)))]⟩ : ASt) ?_ ?_
  · rcases Md.bool_or ((decide (a0.Name = a1.Name))) with q1 | q1
    · skip
      refine y_fd q1 ?_
      refine y_ld q1 ?_
      refine y_fd q1 ?_
      refine y_ld q1 ?_
      refine y_cm q1 ?_
      refine s_py q1 ?_
      refine aops_nil ?_
      exact wq q1
    iterate 5 refine np q1 ?_
    refine s_pn q1 ?_
    refine aops_nil ?_
    exact wq q1
  refine s_mv ?_
  obtain ⟨o2, j2, h⟩ := Md.bind_s h
  refine aops_cut 6 (ε := Bool) (fun x2 => (⟨40, [], [(2, .one (.cptr [.fn 26 []])), (3, .one (.ptr 0 0)), (4, .one (.ptr 1 0)), (5, vB false), (24, vB x2)], [(0, some (.box (c_CodeMethod a0))), (1, some (.box (c_CodeMethod a1)))]⟩ : ASt)) (fun x2 => x2 = o2) ?_ ?_
  · intro x2 hI2
    subst hI2
    change AOps _ _ _ (⟨40, [], [(2, .one (.cptr [.fn 26 []])), (3, .one (.ptr 0 0)), (4, .one (.ptr 1 0)), (5, vB false), (24, vB x2)], [(0, some (.box (c_CodeMethod a0))), (1, some (.box (c_CodeMethod a1)))]⟩ : ASt) _
    refine s_mv ?_
    obtain ⟨o3, j3, h⟩ := Md.bind_s h
    refine aops_cut 6 (ε := Bool) (fun x3 => (⟨40, [], [(2, .one (.cptr [.fn 26 []])), (3, .one (.ptr 0 0)), (4, .one (.ptr 1 0)), (5, vB false), (31, vB x3)], [(0, some (.box (c_CodeMethod a0))), (1, some (.box (c_CodeMethod a1)))]⟩ : ASt)) (fun x3 => x3 = o3) ?_ ?_
    · intro x3 hI3
      subst hI3
      change AOps _ _ _ (⟨40, [], [(2, .one (.cptr [.fn 26 []])), (3, .one (.ptr 0 0)), (4, .one (.ptr 1 0)), (5, vB false), (31, vB x3)], [(0, some (.box (c_CodeMethod a0))), (1, some (.box (c_CodeMethod a1)))]⟩ : ASt) _
      refine s_mv ?_
      obtain ⟨o4, j4, h⟩ := Md.bind_s h
      refine aops_cut 7 (ε := Bool) (fun x4 => (⟨40, [], [(5, vB false), (39, vB x4)], []⟩ : ASt)) (fun x4 => x4 = o4) ?_ ?_
      · intro x4 hI4
        subst hI4
        change AOps _ _ _ (⟨40, [], [(5, vB false), (39, vB x4)], []⟩ : ASt) _
        refine s_sa ?_
        refine aops_nil ?_
        cases Option.some.inj h
        exact aw_ret ⟨rfl, rv r1⟩
      rcases Md.bool_or (x3) with q4 | q4
      · replace j4 := Md.cond_t j4 q4
        refine y_fd q4 ?_
        refine y_ld q4 ?_
        refine y_fd q4 ?_
        refine y_ld q4 ?_
        refine aops_yes rfl rfl rfl rfl q4 (ev_load_in rfl rfl rfl) ?_
        obtain ⟨x5, hx5, j4⟩ := Md.bind_s j4
        refine aops_yes rfl rfl rfl rfl q4 (ev_call_v (zqbg k a0.Code a1.Code x5 hx5) rfl [] ai rfl rfl rfl (.inl rfl) rfl) (s_py q4 ?_)
        refine aops_nil ?_
        show ∃ _x : Bool, _ = _ ∧ Weak _ _
        exact ⟨x5, Option.some.inj j4, wk⟩
      replace j4 := Md.cond_f j4 q4
      iterate 6 refine np q4 ?_
      refine s_pn q4 ?_
      refine aops_nil ?_
      show ∃ _x : Bool, _ = _ ∧ Weak _ _
      exact ⟨false, Option.some.inj j4, wk⟩
    rcases Md.bool_or (x2) with q3 | q3
    · replace j3 := Md.cond_t j3 q3
      refine y_fd q3 ?_
      refine y_ld q3 ?_
      refine y_fd q3 ?_
      refine y_ld q3 ?_
      obtain ⟨x6, hx6, j3⟩ := Md.bind_s j3
      refine aops_yes rfl rfl rfl rfl q3 (ev_call_v (slices_Equal_fn k a0.Locals a1.Locals x6 hx6) rfl [] ai rfl rfl rfl (.inl rfl) rfl) (s_py q3 ?_)
      refine aops_nil ?_
      show ∃ _x : Bool, _ = _ ∧ Weak _ _
      exact ⟨x6, Option.some.inj j3, wk⟩
    replace j3 := Md.cond_f j3 q3
    iterate 5 refine np q3 ?_
    refine s_pn q3 ?_
    refine aops_nil ?_
    show ∃ _x : Bool, _ = _ ∧ Weak _ _
    exact ⟨false, Option.some.inj j3, wk⟩
  rcases Md.bool_or (((decide (a0.Name = a1.Name)) && (a0.Result == a1.Result))) with q2 | q2
  · replace j2 := Md.cond_t j2 q2
    refine y_fd q2 ?_
    refine y_ld q2 ?_
    refine y_fd q2 ?_
    refine y_ld q2 ?_
    obtain ⟨x7, hx7, j2⟩ := Md.bind_s j2
    refine aops_yes rfl rfl rfl rfl q2 (ev_call_v (slices_Equal_fn k a0.Params a1.Params x7 hx7) rfl [] ai rfl rfl rfl (.inl rfl) rfl) (s_py q2 ?_)
    refine aops_nil ?_
    show ∃ _x : Bool, _ = _ ∧ Weak _ _
    exact ⟨x7, Option.some.inj j2, wk⟩
  replace j2 := Md.cond_f j2 q2
  iterate 5 refine np q2 ?_
  refine s_pn q2 ?_
  refine aops_nil ?_
  show ∃ _x : Bool, _ = _ ∧ Weak _ _
  exact ⟨false, Option.some.inj j2, wk⟩
set_option maxHeartbeats 2000000 in
theorem zqbd (k : Nat) (a0 : List Field) (a1 : List Field) (r : Bool) (h : zqbc k a0 a1 = some r) : FnC Try.prog 32 [.one (CV.ls c_Field a0), .one (CV.ls c_Field a1), .one (.fn 24 [])] [] (Det (vB r) []) := by
  unfold zqbc at h
  refine fn_intro' 32 Try.func32 rfl rfl rfl (aw_seq (aw_region (s_sa ?_)))
  refine aops_nil (aw_seq (aw_seq (aw_region (s_mv ?_))))
  refine s_ln ?_
  refine s_mv ?_
  refine s_ln ?_
  refine s_cm ?_
  refine aops_nil ?_
  refine aw_cond rfl (fun c1 => ?_) (fun c1 => ?_)
  · replace h := Md.cond_t h c1
    refine aw_seq (aw_region (s_sa ?_))
    refine aops_nil ?_
    cases Option.some.inj h
    exact aw_ret ⟨rfl, rv r1⟩
  replace h := Md.cond_f h c1
  refine aw_skip (aw_seq (aw_seq (aw_region (s_mv ?_))))
  refine s_ln ?_
  refine s_mv ?_
  refine aops_nil (aw_block ?_)
  obtain ⟨o2, ho2, h⟩ := Md.bind_s h
  refine aw_loop_x (ι := {p : Nat × Nat // zqbe k a0 a1 p.1 p.2 = some o2}) (fun p => (⟨32, [], [(1, .one (CV.ls c_Field a1)), (2, .one (.fn 24 [])), (15, .one (CV.ls c_Field a0)), (16, vI ((a0.length : Nat) : Int)), (17, vI ((p.1.2 : Nat) : Int))], []⟩ : ASt)) (fun p => p.1.1) ⟨(k, 0), ho2⟩ wk 0 (ε := Unit) (fun x => (⟨32, [], [], []⟩ : ASt)) (fun x => Sum.inl x = o2) (fun _ _ w h => aw_weak w h) ?_ ?_
  · intro x2_0 hI2
    subst hI2
    replace h := Md.onS_l h
    change AW _ _ (⟨32, [], [], []⟩ : ASt) _
    refine aw_seq (aw_region (s_sa ?_))
    refine aops_nil ?_
    cases Option.some.inj h
    exact aw_ret ⟨rfl, rv r1⟩
  intro p2
  obtain ⟨⟨n2, s2_0⟩, l2⟩ := p2
  change AW _ _ (⟨32, [], [(1, .one (CV.ls c_Field a1)), (2, .one (.fn 24 [])), (15, .one (CV.ls c_Field a0)), (16, vI ((a0.length : Nat) : Int)), (17, vI ((s2_0 : Nat) : Int))], []⟩ : ASt) _
  replace l2 : zqbe k a0 a1 n2 s2_0 = some o2 := l2
  rcases n2 with _ | n2
  · exact absurd (show none = some o2 from l2) nofun
  rw [zqbe] at l2
  refine aw_seq (aw_region (s_cm ?_))
  refine aops_nil (aw_seq ?_)
  refine aw_cond rfl (fun c3 => ?_) (fun c3 => ?_)
  · replace l2 := Md.cond_t l2 c3
    refine aw_skip (aw_seq (aw_block (aw_seq (aw_region (s_mv ?_)))))
    obtain ⟨g4, l2⟩ := Md.ifp_s l2
    refine aops_step1 rfl (ev_index_in rfl rfl rfl g4 rfl rfl) (aops_step1 rfl (ev_loads_in (ds := [_, _, _, _, _, _, _]) rfl rfl rfl rfl) ?_)
    refine aops_step1 rfl (st_alloc (cs := [.val (Sv []), cI 0, cI 0, cI 0, .val (Sv []), .val (.slice none 0 0), .val (.slice none 0 0)]) 0 rfl rfl rfl rfl rfl) (s_sa ?_)
    refine s_st [_, _, _, _, _, _, _] ?_
    refine aops_nil (aw_seq (aw_region ?_))
    iterate 2 refine s_mv ?_
    obtain ⟨g5, l2⟩ := Md.ifp_s l2
    refine aops_step1 rfl (ev_index_in rfl rfl rfl g5 rfl rfl) (aops_step1 rfl (ev_loads_in (ds := [_, _, _, _, _, _, _]) rfl rfl rfl rfl) ?_)
    refine aops_step1 rfl (st_alloc (cs := [.val (Sv []), cI 0, cI 0, cI 0, .val (Sv []), .val (.slice none 0 0), .val (.slice none 0 0)]) 1 rfl rfl rfl rfl rfl) (s_st [_, _, _, _, _, _, _] ?_)
    refine aops_nil (aw_seq (aw_region (s_mv ?_)))
    iterate 2 refine s_ls [_, _, _, _, _, _, _] ?_
    obtain ⟨x6, hx6, l2⟩ := Md.bind_s l2
    refine aops_step1 rfl (ev_callee rfl (ev_call_v (bytecode_Same_1_fn k (a0.getD s2_0 default) (a1.getD s2_0 default) x6 hx6) rfl [] ai rfl rfl rfl (.inl rfl) rfl)) (s_nt ?_)
    refine aops_nil ?_
    refine aw_cond rfl (fun c7 => ?_) (fun c7 => ?_)
    · replace l2 := Md.cond_t l2 c7
      refine aw_seq (aw_region (s_sa ?_))
      refine aops_nil ?_
      cases Option.some.inj l2
      replace h := Md.onS_r h
      cases Option.some.inj h
      exact aw_ret ⟨rfl, rv r1⟩
    replace l2 := Md.cond_f l2 c7
    refine aw_skip (aw_region ?_)
    obtain ⟨g8, l2⟩ := Md.ifp_s l2
    refine aops_step1 rfl (ev_add rfl rfl rfl (Md.nat_add g8)) (s_mv ?_)
    refine aops_nil ?_
    exact ⟨⟨(n2, (s2_0 + 1)), l2⟩, Nat.lt_succ_self _, wk⟩
  replace l2 := Md.cond_f l2 c3
  refine aw_exit ?_
  show ∃ _x : Unit, _ = _ ∧ Weak _ _
  exact ⟨(), Option.some.inj l2, wk⟩
set_option maxHeartbeats 2000000 in
theorem zqax (k : Nat) (a0 : List CodeMethod) (a1 : List CodeMethod) (r : Bool) (h : zqaw k a0 a1 = some r) : FnC Try.prog 33 [.one (CV.ls c_CodeMethod a0), .one (CV.ls c_CodeMethod a1), .one (.fn 27 [.cptr [.fn 26 []]])] [] (Det (vB r) []) := by
  unfold zqaw at h
  refine fn_intro' 32 Try.func33 rfl rfl rfl (aw_seq (aw_region (s_sa ?_)))
  refine aops_nil (aw_seq (aw_seq (aw_region (s_mv ?_))))
  refine s_ln ?_
  refine s_mv ?_
  refine s_ln ?_
  refine s_cm ?_
  refine aops_nil ?_
  refine aw_cond rfl (fun c1 => ?_) (fun c1 => ?_)
  · replace h := Md.cond_t h c1
    refine aw_seq (aw_region (s_sa ?_))
    refine aops_nil ?_
    cases Option.some.inj h
    exact aw_ret ⟨rfl, rv r1⟩
  replace h := Md.cond_f h c1
  refine aw_skip (aw_seq (aw_seq (aw_region (s_mv ?_))))
  refine s_ln ?_
  refine s_mv ?_
  refine aops_nil (aw_block ?_)
  obtain ⟨o2, ho2, h⟩ := Md.bind_s h
  refine aw_loop_x (ι := {p : Nat × Nat // zqay k a0 a1 p.1 p.2 = some o2}) (fun p => (⟨32, [], [(1, .one (CV.ls c_CodeMethod a1)), (2, .one (.fn 27 [.cptr [.fn 26 []]])), (15, .one (CV.ls c_CodeMethod a0)), (16, vI ((a0.length : Nat) : Int)), (17, vI ((p.1.2 : Nat) : Int))], []⟩ : ASt)) (fun p => p.1.1) ⟨(k, 0), ho2⟩ wk 0 (ε := Unit) (fun x => (⟨32, [], [], []⟩ : ASt)) (fun x => Sum.inl x = o2) (fun _ _ w h => aw_weak w h) ?_ ?_
  · intro x2_0 hI2
    subst hI2
    replace h := Md.onS_l h
    change AW _ _ (⟨32, [], [], []⟩ : ASt) _
    refine aw_seq (aw_region (s_sa ?_))
    refine aops_nil ?_
    cases Option.some.inj h
    exact aw_ret ⟨rfl, rv r1⟩
  intro p2
  obtain ⟨⟨n2, s2_0⟩, l2⟩ := p2
  change AW _ _ (⟨32, [], [(1, .one (CV.ls c_CodeMethod a1)), (2, .one (.fn 27 [.cptr [.fn 26 []]])), (15, .one (CV.ls c_CodeMethod a0)), (16, vI ((a0.length : Nat) : Int)), (17, vI ((s2_0 : Nat) : Int))], []⟩ : ASt) _
  replace l2 : zqay k a0 a1 n2 s2_0 = some o2 := l2
  rcases n2 with _ | n2
  · exact absurd (show none = some o2 from l2) nofun
  rw [zqay] at l2
  refine aw_seq (aw_region (s_cm ?_))
  refine aops_nil (aw_seq ?_)
  refine aw_cond rfl (fun c3 => ?_) (fun c3 => ?_)
  · replace l2 := Md.cond_t l2 c3
    refine aw_skip (aw_seq (aw_block (aw_seq (aw_region (s_mv ?_)))))
    obtain ⟨g4, l2⟩ := Md.ifp_s l2
    refine aops_step1 rfl (ev_index_in rfl rfl rfl g4 rfl rfl) (aops_step1 rfl (ev_loads_in (ds := [_, _, _, _, _]) rfl rfl rfl rfl) ?_)
    refine aops_step1 rfl (st_alloc (cs := [.val (Sv []), .val (.slice none 0 0), cI 0, .val (.slice none 0 0), .val (.slice none 0 0)]) 0 rfl rfl rfl rfl rfl) (s_sa ?_)
    refine s_st [_, _, _, _, _] ?_
    refine aops_nil (aw_seq (aw_region ?_))
    iterate 2 refine s_mv ?_
    obtain ⟨g5, l2⟩ := Md.ifp_s l2
    refine aops_step1 rfl (ev_index_in rfl rfl rfl g5 rfl rfl) (aops_step1 rfl (ev_loads_in (ds := [_, _, _, _, _]) rfl rfl rfl rfl) ?_)
    refine aops_step1 rfl (st_alloc (cs := [.val (Sv []), .val (.slice none 0 0), cI 0, .val (.slice none 0 0), .val (.slice none 0 0)]) 1 rfl rfl rfl rfl rfl) (s_st [_, _, _, _, _] ?_)
    refine aops_nil (aw_seq (aw_region (s_mv ?_)))
    iterate 2 refine s_ls [_, _, _, _, _] ?_
    obtain ⟨x6, hx6, l2⟩ := Md.bind_s l2
    refine aops_step1 rfl (ev_call_cap_v (bytecode_Same_3_fn k (a0.getD s2_0 default) (a1.getD s2_0 default) x6 hx6) rfl rfl [] ai rfl rfl rfl (.inl rfl) rfl) (s_nt ?_)
    refine aops_nil ?_
    refine aw_cond rfl (fun c7 => ?_) (fun c7 => ?_)
    · replace l2 := Md.cond_t l2 c7
      refine aw_seq (aw_region (s_sa ?_))
      refine aops_nil ?_
      cases Option.some.inj l2
      replace h := Md.onS_r h
      cases Option.some.inj h
      exact aw_ret ⟨rfl, rv r1⟩
    replace l2 := Md.cond_f l2 c7
    refine aw_skip (aw_region ?_)
    obtain ⟨g8, l2⟩ := Md.ifp_s l2
    refine aops_step1 rfl (ev_add rfl rfl rfl (Md.nat_add g8)) (s_mv ?_)
    refine aops_nil ?_
    exact ⟨⟨(n2, (s2_0 + 1)), l2⟩, Nat.lt_succ_self _, wk⟩
  replace l2 := Md.cond_f l2 c3
  refine aw_exit ?_
  show ∃ _x : Unit, _ = _ ∧ Weak _ _
  exact ⟨(), Option.some.inj l2, wk⟩
set_option maxHeartbeats 2000000 in
theorem bytecode_Same_4_fn (k : Nat) (a0 : CodeType) (a1 : CodeType) (r : Bool) (h : bytecode_Same_4 k a0 a1 = some r) : FnC Try.prog 31 [.agg (c_CodeType a0), .agg (c_CodeType a1), .one (.cptr [.fn 24 []]), .one (.cptr [.fn 27 [.cptr [.fn 26 []]]])] [] (Det (vB r) []) := by
  unfold bytecode_Same_4 at h
  refine fn_intro' 28 Try.func31 rfl rfl rfl (aw_seq (aw_region (aops_step1 rfl (st_box 0 rfl rfl rfl rfl) (aops_step1 rfl (st_box 1 rfl rfl rfl rfl) (s_sa ?_)))))
  refine aops_nil (aw_seq (aw_region (s_fd ?_)))
  refine s_ld ?_
  refine s_fd ?_
  refine s_ld ?_
  refine aops_step1 rfl (st_str_eq rfl rfl rfl) (s_mv ?_)
  obtain ⟨o1, j1, h⟩ := Md.bind_s h
  refine aops_cut 7 (ε := Bool) (fun x1 => (⟨28, [], [(3, .one (.cptr [.fn 27 [.cptr [.fn 26 []]]])), (4, .one (.ptr 0 0)), (5, .one (.ptr 1 0)), (6, vB false), (19, vB x1)], [(0, some (.box (c_CodeType a0))), (1, some (.box (c_CodeType a1)))]⟩ : ASt)) (fun x1 => x1 = o1) ?_ ?_
  · intro x1 hI1
    subst hI1
    change AOps _ _ _ (⟨28, [], [(3, .one (.cptr [.fn 27 [.cptr [.fn 26 []]]])), (4, .one (.ptr 0 0)), (5, .one (.ptr 1 0)), (6, vB false), (19, vB x1)], [(0, some (.box (c_CodeType a0))), (1, some (.box (c_CodeType a1)))]⟩ : ASt) _
    refine s_mv ?_
    obtain ⟨o2, j2, h⟩ := Md.bind_s h
    refine aops_cut 7 (ε := Bool) (fun x2 => (⟨28, [], [(6, vB false), (27, vB x2)], []⟩ : ASt)) (fun x2 => x2 = o2) ?_ ?_
    · intro x2 hI2
      subst hI2
      change AOps _ _ _ (⟨28, [], [(6, vB false), (27, vB x2)], []⟩ : ASt) _
      refine s_sa ?_
      refine aops_nil ?_
      cases Option.some.inj h
      exact aw_ret ⟨rfl, rv r1⟩
    rcases Md.bool_or (x1) with q2 | q2
    · replace j2 := Md.cond_t j2 q2
      refine y_fd q2 ?_
      refine y_ld q2 ?_
      refine y_fd q2 ?_
      refine y_ld q2 ?_
      refine aops_yes rfl rfl rfl rfl q2 (ev_load_in rfl rfl rfl) ?_
      obtain ⟨x3, hx3, j2⟩ := Md.bind_s j2
      refine aops_yes rfl rfl rfl rfl q2 (ev_call_v (zqax k a0.Methods a1.Methods x3 hx3) rfl [] ai rfl rfl rfl (.inl rfl) rfl) (s_py q2 ?_)
      refine aops_nil ?_
      show ∃ _x : Bool, _ = _ ∧ Weak _ _
      exact ⟨x3, Option.some.inj j2, wk⟩
    replace j2 := Md.cond_f j2 q2
    iterate 6 refine np q2 ?_
    refine s_pn q2 ?_
    refine aops_nil ?_
    show ∃ _x : Bool, _ = _ ∧ Weak _ _
    exact ⟨false, Option.some.inj j2, wk⟩
  rcases Md.bool_or ((decide (a0.Name = a1.Name))) with q1 | q1
  · replace j1 := Md.cond_t j1 q1
    refine y_fd q1 ?_
    refine y_ld q1 ?_
    refine y_fd q1 ?_
    refine y_ld q1 ?_
    refine aops_yes rfl rfl rfl rfl q1 (ev_load_in rfl rfl rfl) ?_
    obtain ⟨x4, hx4, j1⟩ := Md.bind_s j1
    refine aops_yes rfl rfl rfl rfl q1 (ev_call_v (zqbd k a0.Fields a1.Fields x4 hx4) rfl [] ai rfl rfl rfl (.inl rfl) rfl) (s_py q1 ?_)
    refine aops_nil ?_
    show ∃ _x : Bool, _ = _ ∧ Weak _ _
    exact ⟨x4, Option.some.inj j1, wk⟩
  replace j1 := Md.cond_f j1 q1
  iterate 6 refine np q1 ?_
  refine s_pn q1 ?_
  refine aops_nil ?_
  show ∃ _x : Bool, _ = _ ∧ Weak _ _
  exact ⟨false, Option.some.inj j1, wk⟩
set_option maxHeartbeats 2000000 in
theorem zqba (k : Nat) (a0 : List CodeType) (a1 : List CodeType) (r : Bool) (h : zqaz k a0 a1 = some r) : FnC Try.prog 30 [.one (CV.ls c_CodeType a0), .one (CV.ls c_CodeType a1), .one (.fn 31 [.cptr [.fn 24 []], .cptr [.fn 27 [.cptr [.fn 26 []]]]])] [] (Det (vB r) []) := by
  unfold zqaz at h
  refine fn_intro' 32 Try.func30 rfl rfl rfl (aw_seq (aw_region (s_sa ?_)))
  refine aops_nil (aw_seq (aw_seq (aw_region (s_mv ?_))))
  refine s_ln ?_
  refine s_mv ?_
  refine s_ln ?_
  refine s_cm ?_
  refine aops_nil ?_
  refine aw_cond rfl (fun c1 => ?_) (fun c1 => ?_)
  · replace h := Md.cond_t h c1
    refine aw_seq (aw_region (s_sa ?_))
    refine aops_nil ?_
    cases Option.some.inj h
    exact aw_ret ⟨rfl, rv r1⟩
  replace h := Md.cond_f h c1
  refine aw_skip (aw_seq (aw_seq (aw_region (s_mv ?_))))
  refine s_ln ?_
  refine s_mv ?_
  refine aops_nil (aw_block ?_)
  obtain ⟨o2, ho2, h⟩ := Md.bind_s h
  refine aw_loop_x (ι := {p : Nat × Nat // zqbb k a0 a1 p.1 p.2 = some o2}) (fun p => (⟨32, [], [(1, .one (CV.ls c_CodeType a1)), (2, .one (.fn 31 [.cptr [.fn 24 []], .cptr [.fn 27 [.cptr [.fn 26 []]]]])), (15, .one (CV.ls c_CodeType a0)), (16, vI ((a0.length : Nat) : Int)), (17, vI ((p.1.2 : Nat) : Int))], []⟩ : ASt)) (fun p => p.1.1) ⟨(k, 0), ho2⟩ wk 0 (ε := Unit) (fun x => (⟨32, [], [], []⟩ : ASt)) (fun x => Sum.inl x = o2) (fun _ _ w h => aw_weak w h) ?_ ?_
  · intro x2_0 hI2
    subst hI2
    replace h := Md.onS_l h
    change AW _ _ (⟨32, [], [], []⟩ : ASt) _
    refine aw_seq (aw_region (s_sa ?_))
    refine aops_nil ?_
    cases Option.some.inj h
    exact aw_ret ⟨rfl, rv r1⟩
  intro p2
  obtain ⟨⟨n2, s2_0⟩, l2⟩ := p2
  change AW _ _ (⟨32, [], [(1, .one (CV.ls c_CodeType a1)), (2, .one (.fn 31 [.cptr [.fn 24 []], .cptr [.fn 27 [.cptr [.fn 26 []]]]])), (15, .one (CV.ls c_CodeType a0)), (16, vI ((a0.length : Nat) : Int)), (17, vI ((s2_0 : Nat) : Int))], []⟩ : ASt) _
  replace l2 : zqbb k a0 a1 n2 s2_0 = some o2 := l2
  rcases n2 with _ | n2
  · exact absurd (show none = some o2 from l2) nofun
  rw [zqbb] at l2
  refine aw_seq (aw_region (s_cm ?_))
  refine aops_nil (aw_seq ?_)
  refine aw_cond rfl (fun c3 => ?_) (fun c3 => ?_)
  · replace l2 := Md.cond_t l2 c3
    refine aw_skip (aw_seq (aw_block (aw_seq (aw_region (s_mv ?_)))))
    obtain ⟨g4, l2⟩ := Md.ifp_s l2
    refine aops_step1 rfl (ev_index_in rfl rfl rfl g4 rfl rfl) (aops_step1 rfl (ev_loads_in (ds := [_, _, _]) rfl rfl rfl rfl) ?_)
    refine aops_step1 rfl (st_alloc (cs := [.val (Sv []), .val (.slice none 0 0), .val (.slice none 0 0)]) 0 rfl rfl rfl rfl rfl) (s_sa ?_)
    refine s_st [_, _, _] ?_
    refine aops_nil (aw_seq (aw_region ?_))
    iterate 2 refine s_mv ?_
    obtain ⟨g5, l2⟩ := Md.ifp_s l2
    refine aops_step1 rfl (ev_index_in rfl rfl rfl g5 rfl rfl) (aops_step1 rfl (ev_loads_in (ds := [_, _, _]) rfl rfl rfl rfl) ?_)
    refine aops_step1 rfl (st_alloc (cs := [.val (Sv []), .val (.slice none 0 0), .val (.slice none 0 0)]) 1 rfl rfl rfl rfl rfl) (s_st [_, _, _] ?_)
    refine aops_nil (aw_seq (aw_region (s_mv ?_)))
    iterate 2 refine s_ls [_, _, _] ?_
    obtain ⟨x6, hx6, l2⟩ := Md.bind_s l2
    refine aops_step1 rfl (ev_call_cap_v (bytecode_Same_4_fn k (a0.getD s2_0 default) (a1.getD s2_0 default) x6 hx6) rfl rfl [] ai rfl rfl rfl (.inl rfl) rfl) (s_nt ?_)
    refine aops_nil ?_
    refine aw_cond rfl (fun c7 => ?_) (fun c7 => ?_)
    · replace l2 := Md.cond_t l2 c7
      refine aw_seq (aw_region (s_sa ?_))
      refine aops_nil ?_
      cases Option.some.inj l2
      replace h := Md.onS_r h
      cases Option.some.inj h
      exact aw_ret ⟨rfl, rv r1⟩
    replace l2 := Md.cond_f l2 c7
    refine aw_skip (aw_region ?_)
    obtain ⟨g8, l2⟩ := Md.ifp_s l2
    refine aops_step1 rfl (ev_add rfl rfl rfl (Md.nat_add g8)) (s_mv ?_)
    refine aops_nil ?_
    exact ⟨⟨(n2, (s2_0 + 1)), l2⟩, Nat.lt_succ_self _, wk⟩
  replace l2 := Md.cond_f l2 c3
  refine aw_exit ?_
  show ∃ _x : Unit, _ = _ ∧ Weak _ _
  exact ⟨(), Option.some.inj l2, wk⟩
set_option maxHeartbeats 2000000 in
theorem bytecode_Same_fn (k : Nat) (a0 : Code) (a1 : Code) (r : Bool) (h : bytecode_Same k a0 a1 = some r) : FnC Try.prog 11 [.agg [CV.ls c_CodeType a0.Types], .agg [CV.ls c_CodeType a1.Types]] [] (Det (vB r) []) := by
  unfold bytecode_Same at h
  refine fn_intro' 15 Try.func11 rfl rfl rfl (aw_seq (aw_region (aops_step1 rfl (st_box 0 rfl rfl rfl rfl) (aops_step1 rfl (st_box 1 rfl rfl rfl rfl) (s_sa ?_)))))
  refine aops_nil (aw_seq (aw_region (aops_step1 rfl (st_alloc (cs := [.val .nilFunc]) 2 rfl rfl rfl rfl rfl) (s_st [_] ?_))))
  refine aops_nil (aw_frbox 2 rfl (aw_seq (aw_region (aops_step1 rfl (st_alloc (cs := [.val .nilFunc]) 3 rfl rfl rfl rfl rfl) (s_st [_] ?_)))))
  refine aops_nil (aw_frbox 3 rfl (aw_seq (aw_region (aops_step1 rfl (ev_makeFunc [.cptr [.fn 26 []]] rfl rfl rfl) ?_))))
  refine aops_step1 rfl (st_alloc (cs := [.val .nilFunc]) 4 rfl rfl rfl rfl rfl) (s_st [_] ?_)
  refine aops_nil (aw_frbox 4 rfl (aw_seq (aw_region (s_fd ?_))))
  refine s_ld ?_
  refine s_fd ?_
  refine s_ld ?_
  refine aops_step1 rfl (ev_makeFunc [.cptr [.fn 24 []], .cptr [.fn 27 [.cptr [.fn 26 []]]]] rfl rfl rfl) ?_
  obtain ⟨x1, hx1, h⟩ := Md.bind_s h
  refine aops_step1 rfl (ev_call_v (zqba k a0.Types a1.Types x1 hx1) rfl [] ai rfl rfl rfl (.inl rfl) rfl) (s_sa ?_)
  refine aops_nil ?_
  cases Option.some.inj h
  exact aw_ret ⟨rfl, rv r1⟩
end Md
end Go.Proofs.Ytclffekkjfhpdaa
