import Derived.Test.YtclffekkjfhpdaaQMo
import Derived.Test.YtclffekkjfhpdaaQTy
import Derived.Test.YtclffekkjfhpdaaQAbsS
import Derived.Test.YtclffekkjfhpdaaQCodeB
namespace Go.Proofs.Ytclffekkjfhpdaa
open Go.ChangeShapes Go.WideShapes Go.RowKit
open Abs
set_option linter.unusedVariables false
set_option linter.unusedSimpArgs false
set_option maxRecDepth 10000
namespace Md
set_option maxHeartbeats 2000000 in
theorem actorgridlaw20_small_fn (k : Nat) (a0 : Value) (r : Bool) (h : actorgridlaw20_small k a0 = some r) : FnC Try.prog 15 [.agg (c_Value a0)] [] (Det (vB r) []) := by
  unfold actorgridlaw20_small at h
  refine fn_intro' 34 Try.func15 rfl rfl rfl (aw_seq (aw_region (aops_step1 rfl (st_box 0 rfl rfl rfl rfl) (s_sa ?_))))
  refine aops_nil (aw_seq (aw_seq (aw_region (s_sa ?_))))
  refine aops_nil (aw_block ?_)
  obtain ⟨o1, ho1, h⟩ := Md.bind_s h
  refine aw_loop_x (ι := {p : Nat × Nat // actorgridlaw20_small_loop1 k a0 p.1 p.2 = some o1}) (fun p => (⟨34, [], [(1, .one (.ptr 0 0)), (3, vI ((p.1.2 : Nat) : Int))], [(0, some (.box (c_Value a0)))]⟩ : ASt)) (fun p => p.1.1) ⟨(k, 0), ho1⟩ wk 0 (ε := Unit) (fun x => (⟨34, [], [(1, .one (.ptr 0 0))], [(0, some (.box (c_Value a0)))]⟩ : ASt)) (fun x => Sum.inl x = o1) (fun _ _ w h => aw_weak w h) ?_ ?_
  · intro x1_0 hI1
    subst hI1
    replace h := Md.onS_l h
    change AW _ _ (⟨34, [], [(1, .one (.ptr 0 0))], [(0, some (.box (c_Value a0)))]⟩ : ASt) _
    refine aw_seq (aw_region (s_fd ?_))
    refine s_ld ?_
    refine aops_step1 rfl (st_len_str rfl rfl) (s_cm ?_)
    refine s_mv ?_
    refine aops_mid 5 (⟨34, [], [(1, .one (.ptr 0 0)), (27, vB ((decide (((a0.S.length : Nat) : Int) ≤ 100)) && (decide (((a0.I.length : Nat) : Int) ≤ 40))))], [(0, some (.box (c_Value a0)))]⟩ : ASt) ?_ ?_
    · rcases Md.bool_or ((decide (((a0.S.length : Nat) : Int) ≤ 100))) with q2 | q2
      · skip
        refine y_fd q2 ?_
        refine y_ld q2 ?_
        refine y_ln q2 ?_
        refine y_cm q2 ?_
        refine s_py q2 ?_
        refine aops_nil ?_
        exact wq q2
      iterate 4 refine np q2 ?_
      refine s_pn q2 ?_
      refine aops_nil ?_
      exact wq q2
    refine s_mv ?_
    refine aops_mid 5 (⟨34, [], [(33, vB (((decide (((a0.S.length : Nat) : Int) ≤ 100)) && (decide (((a0.I.length : Nat) : Int) ≤ 40))) && (decide (((a0.L.length : Nat) : Int) ≤ 40))))], []⟩ : ASt) ?_ ?_
    · rcases Md.bool_or (((decide (((a0.S.length : Nat) : Int) ≤ 100)) && (decide (((a0.I.length : Nat) : Int) ≤ 40)))) with q3 | q3
      · skip
        refine y_fd q3 ?_
        refine y_ld q3 ?_
        refine y_ln q3 ?_
        refine y_cm q3 ?_
        refine s_py q3 ?_
        refine aops_nil ?_
        exact wq q3
      iterate 4 refine np q3 ?_
      refine s_pn q3 ?_
      refine aops_nil ?_
      exact wq q3
    refine s_sa ?_
    refine aops_nil ?_
    cases Option.some.inj h
    exact aw_ret ⟨rfl, rv r1⟩
  intro p1
  obtain ⟨⟨n1, s1_0⟩, l1⟩ := p1
  change AW _ _ (⟨34, [], [(1, .one (.ptr 0 0)), (3, vI ((s1_0 : Nat) : Int))], [(0, some (.box (c_Value a0)))]⟩ : ASt) _
  replace l1 : actorgridlaw20_small_loop1 k a0 n1 s1_0 = some o1 := l1
  rcases n1 with _ | n1
  · exact absurd (show none = some o1 from l1) nofun
  rw [actorgridlaw20_small_loop1] at l1
  refine aw_seq (aw_seq (aw_region (s_mv ?_)))
  refine s_fd ?_
  refine s_ld ?_
  refine s_ln ?_
  refine s_cm ?_
  refine aops_nil ?_
  refine aw_cond rfl (fun c4 => ?_) (fun c4 => ?_)
  · replace l1 := Md.cond_t l1 c4
    refine aw_skip (aw_seq (aw_block (aw_seq (aw_region (s_fd ?_)))))
    refine s_ld ?_
    refine s_mv ?_
    obtain ⟨g5, l1⟩ := Md.ifp_s l1
    refine aops_step1 rfl (ev_index_in rfl rfl rfl g5 rfl rfl) (aops_step1 rfl (ev_load_in rfl rfl rfl) (aops_step1 rfl (st_len_str rfl rfl) (s_cm ?_)))
    refine aops_nil ?_
    refine aw_cond rfl (fun c6 => ?_) (fun c6 => ?_)
    · replace l1 := Md.cond_t l1 c6
      refine aw_seq (aw_region (s_sa ?_))
      refine aops_nil ?_
      cases Option.some.inj l1
      replace h := Md.onS_r h
      cases Option.some.inj h
      exact aw_ret ⟨rfl, rv r1⟩
    replace l1 := Md.cond_f l1 c6
    refine aw_skip (aw_region (s_mv ?_))
    obtain ⟨g7, l1⟩ := Md.ifp_s l1
    refine aops_step1 rfl (ev_add rfl rfl rfl (Md.nat_add g7)) (s_sa ?_)
    refine aops_nil ?_
    exact ⟨⟨(n1, (s1_0 + 1)), l1⟩, Nat.lt_succ_self _, wk⟩
  replace l1 := Md.cond_f l1 c4
  refine aw_exit ?_
  show ∃ _x : Unit, _ = _ ∧ Weak _ _
  exact ⟨(), Option.some.inj l1, wk⟩
set_option maxHeartbeats 2000000 in
theorem actorgridlaw20_Small_fn (k : Nat) (a0 : Code) (r : Bool) (h : actorgridlaw20_Small k a0 = some r) : FnC Try.prog 7 [.agg [CV.ls c_CodeType a0.Types]] [] (Det (vB r) []) := by
  unfold actorgridlaw20_Small at h
  refine fn_intro' 115 Try.func7 rfl rfl rfl (aw_seq (aw_region (aops_step1 rfl (st_box 0 rfl rfl rfl rfl) (s_sa ?_))))
  refine aops_nil (aw_seq (aw_seq (aw_region (s_fd ?_))))
  refine s_ld ?_
  refine s_ln ?_
  refine s_cm ?_
  refine aops_nil ?_
  refine aw_cond rfl (fun c1 => ?_) (fun c1 => ?_)
  · replace h := Md.cond_t h c1
    refine aw_seq (aw_region (s_sa ?_))
    refine aops_nil ?_
    cases Option.some.inj h
    exact aw_ret ⟨rfl, rv r1⟩
  replace h := Md.cond_f h c1
  refine aw_skip (aw_seq (aw_seq (aw_region (s_sa ?_))))
  refine aops_nil (aw_block ?_)
  obtain ⟨o2, ho2, h⟩ := Md.bind_s h
  refine aw_loop_x (ι := {p : Nat × Nat // actorgridlaw20_Small_loop1 k a0 p.1 p.2 = some o2}) (fun p => (⟨115, [], [(1, .one (.ptr 0 0)), (3, vI ((p.1.2 : Nat) : Int))], [(0, some (.box [CV.ls c_CodeType a0.Types]))]⟩ : ASt)) (fun p => p.1.1) ⟨(k, 0), ho2⟩ wk 0 (ε := Unit) (fun x => (⟨115, [], [], []⟩ : ASt)) (fun x => Sum.inl x = o2) (fun _ _ w h => aw_weak w h) ?_ ?_
  · intro x2_0 hI2
    subst hI2
    replace h := Md.onS_l h
    change AW _ _ (⟨115, [], [], []⟩ : ASt) _
    refine aw_seq (aw_region (s_sa ?_))
    refine aops_nil ?_
    cases Option.some.inj h
    exact aw_ret ⟨rfl, rv r1⟩
  intro p2
  obtain ⟨⟨n2, s2_0⟩, l2⟩ := p2
  change AW _ _ (⟨115, [], [(1, .one (.ptr 0 0)), (3, vI ((s2_0 : Nat) : Int))], [(0, some (.box [CV.ls c_CodeType a0.Types]))]⟩ : ASt) _
  replace l2 : actorgridlaw20_Small_loop1 k a0 n2 s2_0 = some o2 := l2
  rcases n2 with _ | n2
  · exact absurd (show none = some o2 from l2) nofun
  rw [actorgridlaw20_Small_loop1] at l2
  refine aw_seq (aw_seq (aw_region (s_mv ?_)))
  refine s_fd ?_
  refine s_ld ?_
  refine s_ln ?_
  refine s_cm ?_
  refine aops_nil ?_
  refine aw_cond rfl (fun c3 => ?_) (fun c3 => ?_)
  · replace l2 := Md.cond_t l2 c3
    refine aw_skip ?_
    obtain ⟨o4, j4, l2⟩ := Md.bind_s l2
    refine aw_cut (ε := Unit) (fun x => (⟨115, [], [(1, .one (.ptr 0 0)), (3, vI ((s2_0 : Nat) : Int))], [(0, some (.box [CV.ls c_CodeType a0.Types]))]⟩ : ASt)) (fun x => Sum.inl x = o4) ?_ ?_
    · intro x4_0 hI4
      subst hI4
      replace l2 := Md.onS_l l2
      change AW _ _ (⟨115, [], [(1, .one (.ptr 0 0)), (3, vI ((s2_0 : Nat) : Int))], [(0, some (.box [CV.ls c_CodeType a0.Types]))]⟩ : ASt) _
      refine aw_region (s_mv ?_)
      obtain ⟨g5, l2⟩ := Md.ifp_s l2
      refine aops_step1 rfl (ev_add rfl rfl rfl (Md.nat_add g5)) (s_sa ?_)
      refine aops_nil ?_
      exact ⟨⟨(n2, (s2_0 + 1)), l2⟩, Nat.lt_succ_self _, wk⟩
    refine aw_block (aw_seq (aw_region (s_fd ?_)))
    refine s_ld ?_
    refine s_mv ?_
    obtain ⟨g6, j4⟩ := Md.ifp_s j4
    refine aops_step1 rfl (ev_index_in rfl rfl rfl g6 rfl rfl) (aops_step1 rfl (ev_loads_in (ds := [_, _, _]) rfl rfl rfl rfl) ?_)
    refine aops_step1 rfl (st_alloc (cs := [.val (Sv []), .val (.slice none 0 0), .val (.slice none 0 0)]) 1 rfl rfl rfl rfl rfl) (s_st [_, _, _] ?_)
    refine aops_nil (aw_seq (aw_seq (aw_region (s_fd ?_))))
    refine s_ld ?_
    refine aops_step1 rfl (st_len_str rfl rfl) (s_cm ?_)
    refine s_mv ?_
    refine aops_mid 5 (⟨115, [], [(1, .one (.ptr 0 0)), (3, vI ((s2_0 : Nat) : Int)), (4, .one (.ptr 1 0)), (34, vB ((decide (((((a0.Types.getD s2_0 default).Name).length : Nat) : Int) > 100)) || (decide (((((a0.Types.getD s2_0 default).Fields).length : Nat) : Int) > 20))))], [(0, some (.box [CV.ls c_CodeType a0.Types])), (1, some (.box (c_CodeType (a0.Types.getD s2_0 default))))]⟩ : ASt) ?_ ?_
    · rcases Md.bool_or ((decide (((((a0.Types.getD s2_0 default).Name).length : Nat) : Int) > 100))) with q7 | q7
      · skip
        iterate 4 refine np q7 ?_
        refine s_py q7 ?_
        refine aops_nil ?_
        exact wq q7
      refine y_fd q7 ?_
      refine y_ld q7 ?_
      refine y_ln q7 ?_
      refine y_cm q7 ?_
      refine s_pn q7 ?_
      refine aops_nil ?_
      exact wq q7
    refine s_mv ?_
    refine aops_mid 5 (⟨115, [], [(1, .one (.ptr 0 0)), (3, vI ((s2_0 : Nat) : Int)), (4, .one (.ptr 1 0)), (40, vB (((decide (((((a0.Types.getD s2_0 default).Name).length : Nat) : Int) > 100)) || (decide (((((a0.Types.getD s2_0 default).Fields).length : Nat) : Int) > 20))) || (decide (((((a0.Types.getD s2_0 default).Methods).length : Nat) : Int) > 20))))], [(0, some (.box [CV.ls c_CodeType a0.Types])), (1, some (.box (c_CodeType (a0.Types.getD s2_0 default))))]⟩ : ASt) ?_ ?_
    · rcases Md.bool_or (((decide (((((a0.Types.getD s2_0 default).Name).length : Nat) : Int) > 100)) || (decide (((((a0.Types.getD s2_0 default).Fields).length : Nat) : Int) > 20)))) with q8 | q8
      · skip
        iterate 4 refine np q8 ?_
        refine s_py q8 ?_
        refine aops_nil ?_
        exact wq q8
      refine y_fd q8 ?_
      refine y_ld q8 ?_
      refine y_ln q8 ?_
      refine y_cm q8 ?_
      refine s_pn q8 ?_
      refine aops_nil ?_
      exact wq q8
    refine aops_nil ?_
    refine aw_cond rfl (fun c9 => ?_) (fun c9 => ?_)
    · replace j4 := Md.cond_t j4 c9
      refine aw_seq (aw_region (s_sa ?_))
      refine aops_nil ?_
      cases Option.some.inj j4
      replace l2 := Md.onS_r l2
      cases Option.some.inj l2
      replace h := Md.onS_r h
      cases Option.some.inj h
      exact aw_ret ⟨rfl, rv r1⟩
    replace j4 := Md.cond_f j4 c9
    refine aw_skip (aw_seq (aw_seq (aw_region (s_sa ?_))))
    refine aops_nil (aw_block ?_)
    obtain ⟨o10, ho10, j4⟩ := Md.bind_s j4
    refine aw_loop_x (ι := {p : Nat × Nat // actorgridlaw20_Small_loop2 k a0 s2_0 p.1 p.2 = some o10}) (fun p => (⟨115, [], [(1, .one (.ptr 0 0)), (3, vI ((s2_0 : Nat) : Int)), (4, .one (.ptr 1 0)), (5, vI ((p.1.2 : Nat) : Int))], [(0, some (.box [CV.ls c_CodeType a0.Types])), (1, some (.box (c_CodeType (a0.Types.getD s2_0 default))))]⟩ : ASt)) (fun p => p.1.1) ⟨(k, 0), ho10⟩ wk 2 (ε := Unit) (fun x => (⟨115, [], [(1, .one (.ptr 0 0)), (3, vI ((s2_0 : Nat) : Int)), (4, .one (.ptr 1 0))], [(0, some (.box [CV.ls c_CodeType a0.Types])), (1, some (.box (c_CodeType (a0.Types.getD s2_0 default))))]⟩ : ASt)) (fun x => Sum.inl x = o10) (fun _ _ w h => aw_weak w h) ?_ ?_
    · intro x10_0 hI10
      subst hI10
      replace j4 := Md.onS_l j4
      change AW _ _ (⟨115, [], [(1, .one (.ptr 0 0)), (3, vI ((s2_0 : Nat) : Int)), (4, .one (.ptr 1 0))], [(0, some (.box [CV.ls c_CodeType a0.Types])), (1, some (.box (c_CodeType (a0.Types.getD s2_0 default))))]⟩ : ASt) _
      refine aw_seq (aw_region (s_sa ?_))
      refine aops_nil (aw_block ?_)
      obtain ⟨o11, ho11, j4⟩ := Md.bind_s j4
      refine aw_loop (ι := {p : Nat × Nat // actorgridlaw20_Small_loop3 k a0 s2_0 p.1 p.2 = some o11}) (fun p => (⟨115, [], [(1, .one (.ptr 0 0)), (3, vI ((s2_0 : Nat) : Int)), (4, .one (.ptr 1 0)), (6, vI ((p.1.2 : Nat) : Int))], [(0, some (.box [CV.ls c_CodeType a0.Types])), (1, some (.box (c_CodeType (a0.Types.getD s2_0 default))))]⟩ : ASt)) (fun p => p.1.1) ⟨(k, 0), ho11⟩ wk ?_
      intro p11
      obtain ⟨⟨n11, s11_0⟩, l11⟩ := p11
      change AW _ _ (⟨115, [], [(1, .one (.ptr 0 0)), (3, vI ((s2_0 : Nat) : Int)), (4, .one (.ptr 1 0)), (6, vI ((s11_0 : Nat) : Int))], [(0, some (.box [CV.ls c_CodeType a0.Types])), (1, some (.box (c_CodeType (a0.Types.getD s2_0 default))))]⟩ : ASt) _
      replace l11 : actorgridlaw20_Small_loop3 k a0 s2_0 n11 s11_0 = some o11 := l11
      rcases n11 with _ | n11
      · exact absurd (show none = some o11 from l11) nofun
      rw [actorgridlaw20_Small_loop3] at l11
      refine aw_seq (aw_seq (aw_region (s_mv ?_)))
      refine s_fd ?_
      refine s_ld ?_
      refine s_ln ?_
      refine s_cm ?_
      refine aops_nil ?_
      refine aw_cond rfl (fun c12 => ?_) (fun c12 => ?_)
      · replace l11 := Md.cond_t l11 c12
        refine aw_skip ?_
        obtain ⟨o13, j13, l11⟩ := Md.bind_s l11
        refine aw_cut (ε := Unit) (fun x => (⟨115, [], [(1, .one (.ptr 0 0)), (3, vI ((s2_0 : Nat) : Int)), (4, .one (.ptr 1 0)), (6, vI ((s11_0 : Nat) : Int))], [(0, some (.box [CV.ls c_CodeType a0.Types])), (1, some (.box (c_CodeType (a0.Types.getD s2_0 default))))]⟩ : ASt)) (fun x => Sum.inl x = o13) ?_ ?_
        · intro x13_0 hI13
          subst hI13
          replace l11 := Md.onS_l l11
          change AW _ _ (⟨115, [], [(1, .one (.ptr 0 0)), (3, vI ((s2_0 : Nat) : Int)), (4, .one (.ptr 1 0)), (6, vI ((s11_0 : Nat) : Int))], [(0, some (.box [CV.ls c_CodeType a0.Types])), (1, some (.box (c_CodeType (a0.Types.getD s2_0 default))))]⟩ : ASt) _
          refine aw_region (s_mv ?_)
          obtain ⟨g14, l11⟩ := Md.ifp_s l11
          refine aops_step1 rfl (ev_add rfl rfl rfl (Md.nat_add g14)) (s_sa ?_)
          refine aops_nil ?_
          exact ⟨⟨(n11, (s11_0 + 1)), l11⟩, Nat.lt_succ_self _, wk⟩
        refine aw_block (aw_seq (aw_region (s_fd ?_)))
        refine s_ld ?_
        refine s_mv ?_
        obtain ⟨g15, j13⟩ := Md.ifp_s j13
        refine aops_step1 rfl (ev_index_in rfl rfl rfl g15 rfl rfl) (aops_step1 rfl (ev_loads_in (ds := [_, _, _, _, _]) rfl rfl rfl rfl) ?_)
        refine aops_step1 rfl (st_alloc (cs := [.val (Sv []), .val (.slice none 0 0), cI 0, .val (.slice none 0 0), .val (.slice none 0 0)]) 2 rfl rfl rfl rfl rfl) (s_st [_, _, _, _, _] ?_)
        refine aops_nil (aw_seq (aw_seq (aw_region (s_fd ?_))))
        refine s_ld ?_
        refine aops_step1 rfl (st_len_str rfl rfl) (s_cm ?_)
        refine s_mv ?_
        refine aops_mid 5 (⟨115, [], [(1, .one (.ptr 0 0)), (3, vI ((s2_0 : Nat) : Int)), (4, .one (.ptr 1 0)), (6, vI ((s11_0 : Nat) : Int)), (7, .one (.ptr 2 0)), (87, vB ((decide (((((((a0.Types.getD s2_0 default).Methods).getD s11_0 default).Name).length : Nat) : Int) > 100)) || (decide (((((((a0.Types.getD s2_0 default).Methods).getD s11_0 default).Params).length : Nat) : Int) > 20))))], [(0, some (.box [CV.ls c_CodeType a0.Types])), (1, some (.box (c_CodeType (a0.Types.getD s2_0 default)))), (2, some (.box (c_CodeMethod (((a0.Types.getD s2_0 default).Methods).getD s11_0 default))))]⟩ : ASt) ?_ ?_
        · rcases Md.bool_or ((decide (((((((a0.Types.getD s2_0 default).Methods).getD s11_0 default).Name).length : Nat) : Int) > 100))) with q16 | q16
          · skip
            iterate 4 refine np q16 ?_
            refine s_py q16 ?_
            refine aops_nil ?_
            exact wq q16
          refine y_fd q16 ?_
          refine y_ld q16 ?_
          refine y_ln q16 ?_
          refine y_cm q16 ?_
          refine s_pn q16 ?_
          refine aops_nil ?_
          exact wq q16
        refine s_mv ?_
        refine aops_mid 5 (⟨115, [], [(1, .one (.ptr 0 0)), (3, vI ((s2_0 : Nat) : Int)), (4, .one (.ptr 1 0)), (6, vI ((s11_0 : Nat) : Int)), (7, .one (.ptr 2 0)), (93, vB (((decide (((((((a0.Types.getD s2_0 default).Methods).getD s11_0 default).Name).length : Nat) : Int) > 100)) || (decide (((((((a0.Types.getD s2_0 default).Methods).getD s11_0 default).Params).length : Nat) : Int) > 20))) || (decide (((((((a0.Types.getD s2_0 default).Methods).getD s11_0 default).Locals).length : Nat) : Int) > 40))))], [(0, some (.box [CV.ls c_CodeType a0.Types])), (1, some (.box (c_CodeType (a0.Types.getD s2_0 default)))), (2, some (.box (c_CodeMethod (((a0.Types.getD s2_0 default).Methods).getD s11_0 default))))]⟩ : ASt) ?_ ?_
        · rcases Md.bool_or (((decide (((((((a0.Types.getD s2_0 default).Methods).getD s11_0 default).Name).length : Nat) : Int) > 100)) || (decide (((((((a0.Types.getD s2_0 default).Methods).getD s11_0 default).Params).length : Nat) : Int) > 20)))) with q17 | q17
          · skip
            iterate 4 refine np q17 ?_
            refine s_py q17 ?_
            refine aops_nil ?_
            exact wq q17
          refine y_fd q17 ?_
          refine y_ld q17 ?_
          refine y_ln q17 ?_
          refine y_cm q17 ?_
          refine s_pn q17 ?_
          refine aops_nil ?_
          exact wq q17
        refine s_mv ?_
        refine aops_mid 5 (⟨115, [], [(1, .one (.ptr 0 0)), (3, vI ((s2_0 : Nat) : Int)), (4, .one (.ptr 1 0)), (6, vI ((s11_0 : Nat) : Int)), (7, .one (.ptr 2 0)), (99, vB ((((decide (((((((a0.Types.getD s2_0 default).Methods).getD s11_0 default).Name).length : Nat) : Int) > 100)) || (decide (((((((a0.Types.getD s2_0 default).Methods).getD s11_0 default).Params).length : Nat) : Int) > 20))) || (decide (((((((a0.Types.getD s2_0 default).Methods).getD s11_0 default).Locals).length : Nat) : Int) > 40))) || (decide (((((((a0.Types.getD s2_0 default).Methods).getD s11_0 default).Code).length : Nat) : Int) > 120))))], [(0, some (.box [CV.ls c_CodeType a0.Types])), (1, some (.box (c_CodeType (a0.Types.getD s2_0 default)))), (2, some (.box (c_CodeMethod (((a0.Types.getD s2_0 default).Methods).getD s11_0 default))))]⟩ : ASt) ?_ ?_
        · rcases Md.bool_or ((((decide (((((((a0.Types.getD s2_0 default).Methods).getD s11_0 default).Name).length : Nat) : Int) > 100)) || (decide (((((((a0.Types.getD s2_0 default).Methods).getD s11_0 default).Params).length : Nat) : Int) > 20))) || (decide (((((((a0.Types.getD s2_0 default).Methods).getD s11_0 default).Locals).length : Nat) : Int) > 40)))) with q18 | q18
          · skip
            iterate 4 refine np q18 ?_
            refine s_py q18 ?_
            refine aops_nil ?_
            exact wq q18
          refine y_fd q18 ?_
          refine y_ld q18 ?_
          refine y_ln q18 ?_
          refine y_cm q18 ?_
          refine s_pn q18 ?_
          refine aops_nil ?_
          exact wq q18
        refine aops_nil ?_
        refine aw_cond rfl (fun c19 => ?_) (fun c19 => ?_)
        · replace j13 := Md.cond_t j13 c19
          refine aw_seq (aw_region (s_sa ?_))
          refine aops_nil ?_
          cases Option.some.inj j13
          replace l11 := Md.onS_r l11
          cases Option.some.inj l11
          replace j4 := Md.onS_r j4
          cases Option.some.inj j4
          replace l2 := Md.onS_r l2
          cases Option.some.inj l2
          replace h := Md.onS_r h
          cases Option.some.inj h
          exact aw_ret ⟨rfl, rv r1⟩
        replace j13 := Md.cond_f j13 c19
        refine aw_skip (aw_seq (aw_region (s_sa ?_)))
        refine aops_nil (aw_block ?_)
        obtain ⟨o20, ho20, j13⟩ := Md.bind_s j13
        refine aw_loop (ι := {p : Nat × Nat // actorgridlaw20_Small_loop4 k a0 s2_0 s11_0 p.1 p.2 = some o20}) (fun p => (⟨115, [], [(1, .one (.ptr 0 0)), (3, vI ((s2_0 : Nat) : Int)), (4, .one (.ptr 1 0)), (6, vI ((s11_0 : Nat) : Int)), (7, .one (.ptr 2 0)), (8, vI ((p.1.2 : Nat) : Int))], [(0, some (.box [CV.ls c_CodeType a0.Types])), (1, some (.box (c_CodeType (a0.Types.getD s2_0 default)))), (2, some (.box (c_CodeMethod (((a0.Types.getD s2_0 default).Methods).getD s11_0 default))))]⟩ : ASt)) (fun p => p.1.1) ⟨(k, 0), ho20⟩ wk ?_
        intro p20
        obtain ⟨⟨n20, s20_0⟩, l20⟩ := p20
        change AW _ _ (⟨115, [], [(1, .one (.ptr 0 0)), (3, vI ((s2_0 : Nat) : Int)), (4, .one (.ptr 1 0)), (6, vI ((s11_0 : Nat) : Int)), (7, .one (.ptr 2 0)), (8, vI ((s20_0 : Nat) : Int))], [(0, some (.box [CV.ls c_CodeType a0.Types])), (1, some (.box (c_CodeType (a0.Types.getD s2_0 default)))), (2, some (.box (c_CodeMethod (((a0.Types.getD s2_0 default).Methods).getD s11_0 default))))]⟩ : ASt) _
        replace l20 : actorgridlaw20_Small_loop4 k a0 s2_0 s11_0 n20 s20_0 = some o20 := l20
        rcases n20 with _ | n20
        · exact absurd (show none = some o20 from l20) nofun
        rw [actorgridlaw20_Small_loop4] at l20
        refine aw_seq (aw_seq (aw_region (s_mv ?_)))
        refine s_fd ?_
        refine s_ld ?_
        refine s_ln ?_
        refine s_cm ?_
        refine aops_nil ?_
        refine aw_cond rfl (fun c21 => ?_) (fun c21 => ?_)
        · replace l20 := Md.cond_t l20 c21
          refine aw_skip (aw_seq (aw_block (aw_seq (aw_region (s_fd ?_)))))
          refine s_ld ?_
          refine s_mv ?_
          obtain ⟨g22, l20⟩ := Md.ifp_s l20
          refine aops_step1 rfl (ev_index_in rfl rfl rfl g22 rfl rfl) (aops_step1 rfl (ev_field_in rfl rfl rfl) ?_)
          refine aops_step1 rfl (ev_loads_in (ds := [_, _, _, _, _]) rfl rfl rfl rfl) ?_
          obtain ⟨x23, hx23, l20⟩ := Md.bind_s l20
          refine aops_step1 rfl (ev_call_v (actorgridlaw20_small_fn k ((((((a0.Types.getD s2_0 default).Methods).getD s11_0 default).Code).getD s20_0 default).Value) x23 hx23) rfl [] ai rfl rfl rfl (.inl rfl) rfl) (s_nt ?_)
          refine aops_nil ?_
          refine aw_cond rfl (fun c24 => ?_) (fun c24 => ?_)
          · replace l20 := Md.cond_t l20 c24
            refine aw_seq (aw_region (s_sa ?_))
            refine aops_nil ?_
            cases Option.some.inj l20
            replace j13 := Md.onS_r j13
            cases Option.some.inj j13
            replace l11 := Md.onS_r l11
            cases Option.some.inj l11
            replace j4 := Md.onS_r j4
            cases Option.some.inj j4
            replace l2 := Md.onS_r l2
            cases Option.some.inj l2
            replace h := Md.onS_r h
            cases Option.some.inj h
            exact aw_ret ⟨rfl, rv r1⟩
          replace l20 := Md.cond_f l20 c24
          refine aw_skip (aw_region (s_mv ?_))
          obtain ⟨g25, l20⟩ := Md.ifp_s l20
          refine aops_step1 rfl (ev_add rfl rfl rfl (Md.nat_add g25)) (s_sa ?_)
          refine aops_nil ?_
          exact ⟨⟨(n20, (s20_0 + 1)), l20⟩, Nat.lt_succ_self _, wk⟩
        replace l20 := Md.cond_f l20 c21
        refine aw_exit ?_
        have e20 := Option.some.inj l20
        subst e20
        replace j13 := Md.onS_l j13
        show ∃ _x : Unit, _ = _ ∧ Weak _ _
        exact ⟨(), Option.some.inj j13, wk⟩
      replace l11 := Md.cond_f l11 c12
      refine aw_exit ?_
      have e11 := Option.some.inj l11
      subst e11
      replace j4 := Md.onS_l j4
      show ∃ _x : Unit, _ = _ ∧ Weak _ _
      exact ⟨(), Option.some.inj j4, wk⟩
    intro p10
    obtain ⟨⟨n10, s10_0⟩, l10⟩ := p10
    change AW _ _ (⟨115, [], [(1, .one (.ptr 0 0)), (3, vI ((s2_0 : Nat) : Int)), (4, .one (.ptr 1 0)), (5, vI ((s10_0 : Nat) : Int))], [(0, some (.box [CV.ls c_CodeType a0.Types])), (1, some (.box (c_CodeType (a0.Types.getD s2_0 default))))]⟩ : ASt) _
    replace l10 : actorgridlaw20_Small_loop2 k a0 s2_0 n10 s10_0 = some o10 := l10
    rcases n10 with _ | n10
    · exact absurd (show none = some o10 from l10) nofun
    rw [actorgridlaw20_Small_loop2] at l10
    refine aw_seq (aw_seq (aw_region (s_mv ?_)))
    refine s_fd ?_
    refine s_ld ?_
    refine s_ln ?_
    refine s_cm ?_
    refine aops_nil ?_
    refine aw_cond rfl (fun c26 => ?_) (fun c26 => ?_)
    · replace l10 := Md.cond_t l10 c26
      refine aw_skip (aw_seq (aw_block (aw_seq (aw_region (s_fd ?_)))))
      refine s_ld ?_
      refine s_mv ?_
      obtain ⟨g27, l10⟩ := Md.ifp_s l10
      refine aops_step1 rfl (ev_index_in rfl rfl rfl g27 rfl rfl) (aops_step1 rfl (ev_field_in rfl rfl rfl) (aops_step1 rfl (ev_load_in rfl rfl rfl) ?_))
      refine aops_step1 rfl (st_len_str rfl rfl) (s_cm ?_)
      refine s_mv ?_
      obtain ⟨o28, j28, l10⟩ := Md.bind_s l10
      refine aops_cut 9 (ε := Bool) (fun x28 => (⟨115, [], [(1, .one (.ptr 0 0)), (3, vI ((s2_0 : Nat) : Int)), (4, .one (.ptr 1 0)), (5, vI ((s10_0 : Nat) : Int)), (65, vB x28)], [(0, some (.box [CV.ls c_CodeType a0.Types])), (1, some (.box (c_CodeType (a0.Types.getD s2_0 default))))]⟩ : ASt)) (fun x28 => x28 = o28) ?_ ?_
      · intro x28 hI28
        subst hI28
        change AOps _ _ _ (⟨115, [], [(1, .one (.ptr 0 0)), (3, vI ((s2_0 : Nat) : Int)), (4, .one (.ptr 1 0)), (5, vI ((s10_0 : Nat) : Int)), (65, vB x28)], [(0, some (.box [CV.ls c_CodeType a0.Types])), (1, some (.box (c_CodeType (a0.Types.getD s2_0 default))))]⟩ : ASt) _
        refine aops_nil ?_
        refine aw_cond rfl (fun c29 => ?_) (fun c29 => ?_)
        · replace l10 := Md.cond_t l10 c29
          refine aw_seq (aw_region (s_sa ?_))
          refine aops_nil ?_
          cases Option.some.inj l10
          replace j4 := Md.onS_r j4
          cases Option.some.inj j4
          replace l2 := Md.onS_r l2
          cases Option.some.inj l2
          replace h := Md.onS_r h
          cases Option.some.inj h
          exact aw_ret ⟨rfl, rv r1⟩
        replace l10 := Md.cond_f l10 c29
        refine aw_skip (aw_region (s_mv ?_))
        obtain ⟨g30, l10⟩ := Md.ifp_s l10
        refine aops_step1 rfl (ev_add rfl rfl rfl (Md.nat_add g30)) (s_sa ?_)
        refine aops_nil ?_
        exact ⟨⟨(n10, (s10_0 + 1)), l10⟩, Nat.lt_succ_self _, wk⟩
      rcases Md.bool_or ((decide (((((((a0.Types.getD s2_0 default).Fields).getD s10_0 default).Name).length : Nat) : Int) > 100))) with q28 | q28
      · replace j28 := Md.cond_t j28 q28
        iterate 8 refine np q28 ?_
        refine s_py q28 ?_
        refine aops_nil ?_
        show ∃ _x : Bool, _ = _ ∧ Weak _ _
        exact ⟨true, Option.some.inj j28, wk⟩
      replace j28 := Md.cond_f j28 q28
      refine y_fd q28 ?_
      refine y_ld q28 ?_
      refine y_mv q28 ?_
      obtain ⟨g31, j28⟩ := Md.ifp_s j28
      refine aops_yes rfl rfl rfl rfl q28 (ev_index_in rfl rfl rfl g31 rfl rfl) (aops_yes rfl rfl rfl rfl q28 (ev_field_in rfl rfl rfl) ?_)
      refine aops_yes rfl rfl rfl rfl q28 (ev_loads_in (ds := [_, _, _, _, _]) rfl rfl rfl rfl) ?_
      obtain ⟨x32, hx32, j28⟩ := Md.bind_s j28
      refine aops_yes rfl rfl rfl rfl q28 (ev_call_v (actorgridlaw20_small_fn k ((((a0.Types.getD s2_0 default).Fields).getD s10_0 default).Init) x32 hx32) rfl [] ai rfl rfl rfl (.inl rfl) rfl) (y_nt q28 ?_)
      refine s_pn q28 ?_
      refine aops_nil ?_
      show ∃ _x : Bool, _ = _ ∧ Weak _ _
      exact ⟨(!x32), Option.some.inj j28, wk⟩
    replace l10 := Md.cond_f l10 c26
    refine aw_exit ?_
    show ∃ _x : Unit, _ = _ ∧ Weak _ _
    exact ⟨(), Option.some.inj l10, wk⟩
  replace l2 := Md.cond_f l2 c3
  refine aw_exit ?_
  show ∃ _x : Unit, _ = _ ∧ Weak _ _
  exact ⟨(), Option.some.inj l2, wk⟩
set_option maxHeartbeats 2000000 in
theorem bytecode_result_fn (k : Nat) (a0 : CodeMethod) (r : (List Int)) (h : bytecode_result k a0 = some r) : FnC Try.prog 86 [.agg (c_CodeMethod a0)] [] (Det (.one (CV.ls c_Int r)) []) := by
  unfold bytecode_result at h
  refine fn_intro' 9 Try.func86 rfl rfl rfl (aw_seq (aw_region (aops_step1 rfl (st_box 0 rfl rfl rfl rfl) (s_sa ?_))))
  refine aops_nil (aw_seq (aw_seq (aw_region (s_fd ?_))))
  refine s_ld ?_
  refine s_cm ?_
  refine aops_nil ?_
  refine aw_cond rfl (fun c1 => ?_) (fun c1 => ?_)
  · replace h := Md.cond_t h c1
    refine aw_seq (aw_region (s_sa ?_))
    refine aops_nil ?_
    cases Option.some.inj h
    exact aw_ret ⟨rfl, rv r1⟩
  replace h := Md.cond_f h c1
  refine aw_skip (aw_seq (aw_region (s_fd ?_)))
  refine s_ld ?_
  refine aops_step1 rfl (st_slice_lit (el := lsEl c_Int [a0.Result]) 1 rfl rfl rfl rfl rfl rfl rfl rfl (lit_el c_Int 1 [a0.Result] (fun _ => rfl)) rfl) (s_sa ?_)
  refine aops_nil ?_
  cases Option.some.inj h
  refine aw_freeze 1 rfl ?_
  exact aw_ret ⟨rfl, rv r1⟩
set_option maxHeartbeats 2000000 in
theorem bytecode_successors_fn (k : Nat) (a0 : CodeMethod) (a1 : Int) (r : (List Int) × Bool) (h : bytecode_successors k a0 a1 = some r) : FnC Try.prog 44 [.agg (c_CodeMethod a0), vI a1] [] (Det (.tup [.one (CV.ls c_Int r.1), vB r.2]) []) := by
  unfold bytecode_successors at h
  refine fn_intro' 39 Try.func44 rfl rfl rfl (aw_seq (aw_region (aops_step1 rfl (st_box 0 rfl rfl rfl rfl) ?_)))
  iterate 2 refine s_sa ?_
  refine aops_nil (aw_seq (aw_region (s_fd ?_)))
  refine s_ld ?_
  refine s_mv ?_
  obtain ⟨g1, h⟩ := Md.ifp_s h
  refine aops_step1 rfl (ev_index_in rfl rfl (Md.idx_eq g1) (Md.idx_lt g1) rfl rfl) ?_
  refine aops_step1 rfl (ev_loads_in (ds := [_, _, _, _, _, _, _, _]) rfl rfl rfl rfl) ?_
  refine aops_step1 rfl (st_alloc (cs := [cI 0, cI 0, cI 0, cI 0, cI 0, .val (Sv []), .val (.slice none 0 0), .val (.slice none 0 0)]) 1 rfl rfl rfl rfl rfl) (s_st [_, _, _, _, _, _, _, _] ?_)
  refine aops_nil (aw_seq (aw_seq (aw_region (s_fd ?_))))
  refine s_ld ?_
  refine aops_nil (aw_block (aw_seq (aw_seq (aw_region (s_cm ?_)))))
  refine s_sa ?_
  refine aops_nil ?_
  refine aw_cond rfl (fun c2 => ?_) (fun c2 => ?_)
  · replace h := Md.cond_t h c2
    refine aw_skip (aw_yes rfl (c2) (aw_seq (aw_region ?_)))
    iterate 2 refine s_sa ?_
    refine aops_nil ?_
    cases Option.some.inj h
    exact aw_ret ⟨rfl, rv (rn (.cons o1 (.cons o1 .nil)))⟩
  replace h := Md.cond_f h c2
  refine aw_region (s_cm ?_)
  refine s_sa ?_
  refine aops_nil ?_
  refine aw_cond rfl (fun c3 => ?_) (fun c3 => ?_)
  · replace h := Md.cond_t h c3
    refine aw_seq (aw_region ?_)
    iterate 2 refine s_sa ?_
    refine aops_nil ?_
    cases Option.some.inj h
    exact aw_ret ⟨rfl, rv (rn (.cons o1 (.cons o1 .nil)))⟩
  replace h := Md.cond_f h c3
  refine aw_seq (aw_region (s_cm ?_))
  refine s_sa ?_
  refine aops_nil ?_
  refine aw_cond rfl (fun c4 => ?_) (fun c4 => ?_)
  · replace h := Md.cond_t h c4
    refine aw_seq (aw_region (s_fd ?_))
    refine s_ld ?_
    refine aops_step1 rfl (st_slice_lit (el := lsEl c_Int [((a0.Code.getD ((a1).toNat) default).A)]) 2 rfl rfl rfl rfl rfl rfl rfl rfl (lit_el c_Int 1 [((a0.Code.getD ((a1).toNat) default).A)] (fun _ => rfl)) rfl) ?_
    iterate 2 refine s_sa ?_
    refine aops_nil ?_
    cases Option.some.inj h
    refine aw_freeze 2 rfl ?_
    exact aw_ret ⟨rfl, rv (rn (.cons o1 (.cons o1 .nil)))⟩
  replace h := Md.cond_f h c4
  refine aw_skip (aw_seq (aw_seq (aw_region (s_mv ?_))))
  refine aops_step1 rfl (ev_add rfl rfl rfl (Md.wrap_W _)) (s_fd ?_)
  refine s_ld ?_
  refine s_ln ?_
  refine s_cm ?_
  refine aops_nil ?_
  refine aw_cond rfl (fun c5 => ?_) (fun c5 => ?_)
  · replace h := Md.cond_t h c5
    refine aw_seq (aw_region ?_)
    iterate 2 refine s_sa ?_
    refine aops_nil ?_
    cases Option.some.inj h
    exact aw_ret ⟨rfl, rv (rn (.cons o1 (.cons o1 .nil)))⟩
  replace h := Md.cond_f h c5
  refine aw_skip (aw_seq (aw_seq (aw_region (s_fd ?_))))
  refine s_ld ?_
  refine s_cm ?_
  refine aops_nil ?_
  refine aw_cond rfl (fun c6 => ?_) (fun c6 => ?_)
  · replace h := Md.cond_t h c6
    refine aw_seq (aw_region (s_mv ?_))
    refine aops_step1 rfl (ev_add rfl rfl rfl (Md.wrap_W _)) (s_fd ?_)
    refine s_ld ?_
    refine aops_step1 rfl (st_slice_lit (el := lsEl c_Int [(Md.W (a1 + 1)), ((a0.Code.getD ((a1).toNat) default).A)]) 2 rfl rfl rfl rfl rfl rfl rfl rfl (lit_el c_Int 1 [(Md.W (a1 + 1)), ((a0.Code.getD ((a1).toNat) default).A)] (fun _ => rfl)) rfl) ?_
    iterate 2 refine s_sa ?_
    refine aops_nil ?_
    cases Option.some.inj h
    refine aw_freeze 2 rfl ?_
    exact aw_ret ⟨rfl, rv (rn (.cons o1 (.cons o1 .nil)))⟩
  replace h := Md.cond_f h c6
  refine aw_skip (aw_seq (aw_region (s_mv ?_)))
  refine aops_step1 rfl (ev_add rfl rfl rfl (Md.wrap_W _)) ?_
  refine aops_step1 rfl (st_slice_lit (el := lsEl c_Int [(Md.W (a1 + 1))]) 2 rfl rfl rfl rfl rfl rfl rfl rfl (lit_el c_Int 1 [(Md.W (a1 + 1))] (fun _ => rfl)) rfl) ?_
  iterate 2 refine s_sa ?_
  refine aops_nil ?_
  cases Option.some.inj h
  refine aw_freeze 2 rfl ?_
  exact aw_ret ⟨rfl, rv (rn (.cons o1 (.cons o1 .nil)))⟩
end Md
end Go.Proofs.Ytclffekkjfhpdaa
