import Derived.Test.YtclffekkjfhpdaaQMo
import Derived.Test.YtclffekkjfhpdaaQTy
import Derived.Test.YtclffekkjfhpdaaQAbsS
import Derived.Test.YtclffekkjfhpdaaQCodeC
import Derived.Test.YtclffekkjfhpdaaQCodeK
namespace Go.Proofs.Ytclffekkjfhpdaa
open Go.ChangeShapes Go.WideShapes Go.RowKit
open Abs
set_option linter.unusedVariables false
set_option linter.unusedSimpArgs false
set_option maxRecDepth 10000
namespace Md
set_option maxHeartbeats 2000000 in
theorem bytecode_Verify_fn (k : Nat) (a0 : Code) (r : Int) (h : bytecode_Verify k a0 = some r) : FnC Try.prog 8 [.agg [CV.ls c_CodeType a0.Types]] [] (Det (vI r) []) := by
  unfold bytecode_Verify at h
  refine fn_intro' 37 Try.func8 rfl rfl rfl (aw_seq (aw_region (aops_step1 rfl (st_box 0 rfl rfl rfl rfl) (s_sa ?_))))
  refine aops_nil (aw_seq (aw_seq (aw_region (s_ls [_] ?_))))
  obtain ⟨x1, hx1, h⟩ := Md.bind_s h
  refine aops_step1 rfl (ev_call_v (bytecode_rightForm_fn k a0 x1 hx1) rfl [] ai rfl rfl rfl (.inl rfl) rfl) (s_nt ?_)
  refine aops_nil ?_
  refine aw_cond rfl (fun c2 => ?_) (fun c2 => ?_)
  · replace h := Md.cond_t h c2
    refine aw_seq (aw_region (s_sa ?_))
    refine aops_nil ?_
    cases Option.some.inj h
    exact aw_ret ⟨rfl, rv r1⟩
  replace h := Md.cond_f h c2
  refine aw_skip (aw_seq (aw_seq (aw_region (s_fd ?_))))
  refine s_ld ?_
  refine s_ln ?_
  refine s_mv ?_
  refine aops_nil (aw_block ?_)
  obtain ⟨o3, ho3, h⟩ := Md.bind_s h
  refine aw_loop_x (ι := {p : Nat × Nat // bytecode_Verify_loop1 k a0 p.1 p.2 = some o3}) (fun p => (⟨37, [], [(1, .one (.ptr 0 0)), (13, .one (CV.ls c_CodeType a0.Types)), (14, vI ((a0.Types.length : Nat) : Int)), (15, vI ((p.1.2 : Nat) : Int))], [(0, some (.box [CV.ls c_CodeType a0.Types]))]⟩ : ASt)) (fun p => p.1.1) ⟨(k, 0), ho3⟩ wk 0 (ε := Unit) (fun x => (⟨37, [], [], []⟩ : ASt)) (fun x => Sum.inl x = o3) (fun _ _ w h => aw_weak w h) ?_ ?_
  · intro x3_0 hI3
    subst hI3
    replace h := Md.onS_l h
    change AW _ _ (⟨37, [], [], []⟩ : ASt) _
    refine aw_seq (aw_region (s_sa ?_))
    refine aops_nil ?_
    cases Option.some.inj h
    exact aw_ret ⟨rfl, rv r1⟩
  intro p3
  obtain ⟨⟨n3, s3_0⟩, l3⟩ := p3
  change AW _ _ (⟨37, [], [(1, .one (.ptr 0 0)), (13, .one (CV.ls c_CodeType a0.Types)), (14, vI ((a0.Types.length : Nat) : Int)), (15, vI ((s3_0 : Nat) : Int))], [(0, some (.box [CV.ls c_CodeType a0.Types]))]⟩ : ASt) _
  replace l3 : bytecode_Verify_loop1 k a0 n3 s3_0 = some o3 := l3
  rcases n3 with _ | n3
  · exact absurd (show none = some o3 from l3) nofun
  rw [bytecode_Verify_loop1] at l3
  refine aw_seq (aw_region (s_cm ?_))
  refine aops_nil (aw_seq ?_)
  refine aw_cond rfl (fun c4 => ?_) (fun c4 => ?_)
  · replace l3 := Md.cond_t l3 c4
    refine aw_skip ?_
    obtain ⟨o5, j5, l3⟩ := Md.bind_s l3
    refine aw_cut (ε := Unit) (fun x => (⟨37, [], [(1, .one (.ptr 0 0)), (13, .one (CV.ls c_CodeType a0.Types)), (14, vI ((a0.Types.length : Nat) : Int)), (15, vI ((s3_0 : Nat) : Int))], [(0, some (.box [CV.ls c_CodeType a0.Types]))]⟩ : ASt)) (fun x => Sum.inl x = o5) ?_ ?_
    · intro x5_0 hI5
      subst hI5
      replace l3 := Md.onS_l l3
      change AW _ _ (⟨37, [], [(1, .one (.ptr 0 0)), (13, .one (CV.ls c_CodeType a0.Types)), (14, vI ((a0.Types.length : Nat) : Int)), (15, vI ((s3_0 : Nat) : Int))], [(0, some (.box [CV.ls c_CodeType a0.Types]))]⟩ : ASt) _
      refine aw_region ?_
      obtain ⟨g6, l3⟩ := Md.ifp_s l3
      refine aops_step1 rfl (ev_add rfl rfl rfl (Md.nat_add g6)) (s_mv ?_)
      refine aops_nil ?_
      exact ⟨⟨(n3, (s3_0 + 1)), l3⟩, Nat.lt_succ_self _, wk⟩
    refine aw_block (aw_seq (aw_region ?_))
    obtain ⟨g7, j5⟩ := Md.ifp_s j5
    refine aops_step1 rfl (ev_index_in rfl rfl rfl g7 rfl rfl) (aops_step1 rfl (ev_loads_in (ds := [_, _, _]) rfl rfl rfl rfl) ?_)
    refine aops_step1 rfl (st_alloc (cs := [.val (Sv []), .val (.slice none 0 0), .val (.slice none 0 0)]) 1 rfl rfl rfl rfl rfl) (s_st [_, _, _] ?_)
    refine aops_nil (aw_seq (aw_region (s_fd ?_)))
    refine s_ld ?_
    refine s_ln ?_
    refine s_mv ?_
    refine aops_nil (aw_block ?_)
    obtain ⟨o8, ho8, j5⟩ := Md.bind_s j5
    refine aw_loop (ι := {p : Nat × Nat // bytecode_Verify_loop2 k a0 s3_0 p.1 p.2 = some o8}) (fun p => (⟨37, [], [(1, .one (.ptr 0 0)), (4, .one (.ptr 1 0)), (13, .one (CV.ls c_CodeType a0.Types)), (14, vI ((a0.Types.length : Nat) : Int)), (15, vI ((s3_0 : Nat) : Int)), (20, .one (CV.ls c_CodeMethod ((a0.Types.getD s3_0 default).Methods))), (21, vI ((((a0.Types.getD s3_0 default).Methods).length : Nat) : Int)), (22, vI ((p.1.2 : Nat) : Int))], [(0, some (.box [CV.ls c_CodeType a0.Types])), (1, some (.box (c_CodeType (a0.Types.getD s3_0 default))))]⟩ : ASt)) (fun p => p.1.1) ⟨(k, 0), ho8⟩ wk ?_
    intro p8
    obtain ⟨⟨n8, s8_0⟩, l8⟩ := p8
    change AW _ _ (⟨37, [], [(1, .one (.ptr 0 0)), (4, .one (.ptr 1 0)), (13, .one (CV.ls c_CodeType a0.Types)), (14, vI ((a0.Types.length : Nat) : Int)), (15, vI ((s3_0 : Nat) : Int)), (20, .one (CV.ls c_CodeMethod ((a0.Types.getD s3_0 default).Methods))), (21, vI ((((a0.Types.getD s3_0 default).Methods).length : Nat) : Int)), (22, vI ((s8_0 : Nat) : Int))], [(0, some (.box [CV.ls c_CodeType a0.Types])), (1, some (.box (c_CodeType (a0.Types.getD s3_0 default))))]⟩ : ASt) _
    replace l8 : bytecode_Verify_loop2 k a0 s3_0 n8 s8_0 = some o8 := l8
    rcases n8 with _ | n8
    · exact absurd (show none = some o8 from l8) nofun
    rw [bytecode_Verify_loop2] at l8
    refine aw_seq (aw_region (s_cm ?_))
    refine aops_nil (aw_seq ?_)
    refine aw_cond rfl (fun c9 => ?_) (fun c9 => ?_)
    · replace l8 := Md.cond_t l8 c9
      refine aw_skip (aw_seq (aw_block (aw_seq (aw_region ?_))))
      obtain ⟨g10, l8⟩ := Md.ifp_s l8
      refine aops_step1 rfl (ev_index_in rfl rfl rfl g10 rfl rfl) (aops_step1 rfl (ev_loads_in (ds := [_, _, _, _, _]) rfl rfl rfl rfl) ?_)
      refine aops_step1 rfl (st_alloc (cs := [.val (Sv []), .val (.slice none 0 0), cI 0, .val (.slice none 0 0), .val (.slice none 0 0)]) 2 rfl rfl rfl rfl rfl) (s_st [_, _, _, _, _] ?_)
      refine aops_nil (aw_seq (aw_region (s_ls [_] ?_)))
      refine s_ls [_, _, _] ?_
      refine s_ls [_, _, _, _, _] ?_
      obtain ⟨x11, hx11, l8⟩ := Md.bind_s l8
      refine aops_step1 rfl (ev_call_v (bytecode_analyze_fn k a0 (a0.Types.getD s3_0 default) (((a0.Types.getD s3_0 default).Methods).getD s8_0 default) x11 hx11) rfl [] ai rfl rfl rfl (.inl rfl) rfl) (s_mt ?_)
      iterate 2 refine s_ex ?_
      iterate 2 refine s_sa ?_
      refine aops_nil (aw_seq (aw_region (s_mv ?_)))
      refine s_nt ?_
      refine aops_nil ?_
      refine aw_cond rfl (fun c12 => ?_) (fun c12 => ?_)
      · replace l8 := Md.cond_t l8 c12
        refine aw_seq (aw_region (s_sa ?_))
        refine aops_nil ?_
        cases Option.some.inj l8
        replace j5 := Md.onS_r j5
        cases Option.some.inj j5
        replace l3 := Md.onS_r l3
        cases Option.some.inj l3
        replace h := Md.onS_r h
        cases Option.some.inj h
        exact aw_ret ⟨rfl, rv r1⟩
      replace l8 := Md.cond_f l8 c12
      refine aw_skip (aw_region ?_)
      obtain ⟨g13, l8⟩ := Md.ifp_s l8
      refine aops_step1 rfl (ev_add rfl rfl rfl (Md.nat_add g13)) (s_mv ?_)
      refine aops_nil ?_
      exact ⟨⟨(n8, (s8_0 + 1)), l8⟩, Nat.lt_succ_self _, wk⟩
    replace l8 := Md.cond_f l8 c9
    refine aw_exit ?_
    have e8 := Option.some.inj l8
    subst e8
    replace j5 := Md.onS_l j5
    show ∃ _x : Unit, _ = _ ∧ Weak _ _
    exact ⟨(), Option.some.inj j5, wk⟩
  replace l3 := Md.cond_f l3 c4
  refine aw_exit ?_
  show ∃ _x : Unit, _ = _ ∧ Weak _ _
  exact ⟨(), Option.some.inj l3, wk⟩
set_option maxHeartbeats 2000000 in
theorem bytecode_statesOf_fn (k : Nat) (a0 : Code) (a1 : Int) (a2 : Int) (r : (List Bytecodestate)) (h : bytecode_statesOf k a0 a1 a2 = some r) : FnC Try.prog 36 [.agg [CV.ls c_CodeType a0.Types], vI a1, vI a2] [] (Det (.one (CV.ls c_Bytecodestate r)) []) := by
  unfold bytecode_statesOf at h
  refine fn_intro' 58 Try.func36 rfl rfl rfl (aw_seq (aw_region (aops_step1 rfl (st_box 0 rfl rfl rfl rfl) (s_sa ?_))))
  refine aops_nil (aw_seq (aw_seq (aw_region (s_ls [_] ?_))))
  obtain ⟨x1, hx1, h⟩ := Md.bind_s h
  refine aops_step1 rfl (ev_call_v (bytecode_Verify_fn k a0 x1 hx1) rfl [] ai rfl rfl rfl (.inl rfl) rfl) (s_cm ?_)
  refine s_mv ?_
  refine aops_mid 3 (⟨58, [], [(1, vI a1), (2, vI a2), (3, .one (.ptr 0 0)), (15, vB ((x1 != 0) || (decide (a1 < 0))))], [(0, some (.box [CV.ls c_CodeType a0.Types]))]⟩ : ASt) ?_ ?_
  · rcases Md.bool_or ((x1 != 0)) with q2 | q2
    · skip
      iterate 2 refine np q2 ?_
      refine s_py q2 ?_
      refine aops_nil ?_
      exact wq q2
    refine y_mv q2 ?_
    refine y_cm q2 ?_
    refine s_pn q2 ?_
    refine aops_nil ?_
    exact wq q2
  refine s_mv ?_
  refine aops_mid 6 (⟨58, [], [(1, vI a1), (2, vI a2), (3, .one (.ptr 0 0)), (22, vB (((x1 != 0) || (decide (a1 < 0))) || (decide (a1 ≥ ((a0.Types.length : Nat) : Int)))))], [(0, some (.box [CV.ls c_CodeType a0.Types]))]⟩ : ASt) ?_ ?_
  · rcases Md.bool_or (((x1 != 0) || (decide (a1 < 0)))) with q3 | q3
    · skip
      iterate 5 refine np q3 ?_
      refine s_py q3 ?_
      refine aops_nil ?_
      exact wq q3
    refine y_mv q3 ?_
    refine y_fd q3 ?_
    refine y_ld q3 ?_
    refine y_ln q3 ?_
    refine y_cm q3 ?_
    refine s_pn q3 ?_
    refine aops_nil ?_
    exact wq q3
  refine s_mv ?_
  refine aops_mid 3 (⟨58, [], [(1, vI a1), (2, vI a2), (3, .one (.ptr 0 0)), (26, vB ((((x1 != 0) || (decide (a1 < 0))) || (decide (a1 ≥ ((a0.Types.length : Nat) : Int)))) || (decide (a2 < 0))))], [(0, some (.box [CV.ls c_CodeType a0.Types]))]⟩ : ASt) ?_ ?_
  · rcases Md.bool_or ((((x1 != 0) || (decide (a1 < 0))) || (decide (a1 ≥ ((a0.Types.length : Nat) : Int))))) with q4 | q4
    · skip
      iterate 2 refine np q4 ?_
      refine s_py q4 ?_
      refine aops_nil ?_
      exact wq q4
    refine y_mv q4 ?_
    refine y_cm q4 ?_
    refine s_pn q4 ?_
    refine aops_nil ?_
    exact wq q4
  refine s_mv ?_
  obtain ⟨o5, j5, h⟩ := Md.bind_s h
  refine aops_cut 10 (ε := Bool) (fun x5 => (⟨58, [], [(1, vI a1), (2, vI a2), (3, .one (.ptr 0 0)), (37, vB x5)], [(0, some (.box [CV.ls c_CodeType a0.Types]))]⟩ : ASt)) (fun x5 => x5 = o5) ?_ ?_
  · intro x5 hI5
    subst hI5
    change AOps _ _ _ (⟨58, [], [(1, vI a1), (2, vI a2), (3, .one (.ptr 0 0)), (37, vB x5)], [(0, some (.box [CV.ls c_CodeType a0.Types]))]⟩ : ASt) _
    refine aops_nil ?_
    refine aw_cond rfl (fun c6 => ?_) (fun c6 => ?_)
    · replace h := Md.cond_t h c6
      refine aw_seq (aw_region (s_sa ?_))
      refine aops_nil ?_
      cases Option.some.inj h
      exact aw_ret ⟨rfl, rv r1⟩
    replace h := Md.cond_f h c6
    refine aw_skip ?_
    obtain ⟨g7, h⟩ := Md.ifp_s h
    obtain ⟨g8, h⟩ := Md.ifp_s h
    obtain ⟨g9, h⟩ := Md.ifp_s h
    obtain ⟨x10, hx10, h⟩ := Md.bind_s h
    refine aw_seq ?_
    apply aw_draw 20 ((⟨[], .agg [CV.ls c_CodeType a0.Types]⟩ : Add) :: ⟨[], .one (.ptr 0 _)⟩ :: ⟨[], .one (CV.ls c_CodeType a0.Types)⟩ :: ⟨[], vI a1⟩ :: ⟨[], .one (.cptr _)⟩ :: ⟨[], .agg (c_CodeType (a0.Types.getD ((a1).toNat) default))⟩ :: ⟨[], .one (.ptr 0 _)⟩ :: ⟨[], .one (CV.ls c_CodeType a0.Types)⟩ :: ⟨[], vI a1⟩ :: ⟨[], .one (.cptr _)⟩ :: ⟨[], .one (.cptr _)⟩ :: ⟨[], .one (CV.ls c_CodeMethod ((a0.Types.getD ((a1).toNat) default).Methods))⟩ :: ⟨[], vI a2⟩ :: ⟨[], .one (.cptr _)⟩ :: ⟨[], .agg (c_CodeMethod (((a0.Types.getD ((a1).toNat) default).Methods).getD ((a2).toNat) default))⟩ :: ⟨[], .tup [.one (CV.ls c_Bytecodestate x10.1), vB x10.2]⟩ :: ⟨[], .tup [.one (CV.ls c_Bytecodestate x10.1), vB x10.2]⟩ :: ⟨[], .one (CV.ls c_Bytecodestate x10.1)⟩ :: ⟨[], vB x10.2⟩ :: ⟨[], .one (CV.ls c_Bytecodestate x10.1)⟩ :: []) (by decide) rfl ?hk1x ?hf1x ?ho1x ?hr1x
    case ho1x =>
     refine ob [] (fun S hle hfr => .inl ⟨w0, ev_loads (ds := [_]) (hle.e rfl) (hle.heap _ _ rfl) rfl rfl (hle.d rfl)⟩) ?_
     refine ob [] (fun S hle hfr => .inl ⟨w0, ev_field (hle.e rfl) rfl (hle.d rfl)⟩) ?_
     refine ob [1] (fun S hle hfr => .inl ⟨w0, ev_load (hle.e rfl) (hle.heap _ _ rfl) rfl (hle.d rfl)⟩) ?_
     refine ob [] (fun S hle hfr => .inl ⟨w0, st_move (hle.e rfl) (hle.d rfl)⟩) ?_
     refine ob [2, 3, 1] (fun S hle hfr => .inl ⟨w0, ev_index_in (hle.e rfl) (hle.e rfl) (Md.idx_eq g7) (Md.idx_lt g7) rfl (hle.d rfl)⟩) ?_
     refine ob [4, 2, 3, 1] (fun S hle hfr => .inl ⟨w0, ev_loads_in (ds := [_, _, _]) (hle.e rfl) rfl rfl (hle.d rfl)⟩) ?_
     refine ob [] (fun S hle hfr => .inl ⟨w0, ev_field (hle.e rfl) rfl (hle.d rfl)⟩) ?_
     refine ob [6] (fun S hle hfr => .inl ⟨w0, ev_load (hle.e rfl) (hle.heap _ _ rfl) rfl (hle.d rfl)⟩) ?_
     refine ob [] (fun S hle hfr => .inl ⟨w0, st_move (hle.e rfl) (hle.d rfl)⟩) ?_
     refine ob [7, 8, 6] (fun S hle hfr => .inl ⟨w0, ev_index_in (hle.e rfl) (hle.e rfl) (Md.idx_eq g8) (Md.idx_lt g8) rfl (hle.d rfl)⟩) ?_
     refine ob [9, 7, 8, 6] (fun S hle hfr => .inl ⟨w0, ev_field_in (hle.e rfl) rfl (hle.d rfl)⟩) ?_
     refine ob [10, 9, 7, 8, 6] (fun S hle hfr => .inl ⟨w0, ev_load_in (hle.e rfl) rfl (hle.d rfl)⟩) ?_
     refine ob [] (fun S hle hfr => .inl ⟨w0, st_move (hle.e rfl) (hle.d rfl)⟩) ?_
     refine ob [11, 12, 10, 9, 7, 8, 6] (fun S hle hfr => .inl ⟨w0, ev_index_in (hle.e rfl) (hle.e rfl) (Md.idx_eq g9) (Md.idx_lt g9) rfl (hle.d rfl)⟩) ?_
     refine ob [13, 11, 12, 10, 9, 7, 8, 6] (fun S hle hfr => .inl ⟨w0, ev_loads_in (ds := [_, _, _, _, _]) (hle.e rfl) rfl rfl (hle.d rfl)⟩) ?_
     refine ob [0, 5, 14, 4, 13, 2, 3, 11, 12, 1, 10, 9, 7, 8, 6] (fun S hle hfr => .inl ⟨w0, ev_call_v (bytecode_analyze_fn k a0 (a0.Types.getD ((a1).toNat) default) (((a0.Types.getD ((a1).toNat) default).Methods).getD ((a2).toNat) default) x10 hx10) (map_ev (.cons (hle.e rfl) (.cons (hle.e rfl) (.cons (hle.e rfl) (.nil))))) [] (by repeat' (first | exact .nil | refine .cons ?_ ?_ | refine .one ?_ | refine .agg ?_ | exact .mk rfl | exact .lend (hle.heap _ _ rfl) (by simp) | exact .le (.nil _) rfl | exact .le (.emp _) rfl | exact .le (.any _) rfl | fail)) rfl rfl rfl (.inl rfl) (hle.d rfl)⟩) ?_
     refine ob [15, 0, 5, 14, 4, 13, 2, 3, 11, 12, 1, 10, 9, 7, 8, 6] (fun S hle hfr => .inl ⟨w0, st_movet (hle.e rfl) (hle.d rfl)⟩) ?_
     refine ob [16, 15, 0, 5, 14, 4, 13, 2, 3, 11, 12, 1, 10, 9, 7, 8, 6] (fun S hle hfr => .inl ⟨w0, ev_extract (hle.e rfl) rfl (hle.d rfl)⟩) ?_
     refine ob [16, 15, 0, 5, 14, 4, 13, 2, 3, 11, 12, 1, 10, 9, 7, 8, 6] (fun S hle hfr => .inl ⟨w0, ev_extract (hle.e rfl) rfl (hle.d rfl)⟩) ?_
     refine ob [17, 15, 0, 1, 2, 3, 4, 5, 6, 7, 8, 9, 10, 11, 12, 13, 14, 16] (fun S hle hfr => .inl ⟨w0, st_assign (hle.e rfl) (hle.d rfl)⟩) ?_
     exact trivial
    case hk1x => rfl
    case hf1x => rfl
    refine s_sa ?_
    refine aops_nil (aw_seq (aw_region (s_mv ?_)))
    refine s_sa ?_
    refine aops_nil ?_
    cases Option.some.inj h
    exact aw_ret ⟨rfl, rv r1⟩
  rcases Md.bool_or (((((x1 != 0) || (decide (a1 < 0))) || (decide (a1 ≥ ((a0.Types.length : Nat) : Int)))) || (decide (a2 < 0)))) with q5 | q5
  · replace j5 := Md.cond_t j5 q5
    iterate 9 refine np q5 ?_
    refine s_py q5 ?_
    refine aops_nil ?_
    show ∃ _x : Bool, _ = _ ∧ Weak _ _
    exact ⟨true, Option.some.inj j5, wk⟩
  replace j5 := Md.cond_f j5 q5
  refine y_mv q5 ?_
  refine y_fd q5 ?_
  refine y_ld q5 ?_
  refine y_mv q5 ?_
  obtain ⟨g11, j5⟩ := Md.ifp_s j5
  refine aops_yes rfl rfl rfl rfl q5 (ev_index_in rfl rfl (Md.idx_eq g11) (Md.idx_lt g11) rfl rfl) (aops_yes rfl rfl rfl rfl q5 (ev_field_in rfl rfl rfl) ?_)
  refine aops_yes rfl rfl rfl rfl q5 (ev_load_in rfl rfl rfl) (y_ln q5 ?_)
  refine y_cm q5 ?_
  refine s_pn q5 ?_
  refine aops_nil ?_
  show ∃ _x : Bool, _ = _ ∧ Weak _ _
  exact ⟨(decide (a2 ≥ ((((a0.Types.getD ((a1).toNat) default).Methods).length : Nat) : Int))), Option.some.inj j5, wk⟩
set_option maxHeartbeats 2000000 in
theorem bytecode_Depth_fn (k : Nat) (a0 : Code) (a1 : Int) (a2 : Int) (r : (List Int)) (h : bytecode_Depth k a0 a1 a2 = some r) : FnC Try.prog 14 [.agg [CV.ls c_CodeType a0.Types], vI a1, vI a2] [] (Det (.one (.own 0)) [(0, some (.row 3 1 r.length (lsEl c_Int r)))]) := by
  unfold bytecode_Depth at h
  refine fn_intro' 27 Try.func14 rfl rfl rfl (aw_seq (aw_region (aops_step1 rfl (st_box 0 rfl rfl rfl rfl) (s_sa ?_))))
  refine aops_nil (aw_seq (aw_region (s_sa ?_)))
  refine aops_nil (aw_seq (aw_seq (aw_region (s_ls [_] ?_))))
  iterate 2 refine s_mv ?_
  obtain ⟨x1, hx1, h⟩ := Md.bind_s h
  refine aops_step1 rfl (ev_call_v (bytecode_statesOf_fn k a0 a1 a2 x1 hx1) rfl [] ai rfl rfl rfl (.inl rfl) rfl) (s_ln ?_)
  refine s_mv ?_
  refine aops_nil (aw_block (aw_own_nil 7 1 3 1 (lsEl c_Int []) rfl rfl ?_))
  obtain ⟨o2, ho2, h⟩ := Md.bind_s h
  refine aw_loop_x (ι := {p : Nat × Nat × (List Int) // bytecode_Depth_loop1 k x1 p.1 p.2.1 p.2.2 = some o2}) (fun p => (⟨27, [], [(7, .one (.own 1)), (13, .one (CV.ls c_Bytecodestate x1)), (14, vI ((x1.length : Nat) : Int)), (15, vI ((p.1.2.1 : Nat) : Int))], [(1, some (.row 3 1 p.1.2.2.length (lsEl c_Int p.1.2.2)))]⟩ : ASt)) (fun p => p.1.1) ⟨(k, 0, ([] : List Int)), ho2⟩ wk 0 (ε := (List Int)) (fun x => (⟨27, [], [(7, .one (.own 1))], [(1, some (.row 3 1 x.length (lsEl c_Int x)))]⟩ : ASt)) (fun x => x = o2) (fun _ _ w h => aw_weak w h) ?_ ?_
  · intro x2_0 hI2
    subst hI2
    change AW _ _ (⟨27, [], [(7, .one (.own 1))], [(1, some (.row 3 1 x2_0.length (lsEl c_Int x2_0)))]⟩ : ASt) _
    refine aw_seq (aw_region (s_mv ?_))
    refine s_sa ?_
    refine aops_nil ?_
    cases Option.some.inj h
    refine aw_ret ⟨rfl, ret_r 1 r1 rfl rfl rfl ?_ ?_ ?_⟩
    · first | exact TLe.refl _ | (repeat' (first | exact .refl _ | exact .nil | refine .tup ?_ | refine .v ?_ | refine .cons ?_ ?_ | refine .agg ?_ | refine .one ?_ | exact .nil _ | exact .emp _ | refine .val ?_ | refine .slc ?_ ?_ | fail))
    · rfl
    · rfl
  intro p2
  obtain ⟨⟨n2, s2_0, s2_1⟩, l2⟩ := p2
  change AW _ _ (⟨27, [], [(7, .one (.own 1)), (13, .one (CV.ls c_Bytecodestate x1)), (14, vI ((x1.length : Nat) : Int)), (15, vI ((s2_0 : Nat) : Int))], [(1, some (.row 3 1 s2_1.length (lsEl c_Int s2_1)))]⟩ : ASt) _
  replace l2 : bytecode_Depth_loop1 k x1 n2 s2_0 s2_1 = some o2 := l2
  rcases n2 with _ | n2
  · exact absurd (show none = some o2 from l2) nofun
  rw [bytecode_Depth_loop1] at l2
  refine aw_seq (aw_region (s_cm ?_))
  refine aops_nil (aw_seq ?_)
  refine aw_cond rfl (fun c3 => ?_) (fun c3 => ?_)
  · replace l2 := Md.cond_t l2 c3
    refine aw_skip (aw_seq (aw_block (aw_seq (aw_region ?_))))
    obtain ⟨g4, l2⟩ := Md.ifp_s l2
    refine aops_step1 rfl (ev_index_in rfl rfl rfl g4 rfl rfl) (aops_step1 rfl (ev_loads_in (ds := [_, _, _]) rfl rfl rfl rfl) ?_)
    refine aops_step1 rfl (st_alloc (cs := [cB false, .val (.slice none 0 0), .val (.int .u64 0)]) 2 rfl rfl rfl rfl rfl) (s_st [_, _, _] ?_)
    refine aops_nil (aw_region (s_mv ?_))
    refine s_fd ?_
    refine s_ld ?_
    refine s_ln ?_
    refine aops_step1 rfl (st_slice_lit (el := lsEl c_Int [((((x1.getD s2_0 default).stack).length : Nat) : Int)]) 3 rfl rfl rfl rfl rfl rfl rfl rfl (lit_el c_Int 1 [((((x1.getD s2_0 default).stack).length : Nat) : Int)] (fun _ => rfl)) rfl) ?_
    obtain ⟨g5, l2⟩ := Md.ifp_s l2
    refine aops_step1 rfl (st_app_ls (f := c_Int) s2_1 [((((x1.getD s2_0 default).stack).length : Nat) : Int)] (fun _ => rfl) rfl rfl (.inr ⟨_, _, rfl, rfl⟩) (by omega) (by omega) rfl) (s_sa ?_)
    refine aops_nil (aw_region ?_)
    obtain ⟨g6, l2⟩ := Md.ifp_s l2
    refine aops_step1 rfl (ev_add rfl rfl rfl (Md.nat_add g6)) (s_mv ?_)
    refine aops_nil ?_
    exact ⟨⟨(n2, (s2_0 + 1), (s2_1 ++ [((((x1.getD s2_0 default).stack).length : Nat) : Int)])), l2⟩, Nat.lt_succ_self _, wk⟩
  replace l2 := Md.cond_f l2 c3
  refine aw_exit ?_
  show ∃ _x : (List Int), _ = _ ∧ Weak _ _
  exact ⟨s2_1, Option.some.inj l2, wk⟩
end Md
end Go.Proofs.Ytclffekkjfhpdaa
