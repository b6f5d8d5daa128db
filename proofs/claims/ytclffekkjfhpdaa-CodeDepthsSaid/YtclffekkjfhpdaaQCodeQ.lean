import Derived.Test.YtclffekkjfhpdaaQCodeQM
import Derived.Test.YtclffekkjfhpdaaQTy
import Derived.Test.YtclffekkjfhpdaaQAbsS
import Derived.Test.YtclffekkjfhpdaaQCodeL
/-
  CodeQ: where a function's model gives a value, the function returns what reads as it (printed by wip/tools/auto.py). Condition of each: the model gives a value.
-/
namespace Go.Proofs.Ytclffekkjfhpdaa
open Go.ChangeShapes Go.WideShapes Go.RowKit
open Abs
set_option linter.unusedVariables false
set_option linter.unusedSimpArgs false
set_option maxRecDepth 10000
namespace Md
set_option maxHeartbeats 2000000 in
theorem actorgridlaw20_CodeDepths_fn (k : Nat) (a0 : Code) (a1 : UInt8) (a2 : UInt8) (r : Bool) (h : actorgridlaw20_CodeDepths k a0 a1 a2 = some r) : FnC Try.prog 5 [.agg [CV.ls c_CodeType a0.Types], .one (.val (.int .u8 (a1.toNat : Int))), .one (.val (.int .u8 (a2.toNat : Int)))] [] (Det (vB r) []) := by
  unfold actorgridlaw20_CodeDepths at h
  refine fn_intro' 152 Try.func5 rfl rfl rfl (aw_seq (aw_region (aops_step1 rfl (st_box 0 rfl rfl rfl rfl) (s_sa ?_))))
  refine aops_nil (aw_seq (aw_seq (aw_region ?_)))
  obtain ⟨x1, hx1, h⟩ := Md.bind_s h
  refine aops_step1 rfl (ev_call_v (actorgridlaw20_awake_fn k x1 hx1) rfl [] ai rfl rfl rfl (.inl rfl) rfl) (s_nt ?_)
  refine aops_nil ?_
  refine aw_cond rfl (fun c2 => ?_) (fun c2 => ?_)
  · replace h := Md.cond_t h c2
    refine aw_seq (aw_region (s_sa ?_))
    refine aops_nil ?_
    cases Option.some.inj h
    exact aw_ret ⟨rfl, rv r1⟩
  replace h := Md.cond_f h c2
  refine aw_skip (aw_seq (aw_seq (aw_region (s_ls [_] ?_))))
  obtain ⟨x3, hx3, h⟩ := Md.bind_s h
  refine aops_step1 rfl (ev_call_v (actorgridlaw20_Small_fn k a0 x3 hx3) rfl [] ai rfl rfl rfl (.inl rfl) rfl) (s_nt ?_)
  refine s_mv ?_
  obtain ⟨o4, j4, h⟩ := Md.bind_s h
  refine aops_cut 4 (ε := Bool) (fun x4 => (⟨152, [], [(1, .one (.val (.int .u8 (a1.toNat : Int)))), (2, .one (.val (.int .u8 (a2.toNat : Int)))), (3, .one (.ptr 0 0)), (23, vB x4)], [(0, some (.box [CV.ls c_CodeType a0.Types]))]⟩ : ASt)) (fun x4 => x4 = o4) ?_ ?_
  · intro x4 hI4
    subst hI4
    change AOps _ _ _ (⟨152, [], [(1, .one (.val (.int .u8 (a1.toNat : Int)))), (2, .one (.val (.int .u8 (a2.toNat : Int)))), (3, .one (.ptr 0 0)), (23, vB x4)], [(0, some (.box [CV.ls c_CodeType a0.Types]))]⟩ : ASt) _
    refine s_mv ?_
    refine aops_mid 5 (⟨152, [], [(1, .one (.val (.int .u8 (a1.toNat : Int)))), (2, .one (.val (.int .u8 (a2.toNat : Int)))), (3, .one (.ptr 0 0)), (29, vB (x4 || (((a0.Types.length : Nat) : Int) == 0)))], [(0, some (.box [CV.ls c_CodeType a0.Types]))]⟩ : ASt) ?_ ?_
    · rcases Md.bool_or (x4) with q5 | q5
      · skip
        iterate 4 refine np q5 ?_
        refine s_py q5 ?_
        refine aops_nil ?_
        exact wq q5
      refine y_fd q5 ?_
      refine y_ld q5 ?_
      refine y_ln q5 ?_
      refine y_cm q5 ?_
      refine s_pn q5 ?_
      refine aops_nil ?_
      exact wq q5
    refine aops_nil ?_
    refine aw_cond rfl (fun c6 => ?_) (fun c6 => ?_)
    · replace h := Md.cond_t h c6
      refine aw_seq (aw_region (s_sa ?_))
      refine aops_nil ?_
      cases Option.some.inj h
      exact aw_ret ⟨rfl, rv r1⟩
    replace h := Md.cond_f h c6
    refine aw_skip (aw_seq (aw_region (s_mv ?_)))
    refine aops_step1 rfl (st_conv_int rfl rfl Try.underlying5 Try.underlying3 (Md.conv_u8_i64 a1)) (s_fd ?_)
    refine s_ld ?_
    refine s_ln ?_
    obtain ⟨g7, h⟩ := Md.ifp_s h
    refine aops_step1 rfl (ev_rem rfl rfl rfl (Md.nz g7) (Md.nat_rem _ _)) (s_sa ?_)
    refine aops_nil (aw_seq (aw_seq (aw_region (s_fd ?_))))
    refine s_ld ?_
    refine s_mv ?_
    obtain ⟨g8, h⟩ := Md.ifp_s h
    refine aops_step1 rfl (ev_index_in rfl rfl rfl g8 rfl rfl) (aops_step1 rfl (ev_field_in rfl rfl rfl) (aops_step1 rfl (ev_load_in rfl rfl rfl) (s_ln ?_)))
    refine s_cm ?_
    refine aops_nil ?_
    refine aw_cond rfl (fun c9 => ?_) (fun c9 => ?_)
    · replace h := Md.cond_t h c9
      refine aw_seq (aw_region (s_sa ?_))
      refine aops_nil ?_
      cases Option.some.inj h
      exact aw_ret ⟨rfl, rv r1⟩
    replace h := Md.cond_f h c9
    refine aw_skip (aw_seq (aw_region (s_mv ?_)))
    refine aops_step1 rfl (st_conv_int rfl rfl Try.underlying5 Try.underlying3 (Md.conv_u8_i64 a2)) (s_fd ?_)
    refine s_ld ?_
    refine s_mv ?_
    obtain ⟨g10, h⟩ := Md.ifp_s h
    refine aops_step1 rfl (ev_index_in rfl rfl rfl g10 rfl rfl) (aops_step1 rfl (ev_field_in rfl rfl rfl) (aops_step1 rfl (ev_load_in rfl rfl rfl) (s_ln ?_)))
    obtain ⟨g11, h⟩ := Md.ifp_s h
    refine aops_step1 rfl (ev_rem rfl rfl rfl (Md.nz g11) (Md.nat_rem _ _)) (s_sa ?_)
    refine aops_nil (aw_seq (aw_region (s_ls [_] ?_)))
    iterate 2 refine s_mv ?_
    obtain ⟨x12, hx12, h⟩ := Md.bind_s h
    refine aops_step1 rfl (st_call_r (r' := .one (.own 1)) 1 rfl (bytecode_Depth_fn k a0 (((a1.toNat % a0.Types.length) : Nat) : Int) (((a2.toNat % (((a0.Types.getD (a1.toNat % a0.Types.length) default).Methods).length)) : Nat) : Int) x12 hx12) rfl [] ai rfl rfl rfl (.inl rfl) rfl rfl) (s_sa ?_)
    refine aops_nil (aw_seq (aw_region (s_fd ?_)))
    refine s_ld ?_
    refine s_mv ?_
    obtain ⟨g13, h⟩ := Md.ifp_s h
    refine aops_step1 rfl (ev_index_in rfl rfl rfl g13 rfl rfl) (aops_step1 rfl (ev_field_in rfl rfl rfl) (aops_step1 rfl (ev_load_in rfl rfl rfl) (s_mv ?_)))
    obtain ⟨g14, h⟩ := Md.ifp_s h
    refine aops_step1 rfl (ev_index_in rfl rfl rfl g14 rfl rfl) (aops_step1 rfl (ev_field_in rfl rfl rfl) (aops_step1 rfl (ev_load_in rfl rfl rfl) (s_sa ?_)))
    refine aops_nil (aw_seq (aw_seq (aw_region (s_mv ?_))))
    refine aops_step1 rfl (ev_len_own rfl rfl rfl) (s_mv ?_)
    refine s_ln ?_
    refine s_cm ?_
    refine s_mv ?_
    rcases Md.bool_or ((((x12.length : Nat) : Int) != ((((((a0.Types.getD (a1.toNat % a0.Types.length) default).Methods).getD (a2.toNat % (((a0.Types.getD (a1.toNat % a0.Types.length) default).Methods).length)) default).Code).length : Nat) : Int))) with q15 | q15
    · replace h := Md.cond_t h q15
      iterate 4 refine np q15 ?_
      refine s_py q15 ?_
      refine aops_nil (aw_yes rfl (rfl) (aw_seq (aw_region (s_sa ?_))))
      refine aops_nil ?_
      cases Option.some.inj h
      exact aw_ret ⟨rfl, rv r1⟩
    replace h := Md.cond_f h q15
    refine y_mv q15 ?_
    obtain ⟨g16, h⟩ := Md.ifp_s h
    refine aops_freeze 1 rfl (aops_yes rfl rfl rfl rfl q15 (ev_index_in rfl rfl rfl g16 rfl rfl) (aops_yes rfl rfl rfl rfl q15 (ev_load_in rfl rfl rfl) (y_cm q15 ?_)))
    refine s_pn q15 ?_
    refine aops_nil ?_
    refine aw_cond rfl (fun c17 => ?_) (fun c17 => ?_)
    · replace h := Md.cond_t h c17
      refine aw_seq (aw_region (s_sa ?_))
      refine aops_nil ?_
      cases Option.some.inj h
      exact aw_ret ⟨rfl, rv r1⟩
    replace h := Md.cond_f h c17
    refine aw_skip (aw_seq (aw_seq (aw_region (s_sa ?_))))
    refine aops_nil (aw_block ?_)
    obtain ⟨o18, ho18, h⟩ := Md.bind_s h
    refine aw_loop_x (ι := {p : Nat × Nat // actorgridlaw20_CodeDepths_loop1 k a0 a1 a2 x12 p.1 p.2 = some o18}) (fun p => (⟨152, [], [(3, .one (.ptr 0 0)), (9, .one (CV.ls c_Int x12)), (10, .one (CV.ls c_Instr ((((a0.Types.getD (a1.toNat % a0.Types.length) default).Methods).getD (a2.toNat % (((a0.Types.getD (a1.toNat % a0.Types.length) default).Methods).length)) default).Code))), (11, vI ((p.1.2 : Nat) : Int))], [(0, some (.box [CV.ls c_CodeType a0.Types]))]⟩ : ASt)) (fun p => p.1.1) ⟨(k, 0), ho18⟩ wk 0 (ε := Unit) (fun x => (⟨152, [], [(10, .one (CV.ls c_Instr ((((a0.Types.getD (a1.toNat % a0.Types.length) default).Methods).getD (a2.toNat % (((a0.Types.getD (a1.toNat % a0.Types.length) default).Methods).length)) default).Code)))], []⟩ : ASt)) (fun x => Sum.inl x = o18) (fun _ _ w h => aw_weak w h) ?_ ?_
    · intro x18_0 hI18
      subst hI18
      replace h := Md.onS_l h
      change AW _ _ (⟨152, [], [(10, .one (CV.ls c_Instr ((((a0.Types.getD (a1.toNat % a0.Types.length) default).Methods).getD (a2.toNat % (((a0.Types.getD (a1.toNat % a0.Types.length) default).Methods).length)) default).Code)))], []⟩ : ASt) _
      refine aw_seq (aw_region ?_)
      iterate 2 refine s_mv ?_
      refine s_ln ?_
      refine aops_step1 rfl (ev_sub rfl rfl rfl (Md.wrap_W _)) ?_
      obtain ⟨g19, h⟩ := Md.ifp_s h
      refine aops_step1 rfl (ev_index_in rfl rfl (Md.idx_eq g19) (Md.idx_lt g19) rfl rfl) (aops_step1 rfl (ev_field_in rfl rfl rfl) ?_)
      refine aops_step1 rfl (ev_load_in rfl rfl rfl) (s_sa ?_)
      refine aops_nil (aw_seq (aw_region (s_mv ?_)))
      refine s_cm ?_
      refine s_mv ?_
      refine aops_mid 3 (⟨152, [], [(13, vI ((((((a0.Types.getD (a1.toNat % a0.Types.length) default).Methods).getD (a2.toNat % (((a0.Types.getD (a1.toNat % a0.Types.length) default).Methods).length)) default).Code).getD (((Md.W (((((((a0.Types.getD (a1.toNat % a0.Types.length) default).Methods).getD (a2.toNat % (((a0.Types.getD (a1.toNat % a0.Types.length) default).Methods).length)) default).Code).length : Nat) : Int) - 1))).toNat) default).Op)), (147, vB ((((((((a0.Types.getD (a1.toNat % a0.Types.length) default).Methods).getD (a2.toNat % (((a0.Types.getD (a1.toNat % a0.Types.length) default).Methods).length)) default).Code).getD (((Md.W (((((((a0.Types.getD (a1.toNat % a0.Types.length) default).Methods).getD (a2.toNat % (((a0.Types.getD (a1.toNat % a0.Types.length) default).Methods).length)) default).Code).length : Nat) : Int) - 1))).toNat) default).Op) == 32) || (((((((a0.Types.getD (a1.toNat % a0.Types.length) default).Methods).getD (a2.toNat % (((a0.Types.getD (a1.toNat % a0.Types.length) default).Methods).length)) default).Code).getD (((Md.W (((((((a0.Types.getD (a1.toNat % a0.Types.length) default).Methods).getD (a2.toNat % (((a0.Types.getD (a1.toNat % a0.Types.length) default).Methods).length)) default).Code).length : Nat) : Int) - 1))).toNat) default).Op) == 33)))], []⟩ : ASt) ?_ ?_
      · rcases Md.bool_or ((((((((a0.Types.getD (a1.toNat % a0.Types.length) default).Methods).getD (a2.toNat % (((a0.Types.getD (a1.toNat % a0.Types.length) default).Methods).length)) default).Code).getD (((Md.W (((((((a0.Types.getD (a1.toNat % a0.Types.length) default).Methods).getD (a2.toNat % (((a0.Types.getD (a1.toNat % a0.Types.length) default).Methods).length)) default).Code).length : Nat) : Int) - 1))).toNat) default).Op) == 32)) with q20 | q20
        · skip
          iterate 2 refine np q20 ?_
          refine s_py q20 ?_
          refine aops_nil ?_
          exact wq q20
        refine y_mv q20 ?_
        refine y_cm q20 ?_
        refine s_pn q20 ?_
        refine aops_nil ?_
        exact wq q20
      refine s_mv ?_
      refine aops_mid 3 (⟨152, [], [(151, vB (((((((((a0.Types.getD (a1.toNat % a0.Types.length) default).Methods).getD (a2.toNat % (((a0.Types.getD (a1.toNat % a0.Types.length) default).Methods).length)) default).Code).getD (((Md.W (((((((a0.Types.getD (a1.toNat % a0.Types.length) default).Methods).getD (a2.toNat % (((a0.Types.getD (a1.toNat % a0.Types.length) default).Methods).length)) default).Code).length : Nat) : Int) - 1))).toNat) default).Op) == 32) || (((((((a0.Types.getD (a1.toNat % a0.Types.length) default).Methods).getD (a2.toNat % (((a0.Types.getD (a1.toNat % a0.Types.length) default).Methods).length)) default).Code).getD (((Md.W (((((((a0.Types.getD (a1.toNat % a0.Types.length) default).Methods).getD (a2.toNat % (((a0.Types.getD (a1.toNat % a0.Types.length) default).Methods).length)) default).Code).length : Nat) : Int) - 1))).toNat) default).Op) == 33)) || (((((((a0.Types.getD (a1.toNat % a0.Types.length) default).Methods).getD (a2.toNat % (((a0.Types.getD (a1.toNat % a0.Types.length) default).Methods).length)) default).Code).getD (((Md.W (((((((a0.Types.getD (a1.toNat % a0.Types.length) default).Methods).getD (a2.toNat % (((a0.Types.getD (a1.toNat % a0.Types.length) default).Methods).length)) default).Code).length : Nat) : Int) - 1))).toNat) default).Op) == 28)))], []⟩ : ASt) ?_ ?_
      · rcases Md.bool_or (((((((((a0.Types.getD (a1.toNat % a0.Types.length) default).Methods).getD (a2.toNat % (((a0.Types.getD (a1.toNat % a0.Types.length) default).Methods).length)) default).Code).getD (((Md.W (((((((a0.Types.getD (a1.toNat % a0.Types.length) default).Methods).getD (a2.toNat % (((a0.Types.getD (a1.toNat % a0.Types.length) default).Methods).length)) default).Code).length : Nat) : Int) - 1))).toNat) default).Op) == 32) || (((((((a0.Types.getD (a1.toNat % a0.Types.length) default).Methods).getD (a2.toNat % (((a0.Types.getD (a1.toNat % a0.Types.length) default).Methods).length)) default).Code).getD (((Md.W (((((((a0.Types.getD (a1.toNat % a0.Types.length) default).Methods).getD (a2.toNat % (((a0.Types.getD (a1.toNat % a0.Types.length) default).Methods).length)) default).Code).length : Nat) : Int) - 1))).toNat) default).Op) == 33))) with q21 | q21
        · skip
          iterate 2 refine np q21 ?_
          refine s_py q21 ?_
          refine aops_nil ?_
          exact wq q21
        refine y_mv q21 ?_
        refine y_cm q21 ?_
        refine s_pn q21 ?_
        refine aops_nil ?_
        exact wq q21
      refine s_sa ?_
      refine aops_nil ?_
      cases Option.some.inj h
      exact aw_ret ⟨rfl, rv r1⟩
    intro p18
    obtain ⟨⟨n18, s18_0⟩, l18⟩ := p18
    change AW _ _ (⟨152, [], [(3, .one (.ptr 0 0)), (9, .one (CV.ls c_Int x12)), (10, .one (CV.ls c_Instr ((((a0.Types.getD (a1.toNat % a0.Types.length) default).Methods).getD (a2.toNat % (((a0.Types.getD (a1.toNat % a0.Types.length) default).Methods).length)) default).Code))), (11, vI ((s18_0 : Nat) : Int))], [(0, some (.box [CV.ls c_CodeType a0.Types]))]⟩ : ASt) _
    replace l18 : actorgridlaw20_CodeDepths_loop1 k a0 a1 a2 x12 n18 s18_0 = some o18 := l18
    rcases n18 with _ | n18
    · exact absurd (show none = some o18 from l18) nofun
    rw [actorgridlaw20_CodeDepths_loop1] at l18
    refine aw_seq (aw_seq (aw_region ?_))
    iterate 2 refine s_mv ?_
    refine s_ln ?_
    refine s_cm ?_
    refine aops_nil ?_
    refine aw_cond rfl (fun c22 => ?_) (fun c22 => ?_)
    · replace l18 := Md.cond_t l18 c22
      refine aw_skip ?_
      obtain ⟨o23, j23, l18⟩ := Md.bind_s l18
      refine aw_cut (ε := Unit) (fun x => (⟨152, [], [(3, .one (.ptr 0 0)), (9, .one (CV.ls c_Int x12)), (10, .one (CV.ls c_Instr ((((a0.Types.getD (a1.toNat % a0.Types.length) default).Methods).getD (a2.toNat % (((a0.Types.getD (a1.toNat % a0.Types.length) default).Methods).length)) default).Code))), (11, vI ((s18_0 : Nat) : Int))], [(0, some (.box [CV.ls c_CodeType a0.Types]))]⟩ : ASt)) (fun x => Sum.inl x = o23) ?_ ?_
      · intro x23_0 hI23
        subst hI23
        replace l18 := Md.onS_l l18
        change AW _ _ (⟨152, [], [(3, .one (.ptr 0 0)), (9, .one (CV.ls c_Int x12)), (10, .one (CV.ls c_Instr ((((a0.Types.getD (a1.toNat % a0.Types.length) default).Methods).getD (a2.toNat % (((a0.Types.getD (a1.toNat % a0.Types.length) default).Methods).length)) default).Code))), (11, vI ((s18_0 : Nat) : Int))], [(0, some (.box [CV.ls c_CodeType a0.Types]))]⟩ : ASt) _
        refine aw_region (s_mv ?_)
        obtain ⟨g24, l18⟩ := Md.ifp_s l18
        refine aops_step1 rfl (ev_add rfl rfl rfl (Md.nat_add g24)) (s_sa ?_)
        refine aops_nil ?_
        exact ⟨⟨(n18, (s18_0 + 1)), l18⟩, Nat.lt_succ_self _, wk⟩
      refine aw_block (aw_seq (aw_seq (aw_region ?_)))
      iterate 2 refine s_mv ?_
      obtain ⟨g25, j23⟩ := Md.ifp_s j23
      refine aops_step1 rfl (ev_index_in rfl rfl rfl g25 rfl rfl) (aops_step1 rfl (ev_load_in rfl rfl rfl) (s_cm ?_))
      refine s_mv ?_
      obtain ⟨o26, j26, j23⟩ := Md.bind_s j23
      refine aops_cut 6 (ε := Bool) (fun x26 => (⟨152, [], [(3, .one (.ptr 0 0)), (9, .one (CV.ls c_Int x12)), (10, .one (CV.ls c_Instr ((((a0.Types.getD (a1.toNat % a0.Types.length) default).Methods).getD (a2.toNat % (((a0.Types.getD (a1.toNat % a0.Types.length) default).Methods).length)) default).Code))), (11, vI ((s18_0 : Nat) : Int)), (96, vB x26)], [(0, some (.box [CV.ls c_CodeType a0.Types]))]⟩ : ASt)) (fun x26 => x26 = o26) ?_ ?_
      · intro x26 hI26
        subst hI26
        change AOps _ _ _ (⟨152, [], [(3, .one (.ptr 0 0)), (9, .one (CV.ls c_Int x12)), (10, .one (CV.ls c_Instr ((((a0.Types.getD (a1.toNat % a0.Types.length) default).Methods).getD (a2.toNat % (((a0.Types.getD (a1.toNat % a0.Types.length) default).Methods).length)) default).Code))), (11, vI ((s18_0 : Nat) : Int)), (96, vB x26)], [(0, some (.box [CV.ls c_CodeType a0.Types]))]⟩ : ASt) _
        refine aops_nil ?_
        refine aw_cond rfl (fun c27 => ?_) (fun c27 => ?_)
        · replace j23 := Md.cond_t j23 c27
          refine aw_seq (aw_region (s_sa ?_))
          refine aops_nil ?_
          cases Option.some.inj j23
          replace l18 := Md.onS_r l18
          cases Option.some.inj l18
          replace h := Md.onS_r h
          cases Option.some.inj h
          exact aw_ret ⟨rfl, rv r1⟩
        replace j23 := Md.cond_f j23 c27
        refine aw_skip (aw_seq (aw_region (s_mv ?_)))
        refine s_cm ?_
        refine s_mv ?_
        obtain ⟨o28, j28, j23⟩ := Md.bind_s j23
        refine aops_cut 8 (ε := Bool) (fun x28 => (⟨152, [], [(3, .one (.ptr 0 0)), (9, .one (CV.ls c_Int x12)), (10, .one (CV.ls c_Instr ((((a0.Types.getD (a1.toNat % a0.Types.length) default).Methods).getD (a2.toNat % (((a0.Types.getD (a1.toNat % a0.Types.length) default).Methods).length)) default).Code))), (11, vI ((s18_0 : Nat) : Int)), (107, vB x28)], [(0, some (.box [CV.ls c_CodeType a0.Types]))]⟩ : ASt)) (fun x28 => x28 = o28) ?_ ?_
        · intro x28 hI28
          subst hI28
          change AOps _ _ _ (⟨152, [], [(3, .one (.ptr 0 0)), (9, .one (CV.ls c_Int x12)), (10, .one (CV.ls c_Instr ((((a0.Types.getD (a1.toNat % a0.Types.length) default).Methods).getD (a2.toNat % (((a0.Types.getD (a1.toNat % a0.Types.length) default).Methods).length)) default).Code))), (11, vI ((s18_0 : Nat) : Int)), (107, vB x28)], [(0, some (.box [CV.ls c_CodeType a0.Types]))]⟩ : ASt) _
          refine aops_nil ?_
          refine aw_cond rfl (fun c29 => ?_) (fun c29 => ?_)
          · replace j23 := Md.cond_t j23 c29
            refine aw_seq (aw_region (s_sa ?_))
            refine aops_nil (aw_seq ?_)
            obtain ⟨g30, j23⟩ := Md.ifp_s j23
            obtain ⟨g31, j23⟩ := Md.ifp_s j23
            obtain ⟨g32, j23⟩ := Md.ifp_s j23
            obtain ⟨g33, j23⟩ := Md.ifp_s j23
            refine aw_seq ?_
            apply aw_draw 17 ((⟨[], .one (.ptr 0 _)⟩ : Add) :: ⟨[], .one (CV.ls c_CodeType a0.Types)⟩ :: ⟨[], .one (CV.ls c_Instr ((((a0.Types.getD (a1.toNat % a0.Types.length) default).Methods).getD (a2.toNat % (((a0.Types.getD (a1.toNat % a0.Types.length) default).Methods).length)) default).Code))⟩ :: ⟨[], vI ((s18_0 : Nat) : Int)⟩ :: ⟨[], vI (Md.W (((s18_0 : Nat) : Int) - 1))⟩ :: ⟨[], .one (.cptr _)⟩ :: ⟨[], .one (.cptr _)⟩ :: ⟨[], vI ((((((a0.Types.getD (a1.toNat % a0.Types.length) default).Methods).getD (a2.toNat % (((a0.Types.getD (a1.toNat % a0.Types.length) default).Methods).length)) default).Code).getD (((Md.W (((s18_0 : Nat) : Int) - 1))).toNat) default).A)⟩ :: ⟨[], .one (.cptr _)⟩ :: ⟨[], .one (.cptr _)⟩ :: ⟨[], .one (CV.ls c_CodeMethod ((a0.Types.getD ((((((((a0.Types.getD (a1.toNat % a0.Types.length) default).Methods).getD (a2.toNat % (((a0.Types.getD (a1.toNat % a0.Types.length) default).Methods).length)) default).Code).getD (((Md.W (((s18_0 : Nat) : Int) - 1))).toNat) default).A)).toNat) default).Methods))⟩ :: ⟨[], .one (CV.ls c_Instr ((((a0.Types.getD (a1.toNat % a0.Types.length) default).Methods).getD (a2.toNat % (((a0.Types.getD (a1.toNat % a0.Types.length) default).Methods).length)) default).Code))⟩ :: ⟨[], vI ((s18_0 : Nat) : Int)⟩ :: ⟨[], vI (Md.W (((s18_0 : Nat) : Int) - 1))⟩ :: ⟨[], .one (.cptr _)⟩ :: ⟨[], .one (.cptr _)⟩ :: ⟨[], vI ((((((a0.Types.getD (a1.toNat % a0.Types.length) default).Methods).getD (a2.toNat % (((a0.Types.getD (a1.toNat % a0.Types.length) default).Methods).length)) default).Code).getD (((Md.W (((s18_0 : Nat) : Int) - 1))).toNat) default).B)⟩ :: []) (by decide) rfl ?hk4x ?hf4x ?ho4x ?hr4x
            case ho4x =>
             refine ob [] (fun S hle hfr => .inl ⟨w0, ev_field (hle.e rfl) rfl (hle.d rfl)⟩) ?_
             refine ob [0] (fun S hle hfr => .inl ⟨w0, ev_load (hle.e rfl) (hle.heap _ _ rfl) rfl (hle.d rfl)⟩) ?_
             refine ob [] (fun S hle hfr => .inl ⟨w0, st_move (hle.e rfl) (hle.d rfl)⟩) (ob [] (fun S hle hfr => .inl ⟨w0, st_move (hle.e rfl) (hle.d rfl)⟩) ?_)
             refine ob [3] (fun S hle hfr => .inl ⟨w0, ev_sub (hle.e rfl) (hle.e rfl) (hle.d rfl) (Md.wrap_W _)⟩) ?_
             refine ob [2, 4, 3] (fun S hle hfr => .inl ⟨w0, ev_index_in (hle.e rfl) (hle.e rfl) (Md.idx_eq g30) (Md.idx_lt g30) rfl (hle.d rfl)⟩) ?_
             refine ob [5, 2, 4, 3] (fun S hle hfr => .inl ⟨w0, ev_field_in (hle.e rfl) rfl (hle.d rfl)⟩) ?_
             refine ob [6, 5, 2, 4, 3] (fun S hle hfr => .inl ⟨w0, ev_load_in (hle.e rfl) rfl (hle.d rfl)⟩) ?_
             refine ob [1, 7, 0, 6, 5, 2, 4, 3] (fun S hle hfr => .inl ⟨w0, ev_index_in (hle.e rfl) (hle.e rfl) (Md.idx_eq g31) (Md.idx_lt g31) rfl (hle.d rfl)⟩) ?_
             refine ob [8, 1, 7, 0, 6, 5, 2, 4, 3] (fun S hle hfr => .inl ⟨w0, ev_field_in (hle.e rfl) rfl (hle.d rfl)⟩) ?_
             refine ob [9, 8, 1, 7, 0, 6, 5, 2, 4, 3] (fun S hle hfr => .inl ⟨w0, ev_load_in (hle.e rfl) rfl (hle.d rfl)⟩) ?_
             refine ob [] (fun S hle hfr => .inl ⟨w0, st_move (hle.e rfl) (hle.d rfl)⟩) (ob [] (fun S hle hfr => .inl ⟨w0, st_move (hle.e rfl) (hle.d rfl)⟩) ?_)
             refine ob [12] (fun S hle hfr => .inl ⟨w0, ev_sub (hle.e rfl) (hle.e rfl) (hle.d rfl) (Md.wrap_W _)⟩) ?_
             refine ob [11, 13, 12] (fun S hle hfr => .inl ⟨w0, ev_index_in (hle.e rfl) (hle.e rfl) (Md.idx_eq g32) (Md.idx_lt g32) rfl (hle.d rfl)⟩) ?_
             refine ob [14, 11, 13, 12] (fun S hle hfr => .inl ⟨w0, ev_field_in (hle.e rfl) rfl (hle.d rfl)⟩) ?_
             refine ob [15, 14, 11, 13, 12] (fun S hle hfr => .inl ⟨w0, ev_load_in (hle.e rfl) rfl (hle.d rfl)⟩) ?_
             exact trivial
            case hk4x => rfl
            case hf4x => rfl
            refine aops_step1 rfl (ev_index_in rfl rfl (Md.idx_eq g33) (Md.idx_lt g33) rfl rfl) (aops_step1 rfl (ev_field_in rfl rfl rfl) ?_)
            refine aops_step1 rfl (ev_load_in rfl rfl rfl) (s_cm ?_)
            refine aops_nil ?_
            refine aw_cond rfl (fun c34 => ?_) (fun c34 => ?_)
            · replace j23 := Md.cond_t j23 c34
              refine aw_region (s_sa ?_)
              refine aops_nil (aw_seq (aw_region ?_))
              iterate 2 refine s_mv ?_
              obtain ⟨g35, j23⟩ := Md.ifp_s j23
              refine aops_step1 rfl (ev_index_in rfl rfl rfl g35 rfl rfl) (aops_step1 rfl (ev_load_in rfl rfl rfl) (s_mv ?_))
              refine s_cm ?_
              refine aops_nil ?_
              refine aw_cond rfl (fun c36 => ?_) (fun c36 => ?_)
              · replace j23 := Md.cond_t j23 c36
                refine aw_seq (aw_region (s_sa ?_))
                refine aops_nil ?_
                cases Option.some.inj j23
                replace l18 := Md.onS_r l18
                cases Option.some.inj l18
                replace h := Md.onS_r h
                cases Option.some.inj h
                exact aw_ret ⟨rfl, rv r1⟩
              replace j23 := Md.cond_f j23 c36
              refine aw_skip ?_
              show ∃ _x : Unit, _ = _ ∧ Weak _ _
              exact ⟨(), Option.some.inj j23, wk⟩
            replace j23 := Md.cond_f j23 c34
            refine aw_skip (aw_seq (aw_region ?_))
            iterate 2 refine s_mv ?_
            obtain ⟨g37, j23⟩ := Md.ifp_s j23
            refine aops_step1 rfl (ev_index_in rfl rfl rfl g37 rfl rfl) (aops_step1 rfl (ev_load_in rfl rfl rfl) (s_mv ?_))
            refine s_cm ?_
            refine aops_nil ?_
            refine aw_cond rfl (fun c38 => ?_) (fun c38 => ?_)
            · replace j23 := Md.cond_t j23 c38
              refine aw_seq (aw_region (s_sa ?_))
              refine aops_nil ?_
              cases Option.some.inj j23
              replace l18 := Md.onS_r l18
              cases Option.some.inj l18
              replace h := Md.onS_r h
              cases Option.some.inj h
              exact aw_ret ⟨rfl, rv r1⟩
            replace j23 := Md.cond_f j23 c38
            refine aw_skip ?_
            show ∃ _x : Unit, _ = _ ∧ Weak _ _
            exact ⟨(), Option.some.inj j23, wk⟩
          replace j23 := Md.cond_f j23 c29
          refine aw_skip ?_
          show ∃ _x : Unit, _ = _ ∧ Weak _ _
          exact ⟨(), Option.some.inj j23, wk⟩
        rcases Md.bool_or ((decide (((s18_0 : Nat) : Int) > 0))) with q28 | q28
        · replace j28 := Md.cond_t j28 q28
          iterate 2 refine y_mv q28 ?_
          refine aops_yes rfl rfl rfl rfl q28 (ev_sub rfl rfl rfl (Md.wrap_W _)) ?_
          obtain ⟨g39, j28⟩ := Md.ifp_s j28
          refine aops_yes rfl rfl rfl rfl q28 (ev_index_in rfl rfl (Md.idx_eq g39) (Md.idx_lt g39) rfl rfl) (aops_yes rfl rfl rfl rfl q28 (ev_field_in rfl rfl rfl) ?_)
          refine aops_yes rfl rfl rfl rfl q28 (ev_load_in rfl rfl rfl) (y_cm q28 ?_)
          refine s_py q28 ?_
          refine aops_nil ?_
          show ∃ _x : Bool, _ = _ ∧ Weak _ _
          exact ⟨(((((((a0.Types.getD (a1.toNat % a0.Types.length) default).Methods).getD (a2.toNat % (((a0.Types.getD (a1.toNat % a0.Types.length) default).Methods).length)) default).Code).getD (((Md.W (((s18_0 : Nat) : Int) - 1))).toNat) default).Op) == 30), Option.some.inj j28, wk⟩
        replace j28 := Md.cond_f j28 q28
        iterate 7 refine np q28 ?_
        refine s_pn q28 ?_
        refine aops_nil ?_
        show ∃ _x : Bool, _ = _ ∧ Weak _ _
        exact ⟨false, Option.some.inj j28, wk⟩
      rcases Md.bool_or ((decide ((x12.getD s18_0 default) < 0))) with q26 | q26
      · replace j26 := Md.cond_t j26 q26
        iterate 5 refine np q26 ?_
        refine s_py q26 ?_
        refine aops_nil ?_
        show ∃ _x : Bool, _ = _ ∧ Weak _ _
        exact ⟨true, Option.some.inj j26, wk⟩
      replace j26 := Md.cond_f j26 q26
      iterate 2 refine y_mv q26 ?_
      obtain ⟨g40, j26⟩ := Md.ifp_s j26
      refine aops_yes rfl rfl rfl rfl q26 (ev_index_in rfl rfl rfl g40 rfl rfl) (aops_yes rfl rfl rfl rfl q26 (ev_load_in rfl rfl rfl) (y_cm q26 ?_))
      refine s_pn q26 ?_
      refine aops_nil ?_
      show ∃ _x : Bool, _ = _ ∧ Weak _ _
      exact ⟨(decide ((x12.getD s18_0 default) > 40)), Option.some.inj j26, wk⟩
    replace l18 := Md.cond_f l18 c22
    refine aw_exit ?_
    show ∃ _x : Unit, _ = _ ∧ Weak _ _
    exact ⟨(), Option.some.inj l18, wk⟩
  rcases Md.bool_or ((!x3)) with q4 | q4
  · replace j4 := Md.cond_t j4 q4
    iterate 3 refine np q4 ?_
    refine s_py q4 ?_
    refine aops_nil ?_
    show ∃ _x : Bool, _ = _ ∧ Weak _ _
    exact ⟨true, Option.some.inj j4, wk⟩
  replace j4 := Md.cond_f j4 q4
  refine aops_yes rfl rfl rfl rfl q4 (ev_loads (ds := [_]) rfl rfl rfl rfl rfl) ?_
  obtain ⟨x41, hx41, j4⟩ := Md.bind_s j4
  refine aops_yes rfl rfl rfl rfl q4 (ev_call_v (bytecode_Verify_fn k a0 x41 hx41) rfl [] ai rfl rfl rfl (.inl rfl) rfl) (y_cm q4 ?_)
  refine s_pn q4 ?_
  refine aops_nil ?_
  show ∃ _x : Bool, _ = _ ∧ Weak _ _
  exact ⟨(x41 != 0), Option.some.inj j4, wk⟩
end Md
end Go.Proofs.Ytclffekkjfhpdaa
