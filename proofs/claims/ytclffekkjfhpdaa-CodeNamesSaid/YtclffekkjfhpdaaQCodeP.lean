import Derived.Test.YtclffekkjfhpdaaQCodePM
import Derived.Test.YtclffekkjfhpdaaQTy
import Derived.Test.YtclffekkjfhpdaaQAbsS
import Derived.Test.YtclffekkjfhpdaaQAbsG
import Derived.Test.YtclffekkjfhpdaaQCodeL
/-
  CodeP: where a function's model gives a value, the function returns what reads as it (printed by wip/tools/auto.py). Condition of each: the model gives a value.
-/
namespace Go.Proofs.Ytclffekkjfhpdaa
open Go.ChangeShapes Go.WideShapes Go.RowKit
open Abs
set_option linter.unusedVariables false
set_option linter.unusedSimpArgs false
set_option maxRecDepth 10000
namespace Md
set_option maxHeartbeats 2000000 in
theorem actorgridlaw20_CodeNames_fn (k : Nat) (a0 : Code) (a1 : UInt8) (a2 : List UInt8) (r : Bool) (h : actorgridlaw20_CodeNames k a0 a1 a2 = some r) : FnC Try.prog 4 [.agg [CV.ls c_CodeType a0.Types], .one (.val (.int .u8 (a1.toNat : Int))), .one (.val (Sv a2))] [] (Det (vB r) []) := by
  unfold actorgridlaw20_CodeNames at h
  refine fn_intro' 97 Try.func4 rfl rfl rfl (aw_seq (aw_region (aops_step1 rfl (st_box 0 rfl rfl rfl rfl) (s_sa ?_))))
  refine aops_nil (aw_seq (aw_seq (aw_region ?_)))
  obtain ⟨x1, hx1, h⟩ := Md.bind_s h
  refine aops_step1 rfl (ev_call_v (actorgridlaw20_awake_fn k x1 hx1) rfl [] ai rfl rfl rfl (.inl rfl) rfl) (s_nt ?_)
  refine aops_nil ?_
  refine aw_cond rfl (fun c2 => ?_) (fun c2 => ?_)
  · replace h := Md.cond_t h c2
    refine aw_seq (aw_region (s_sa ?_))
    refine aops_nil ?_
    cases Option.some.inj h
    exact aw_ret ⟨rfl, rv r1⟩
  replace h := Md.cond_f h c2
  refine aw_skip (aw_seq (aw_seq (aw_region (s_ls [_] ?_))))
  obtain ⟨x3, hx3, h⟩ := Md.bind_s h
  refine aops_step1 rfl (ev_call_v (actorgridlaw20_Small_fn k a0 x3 hx3) rfl [] ai rfl rfl rfl (.inl rfl) rfl) (s_nt ?_)
  refine s_mv ?_
  refine aops_mid 5 (⟨97, [], [(1, .one (.val (.int .u8 (a1.toNat : Int)))), (2, .one (.val (Sv a2))), (3, .one (.ptr 0 0)), (23, vB ((!x3) || (((a0.Types.length : Nat) : Int) == 0)))], [(0, some (.box [CV.ls c_CodeType a0.Types]))]⟩ : ASt) ?_ ?_
  · rcases Md.bool_or ((!x3)) with q4 | q4
    · skip
      iterate 4 refine np q4 ?_
      refine s_py q4 ?_
      refine aops_nil ?_
      exact wq q4
    refine y_fd q4 ?_
    refine y_ld q4 ?_
    refine y_ln q4 ?_
    refine y_cm q4 ?_
    refine s_pn q4 ?_
    refine aops_nil ?_
    exact wq q4
  refine s_mv ?_
  refine aops_mid 4 (⟨97, [], [(1, .one (.val (.int .u8 (a1.toNat : Int)))), (2, .one (.val (Sv a2))), (3, .one (.ptr 0 0)), (28, vB (((!x3) || (((a0.Types.length : Nat) : Int) == 0)) || (decide (((a2.length : Nat) : Int) < 1))))], [(0, some (.box [CV.ls c_CodeType a0.Types]))]⟩ : ASt) ?_ ?_
  · rcases Md.bool_or (((!x3) || (((a0.Types.length : Nat) : Int) == 0))) with q5 | q5
    · skip
      iterate 3 refine np q5 ?_
      refine s_py q5 ?_
      refine aops_nil ?_
      exact wq q5
    refine y_mv q5 ?_
    refine aops_yes rfl rfl rfl rfl q5 (st_len_str rfl rfl) (y_cm q5 ?_)
    refine s_pn q5 ?_
    refine aops_nil ?_
    exact wq q5
  refine s_mv ?_
  refine aops_mid 4 (⟨97, [], [(1, .one (.val (.int .u8 (a1.toNat : Int)))), (2, .one (.val (Sv a2))), (3, .one (.ptr 0 0)), (33, vB ((((!x3) || (((a0.Types.length : Nat) : Int) == 0)) || (decide (((a2.length : Nat) : Int) < 1))) || (decide (((a2.length : Nat) : Int) > 20))))], [(0, some (.box [CV.ls c_CodeType a0.Types]))]⟩ : ASt) ?_ ?_
  · rcases Md.bool_or ((((!x3) || (((a0.Types.length : Nat) : Int) == 0)) || (decide (((a2.length : Nat) : Int) < 1)))) with q6 | q6
    · skip
      iterate 3 refine np q6 ?_
      refine s_py q6 ?_
      refine aops_nil ?_
      exact wq q6
    refine y_mv q6 ?_
    refine aops_yes rfl rfl rfl rfl q6 (st_len_str rfl rfl) (y_cm q6 ?_)
    refine s_pn q6 ?_
    refine aops_nil ?_
    exact wq q6
  refine aops_nil ?_
  refine aw_cond rfl (fun c7 => ?_) (fun c7 => ?_)
  · replace h := Md.cond_t h c7
    refine aw_seq (aw_region (s_sa ?_))
    refine aops_nil ?_
    cases Option.some.inj h
    exact aw_ret ⟨rfl, rv r1⟩
  replace h := Md.cond_f h c7
  refine aw_skip (aw_seq (aw_seq (aw_region (s_sa ?_))))
  refine aops_nil (aw_block ?_)
  obtain ⟨o8, ho8, h⟩ := Md.bind_s h
  refine aw_loop_x (ι := {p : Nat × Nat // actorgridlaw20_CodeNames_loop1 k a2 p.1 p.2 = some o8}) (fun p => (⟨97, [], [(1, .one (.val (.int .u8 (a1.toNat : Int)))), (2, .one (.val (Sv a2))), (3, .one (.ptr 0 0)), (7, vI ((p.1.2 : Nat) : Int))], [(0, some (.box [CV.ls c_CodeType a0.Types]))]⟩ : ASt)) (fun p => p.1.1) ⟨(k, 0), ho8⟩ wk 0 (ε := Unit) (fun x => (⟨97, [], [(1, .one (.val (.int .u8 (a1.toNat : Int)))), (2, .one (.val (Sv a2))), (3, .one (.ptr 0 0))], [(0, some (.box [CV.ls c_CodeType a0.Types]))]⟩ : ASt)) (fun x => Sum.inl x = o8) (fun _ _ w h => aw_weak w h) ?_ ?_
  · intro x8_0 hI8
    subst hI8
    replace h := Md.onS_l h
    change AW _ _ (⟨97, [], [(1, .one (.val (.int .u8 (a1.toNat : Int)))), (2, .one (.val (Sv a2))), (3, .one (.ptr 0 0))], [(0, some (.box [CV.ls c_CodeType a0.Types]))]⟩ : ASt) _
    refine aw_seq (aw_seq (aw_region (s_ls [_] ?_)))
    refine s_mv ?_
    obtain ⟨x9, hx9, h⟩ := Md.bind_s h
    refine aops_step1 rfl (ev_call_v (bytecode_FindType_fn k a0 a2 x9 hx9) rfl [] ai rfl rfl rfl (.inl rfl) rfl) (s_mt ?_)
    iterate 2 refine s_ex ?_
    iterate 2 refine s_sa ?_
    refine aops_nil (aw_seq (aw_region (s_mv ?_)))
    refine aops_nil ?_
    refine aw_cond rfl (fun c10 => ?_) (fun c10 => ?_)
    · replace h := Md.cond_t h c10
      refine aw_seq (aw_region (s_sa ?_))
      refine aops_nil ?_
      cases Option.some.inj h
      exact aw_ret ⟨rfl, rv r1⟩
    replace h := Md.cond_f h c10
    refine aw_skip (aw_seq (aw_region (s_mv ?_)))
    refine aops_step1 rfl (st_conv_int rfl rfl Try.underlying5 Try.underlying3 (Md.conv_u8_i64 a1)) (s_fd ?_)
    refine s_ld ?_
    refine s_ln ?_
    obtain ⟨g11, h⟩ := Md.ifp_s h
    refine aops_step1 rfl (ev_rem rfl rfl rfl (Md.nz g11) (Md.nat_rem _ _)) (s_sa ?_)
    refine aops_nil (aw_seq (aw_region ?_))
    refine aops_step1 rfl (st_slice_lit (el := lsEl c_CodeType ([] : List CodeType)) 1 rfl rfl rfl rfl rfl rfl rfl rfl (lit_el c_CodeType 3 ([] : List CodeType) (fun _ => rfl)) rfl) (s_fd ?_)
    refine s_ld ?_
    obtain ⟨g12, h⟩ := Md.ifp_s h
    refine aops_step1 rfl (st_app_ls (f := c_CodeType) ([] : List CodeType) a0.Types (fun _ => rfl) rfl rfl (.inl rfl) (by omega) (by omega) rfl) ?_
    refine aops_step1 rfl (ev_build' (out := [_]) rfl rfl rfl rfl rfl) (aops_step1 rfl (st_alloc (cs := [.val (.slice none 0 0)]) 2 rfl rfl rfl rfl rfl) (s_st [_] ?_))
    refine aops_nil (aw_seq (aw_region (s_ls [_] ?_)))
    obtain ⟨x13, hx13, h⟩ := Md.bind_s h
    refine aops_step1 rfl (ev_call_v (bytecode_Verify_fn k a0 x13 hx13) rfl [] ai rfl rfl rfl (.inl rfl) rfl) (s_sa ?_)
    refine aops_nil (aw_seq (aw_region (s_fd ?_)))
    refine s_ld ?_
    iterate 2 refine s_mv ?_
    obtain ⟨g14, h⟩ := Md.ifp_s h
    refine aops_step1 rfl (ev_index_row rfl rfl rfl rfl g14 rfl) (aops_step1 rfl (ev_field_row rfl rfl rfl) ?_)
    refine aops_step1 rfl (st_store_rows (l := (([] : List CodeType) ++ a0.Types)) (f := c_CodeType) (⟨a2, (((([] : List CodeType) ++ a0.Types).getD (a1.toNat % a0.Types.length) default).Fields), (((([] : List CodeType) ++ a0.Types).getD (a1.toNat % a0.Types.length) default).Methods)⟩ : CodeType) (fun _ => rfl) rfl rfl g14 rfl rfl (by repeat' (first | exact .nil | refine .cons ?_ ?_ | exact .refl _ | exact .nil _ | fail)) rfl rfl rfl rfl rfl) ?_
    refine aops_nil (aw_seq (aw_seq (aw_region (s_mv ?_))))
    refine s_cm ?_
    refine aops_nil ?_
    refine aw_cond rfl (fun c15 => ?_) (fun c15 => ?_)
    · replace h := Md.cond_t h c15
      refine aw_seq (aw_region (s_mv ?_))
      refine s_cm ?_
      refine s_mv ?_
      obtain ⟨o16, j16, h⟩ := Md.bind_s h
      refine aops_cut 4 (ε := Bool) (fun x16 => (⟨97, [], [(84, vB x16)], []⟩ : ASt)) (fun x16 => x16 = o16) ?_ ?_
      · intro x16 hI16
        subst hI16
        change AOps _ _ _ (⟨97, [], [(84, vB x16)], []⟩ : ASt) _
        refine s_sa ?_
        refine aops_nil ?_
        cases Option.some.inj h
        exact aw_ret ⟨rfl, rv r1⟩
      rcases Md.bool_or ((x13 == 1)) with q16 | q16
      · replace j16 := Md.cond_t j16 q16
        iterate 3 refine np q16 ?_
        refine s_py q16 ?_
        refine aops_nil ?_
        show ∃ _x : Bool, _ = _ ∧ Weak _ _
        exact ⟨true, Option.some.inj j16, wk⟩
      replace j16 := Md.cond_f j16 q16
      refine aops_yes rfl rfl rfl rfl q16 (ev_loads (ds := [_]) rfl rfl rfl rfl rfl) ?_
      obtain ⟨x17, hx17, j16⟩ := Md.bind_s j16
      refine aops_freeze 1 rfl ?_
      refine aops_yes rfl rfl rfl rfl q16 (ev_call_v (bytecode_Verify_fn k (⟨((([] : List CodeType) ++ a0.Types).set (a1.toNat % a0.Types.length) (⟨a2, (((([] : List CodeType) ++ a0.Types).getD (a1.toNat % a0.Types.length) default).Fields), (((([] : List CodeType) ++ a0.Types).getD (a1.toNat % a0.Types.length) default).Methods)⟩ : CodeType))⟩ : Code) x17 hx17) rfl [] ai rfl rfl rfl (.inl rfl) rfl) (y_cm q16 ?_)
      refine s_pn q16 ?_
      refine aops_nil ?_
      show ∃ _x : Bool, _ = _ ∧ Weak _ _
      exact ⟨(x17 == 16), Option.some.inj j16, wk⟩
    replace h := Md.cond_f h c15
    refine aw_skip ?_
    obtain ⟨x18, hx18, h⟩ := Md.bind_s h
    rcases Md.bool_or ((x18 == 0)) with q19 | q19
    · replace h := Md.cond_t h q19
      obtain ⟨x20, hx20, h⟩ := Md.bind_s h
      obtain ⟨x21, hx21, h⟩ := Md.bind_s h
      obtain ⟨x22, hx22, h⟩ := Md.bind_s h
      refine aw_freeze 1 rfl (aw_seq ?_)
      apply aw_draw 9 ((⟨[], .agg [CV.ls c_CodeType ((([] : List CodeType) ++ a0.Types).set (a1.toNat % a0.Types.length) (⟨a2, (((([] : List CodeType) ++ a0.Types).getD (a1.toNat % a0.Types.length) default).Fields), (((([] : List CodeType) ++ a0.Types).getD (a1.toNat % a0.Types.length) default).Methods)⟩ : CodeType))]⟩ : Add) :: ⟨[], vI x18⟩ :: ⟨[], vB (x18 == 0)⟩ :: ⟨[], vB (x18 == 0)⟩ :: ⟨[], .agg [CV.ls c_CodeType a0.Types]⟩ :: ⟨[], vI (((a1.toNat % a0.Types.length) : Nat) : Int)⟩ :: ⟨[], .one (CV.ls c_Int x20)⟩ :: ⟨[], .agg [CV.ls c_CodeType ((([] : List CodeType) ++ a0.Types).set (a1.toNat % a0.Types.length) (⟨a2, (((([] : List CodeType) ++ a0.Types).getD (a1.toNat % a0.Types.length) default).Fields), (((([] : List CodeType) ++ a0.Types).getD (a1.toNat % a0.Types.length) default).Methods)⟩ : CodeType))]⟩ :: ⟨[], vI (((a1.toNat % a0.Types.length) : Nat) : Int)⟩ :: []) (by decide) rfl ?hk1x ?hf1x ?ho1x ?hr1x
      case ho1x =>
       refine ob [] (fun S hle hfr => .inl ⟨w0, ev_loads (ds := [_]) (hle.e rfl) (hle.heap _ _ rfl) rfl rfl (hle.d rfl)⟩) ?_
       refine ob [0] (fun S hle hfr => .inl ⟨w0, ev_call_v (bytecode_Verify_fn k (⟨((([] : List CodeType) ++ a0.Types).set (a1.toNat % a0.Types.length) (⟨a2, (((([] : List CodeType) ++ a0.Types).getD (a1.toNat % a0.Types.length) default).Fields), (((([] : List CodeType) ++ a0.Types).getD (a1.toNat % a0.Types.length) default).Methods)⟩ : CodeType))⟩ : Code) x18 hx18) (map_ev (.cons (hle.e rfl) (.nil))) [] (by repeat' (first | exact .nil | refine .cons ?_ ?_ | refine .one ?_ | refine .agg ?_ | exact .mk rfl | exact .lend (hle.heap _ _ rfl) (by simp) | exact .le (.nil _) rfl | exact .le (.emp _) rfl | exact .le (.any _) rfl | fail)) rfl rfl rfl (.inl rfl) (hle.d rfl)⟩) ?_
       refine ob [1, 0] (fun S hle hfr => .inl ⟨w0, ev_cmp (hle.e rfl) (hle.e rfl) (hle.d rfl) rfl⟩) ?_
       refine ob [2, 1, 0] (fun S hle hfr => .inl ⟨w0, st_move (hle.e rfl) (hle.d rfl)⟩) ?_
       refine ob [3, 2, 1, 0] (fun S hle hfr => .inl ⟨wy hle q19, ev_loads (ds := [_]) (hle.e rfl) (hle.heap _ _ rfl) rfl rfl (hle.d rfl)⟩) ?_
       refine ob [3, 2, 1, 0] (fun S hle hfr => .inl ⟨wy hle q19, st_move (hle.e rfl) (hle.d rfl)⟩) ?_
       refine ob [4, 5, 3, 2, 1, 0] (fun S hle hfr => .inl ⟨wy hle q19, st_call_z (bytecode_Depth_fn k a0 (((a1.toNat % a0.Types.length) : Nat) : Int) 0 x20 hx20) (map_ev (.cons (hle.e rfl) (.cons (hle.e rfl) (.cons (hle.e rfl) (.nil))))) [] (fun _ => (by repeat' (first | exact .nil | refine .cons ?_ ?_ | refine .one ?_ | refine .agg ?_ | exact .mk rfl | exact .lend (hle.heap _ _ rfl) (by simp) | exact .le (.nil _) rfl | exact .le (.emp _) rfl | exact .le (.any _) rfl | fail))) rfl (.inl rfl) (hle.d rfl)⟩) ?_
       refine ob [3, 2, 1, 0] (fun S hle hfr => .inl ⟨wy hle q19, ev_loads (ds := [_]) (hle.e rfl) (hle.heap _ _ rfl) rfl rfl (hle.d rfl)⟩) ?_
       refine ob [3, 2, 1, 0] (fun S hle hfr => .inl ⟨wy hle q19, st_move (hle.e rfl) (hle.d rfl)⟩) ?_
       exact trivial
      case hk1x => rfl
      case hf1x => rfl
      refine aops_yes rfl rfl rfl rfl q19 (st_call_z (bytecode_Depth_fn k (⟨((([] : List CodeType) ++ a0.Types).set (a1.toNat % a0.Types.length) (⟨a2, (((([] : List CodeType) ++ a0.Types).getD (a1.toNat % a0.Types.length) default).Fields), (((([] : List CodeType) ++ a0.Types).getD (a1.toNat % a0.Types.length) default).Methods)⟩ : CodeType))⟩ : Code) (((a1.toNat % a0.Types.length) : Nat) : Int) 0 x21 hx21) rfl [] (fun _ => ai) rfl (.inl rfl) rfl) ?_
      refine aops_yes rfl rfl rfl rfl q19 (ev_call_v (actorgridref1_SameInts_fn k x20 x21 x22 hx22) rfl [] ai rfl rfl rfl (.inl rfl) rfl) (s_py q19 ?_)
      refine s_sa ?_
      refine aops_nil ?_
      cases Option.some.inj h
      exact aw_ret ⟨rfl, rv r1⟩
    replace h := Md.cond_f h q19
    refine aw_freeze 1 rfl (aw_seq ?_)
    apply aw_draw 9 ((⟨[], .agg [CV.ls c_CodeType ((([] : List CodeType) ++ a0.Types).set (a1.toNat % a0.Types.length) (⟨a2, (((([] : List CodeType) ++ a0.Types).getD (a1.toNat % a0.Types.length) default).Fields), (((([] : List CodeType) ++ a0.Types).getD (a1.toNat % a0.Types.length) default).Methods)⟩ : CodeType))]⟩ : Add) :: ⟨[], vI x18⟩ :: ⟨[], vB (x18 == 0)⟩ :: ⟨[], vB (x18 == 0)⟩ :: ⟨[], .tup []⟩ :: ⟨[], .tup []⟩ :: ⟨[], .tup []⟩ :: ⟨[], .tup []⟩ :: ⟨[], .tup []⟩ :: []) (by decide) rfl ?hk2x ?hf2x ?ho2x ?hr2x
    case ho2x =>
     refine ob [] (fun S hle hfr => .inl ⟨w0, ev_loads (ds := [_]) (hle.e rfl) (hle.heap _ _ rfl) rfl rfl (hle.d rfl)⟩) ?_
     refine ob [0] (fun S hle hfr => .inl ⟨w0, ev_call_v (bytecode_Verify_fn k (⟨((([] : List CodeType) ++ a0.Types).set (a1.toNat % a0.Types.length) (⟨a2, (((([] : List CodeType) ++ a0.Types).getD (a1.toNat % a0.Types.length) default).Fields), (((([] : List CodeType) ++ a0.Types).getD (a1.toNat % a0.Types.length) default).Methods)⟩ : CodeType))⟩ : Code) x18 hx18) (map_ev (.cons (hle.e rfl) (.nil))) [] (by repeat' (first | exact .nil | refine .cons ?_ ?_ | refine .one ?_ | refine .agg ?_ | exact .mk rfl | exact .lend (hle.heap _ _ rfl) (by simp) | exact .le (.nil _) rfl | exact .le (.emp _) rfl | exact .le (.any _) rfl | fail)) rfl rfl rfl (.inl rfl) (hle.d rfl)⟩) ?_
     refine ob [1, 0] (fun S hle hfr => .inl ⟨w0, ev_cmp (hle.e rfl) (hle.e rfl) (hle.d rfl) rfl⟩) ?_
     refine ob [2, 1, 0] (fun S hle hfr => .inl ⟨w0, st_move (hle.e rfl) (hle.d rfl)⟩) (ob [3, 2, 1, 0] (fun S hle hfr => nw hle q19) ?_)
     refine ob [3, 2, 1, 0] (fun S hle hfr => nw hle q19) (ob [4, 5, 3, 2, 1, 0] (fun S hle hfr => nw hle q19) (ob [3, 2, 1, 0] (fun S hle hfr => nw hle q19) ?_))
     refine ob [3, 2, 1, 0] (fun S hle hfr => nw hle q19) ?_
     exact trivial
    case hk2x => rfl
    case hf2x => rfl
    iterate 2 refine np q19 ?_
    refine s_pn q19 ?_
    refine s_sa ?_
    refine aops_nil ?_
    cases Option.some.inj h
    exact aw_ret ⟨rfl, rv r1⟩
  intro p8
  obtain ⟨⟨n8, s8_0⟩, l8⟩ := p8
  change AW _ _ (⟨97, [], [(1, .one (.val (.int .u8 (a1.toNat : Int)))), (2, .one (.val (Sv a2))), (3, .one (.ptr 0 0)), (7, vI ((s8_0 : Nat) : Int))], [(0, some (.box [CV.ls c_CodeType a0.Types]))]⟩ : ASt) _
  replace l8 : actorgridlaw20_CodeNames_loop1 k a2 n8 s8_0 = some o8 := l8
  rcases n8 with _ | n8
  · exact absurd (show none = some o8 from l8) nofun
  rw [actorgridlaw20_CodeNames_loop1] at l8
  refine aw_seq (aw_seq (aw_region ?_))
  iterate 2 refine s_mv ?_
  refine aops_step1 rfl (st_len_str rfl rfl) (s_cm ?_)
  refine aops_nil ?_
  refine aw_cond rfl (fun c23 => ?_) (fun c23 => ?_)
  · replace l8 := Md.cond_t l8 c23
    refine aw_skip (aw_seq (aw_block (aw_seq (aw_region ?_))))
    iterate 2 refine s_mv ?_
    obtain ⟨g24, l8⟩ := Md.ifp_s l8
    refine aops_step1 rfl (st_index_str rfl rfl rfl g24 rfl) (s_cm ?_)
    refine s_mv ?_
    obtain ⟨o25, j25, l8⟩ := Md.bind_s l8
    refine aops_cut 5 (ε := Bool) (fun x25 => (⟨97, [], [(1, .one (.val (.int .u8 (a1.toNat : Int)))), (2, .one (.val (Sv a2))), (3, .one (.ptr 0 0)), (7, vI ((s8_0 : Nat) : Int)), (49, vB x25)], [(0, some (.box [CV.ls c_CodeType a0.Types]))]⟩ : ASt)) (fun x25 => x25 = o25) ?_ ?_
    · intro x25 hI25
      subst hI25
      change AOps _ _ _ (⟨97, [], [(1, .one (.val (.int .u8 (a1.toNat : Int)))), (2, .one (.val (Sv a2))), (3, .one (.ptr 0 0)), (7, vI ((s8_0 : Nat) : Int)), (49, vB x25)], [(0, some (.box [CV.ls c_CodeType a0.Types]))]⟩ : ASt) _
      refine aops_nil ?_
      refine aw_cond rfl (fun c26 => ?_) (fun c26 => ?_)
      · replace l8 := Md.cond_t l8 c26
        refine aw_seq (aw_region (s_sa ?_))
        refine aops_nil ?_
        cases Option.some.inj l8
        replace h := Md.onS_r h
        cases Option.some.inj h
        exact aw_ret ⟨rfl, rv r1⟩
      replace l8 := Md.cond_f l8 c26
      refine aw_skip (aw_region (s_mv ?_))
      obtain ⟨g27, l8⟩ := Md.ifp_s l8
      refine aops_step1 rfl (ev_add rfl rfl rfl (Md.nat_add g27)) (s_sa ?_)
      refine aops_nil ?_
      exact ⟨⟨(n8, (s8_0 + 1)), l8⟩, Nat.lt_succ_self _, wk⟩
    rcases Md.bool_or ((decide ((((a2.getD s8_0 0)).toNat : Int) < 65))) with q25 | q25
    · replace j25 := Md.cond_t j25 q25
      iterate 4 refine np q25 ?_
      refine s_py q25 ?_
      refine aops_nil ?_
      show ∃ _x : Bool, _ = _ ∧ Weak _ _
      exact ⟨true, Option.some.inj j25, wk⟩
    replace j25 := Md.cond_f j25 q25
    iterate 2 refine y_mv q25 ?_
    obtain ⟨g28, j25⟩ := Md.ifp_s j25
    refine aops_yes rfl rfl rfl rfl q25 (st_index_str rfl rfl rfl g28 rfl) (y_cm q25 ?_)
    refine s_pn q25 ?_
    refine aops_nil ?_
    show ∃ _x : Bool, _ = _ ∧ Weak _ _
    exact ⟨(decide ((((a2.getD s8_0 0)).toNat : Int) > 90)), Option.some.inj j25, wk⟩
  replace l8 := Md.cond_f l8 c23
  refine aw_exit ?_
  show ∃ _x : Unit, _ = _ ∧ Weak _ _
  exact ⟨(), Option.some.inj l8, wk⟩
end Md
end Go.Proofs.Ytclffekkjfhpdaa
