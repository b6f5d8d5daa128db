import Derived.Test.YtclffekkjfhpdaaQCodeOM
import Derived.Test.YtclffekkjfhpdaaQTy
import Derived.Test.YtclffekkjfhpdaaQAbsS
import Derived.Test.YtclffekkjfhpdaaQCodeL
namespace Go.Proofs.Ytclffekkjfhpdaa
open Go.ChangeShapes Go.WideShapes Go.RowKit
open Abs
set_option linter.unusedVariables false
set_option linter.unusedSimpArgs false
set_option maxRecDepth 10000
namespace Md
set_option maxHeartbeats 2000000 in
theorem actorgridlaw20_CodeBack_fn (k : Nat) (a0 : Code) (a1 : List UInt8) (a2 : UInt16) (r : Bool) (h : actorgridlaw20_CodeBack k a0 a1 a2 = some r) : FnC Try.prog 3 [.agg [CV.ls c_CodeType a0.Types], .one (CV.ls byC a1), .one (.val (.int .u16 (a2.toNat : Int)))] [] (Det (vB r) []) := by
  unfold actorgridlaw20_CodeBack at h
  refine fn_intro' 77 Try.func3 rfl rfl rfl (aw_seq (aw_region (aops_step1 rfl (st_box 0 rfl rfl rfl rfl) (s_sa ?_))))
  refine aops_nil (aw_seq (aw_seq (aw_region ?_)))
  obtain ⟨x1, hx1, h⟩ := Md.bind_s h
  refine aops_step1 rfl (ev_call_v (actorgridlaw20_awake_fn k x1 hx1) rfl [] ai rfl rfl rfl (.inl rfl) rfl) (s_nt ?_)
  refine aops_nil ?_
  refine aw_cond rfl (fun c2 => ?_) (fun c2 => ?_)
  · replace h := Md.cond_t h c2
    refine aw_seq (aw_region (s_sa ?_))
    refine aops_nil ?_
    cases Option.some.inj h
    exact aw_ret ⟨rfl, rv r1⟩
  replace h := Md.cond_f h c2
  refine aw_skip (aw_seq (aw_seq (aw_region (s_ls [_] ?_))))
  obtain ⟨x3, hx3, h⟩ := Md.bind_s h
  refine aops_step1 rfl (ev_call_v (actorgridlaw20_Small_fn k a0 x3 hx3) rfl [] ai rfl rfl rfl (.inl rfl) rfl) (s_nt ?_)
  refine s_mv ?_
  refine aops_mid 4 (⟨77, [], [(1, .one (CV.ls byC a1)), (2, .one (.val (.int .u16 (a2.toNat : Int)))), (3, .one (.ptr 0 0)), (23, vB ((!x3) || (decide (((a1.length : Nat) : Int) > 100))))], [(0, some (.box [CV.ls c_CodeType a0.Types]))]⟩ : ASt) ?_ ?_
  · rcases Md.bool_or ((!x3)) with q4 | q4
    · skip
      iterate 3 refine np q4 ?_
      refine s_py q4 ?_
      refine aops_nil ?_
      exact wq q4
    refine y_mv q4 ?_
    refine y_ln q4 ?_
    refine y_cm q4 ?_
    refine s_pn q4 ?_
    refine aops_nil ?_
    exact wq q4
  refine s_mv ?_
  obtain ⟨o5, j5, h⟩ := Md.bind_s h
  refine aops_cut 4 (ε := Bool) (fun x5 => (⟨77, [], [(1, .one (CV.ls byC a1)), (2, .one (.val (.int .u16 (a2.toNat : Int)))), (3, .one (.ptr 0 0)), (28, vB x5)], [(0, some (.box [CV.ls c_CodeType a0.Types]))]⟩ : ASt)) (fun x5 => x5 = o5) ?_ ?_
  · intro x5 hI5
    subst hI5
    change AOps _ _ _ (⟨77, [], [(1, .one (CV.ls byC a1)), (2, .one (.val (.int .u16 (a2.toNat : Int)))), (3, .one (.ptr 0 0)), (28, vB x5)], [(0, some (.box [CV.ls c_CodeType a0.Types]))]⟩ : ASt) _
    refine aops_nil ?_
    refine aw_cond rfl (fun c6 => ?_) (fun c6 => ?_)
    · replace h := Md.cond_t h c6
      refine aw_seq (aw_region (s_sa ?_))
      refine aops_nil ?_
      cases Option.some.inj h
      exact aw_ret ⟨rfl, rv r1⟩
    replace h := Md.cond_f h c6
    refine aw_skip (aw_seq (aw_region (s_ls [_] ?_)))
    obtain ⟨x7, hx7, h⟩ := Md.bind_s h
    refine aops_step1 rfl (st_call_r (r' := .one (.own 1)) 1 rfl (bytecode_Encode_fn k a0 x7 hx7) rfl [] ai rfl rfl rfl (.inl rfl) rfl rfl) (s_sa ?_)
    refine aops_nil (aw_seq (aw_seq (aw_region (s_mv ?_))))
    refine aops_step1 rfl (ev_len_own rfl rfl rfl) (s_cm ?_)
    refine aops_nil ?_
    refine aw_cond rfl (fun c8 => ?_) (fun c8 => ?_)
    · replace h := Md.cond_t h c8
      refine aw_seq (aw_region (s_sa ?_))
      refine aops_nil ?_
      cases Option.some.inj h
      exact aw_ret ⟨rfl, rv r1⟩
    replace h := Md.cond_f h c8
    refine aw_skip (aw_seq (aw_region ?_))
    refine aops_step1 rfl (st_slice_lit (el := lsEl byC ([] : List UInt8)) 2 rfl rfl rfl rfl rfl rfl rfl rfl (lit_el byC 1 ([] : List UInt8) (fun _ => rfl)) rfl) (s_mv ?_)
    obtain ⟨g9, h⟩ := Md.ifp_s h
    refine aops_step1 rfl (st_app_ls (f := byC) ([] : List UInt8) x7 (fun _ => rfl) rfl rfl (.inr ⟨_, _, rfl, rfl⟩) (by omega) (by omega) rfl) (s_mv ?_)
    obtain ⟨g10, h⟩ := Md.ifp_s h
    refine aops_step1 rfl (st_app_ls (f := byC) (([] : List UInt8) ++ x7) a1 (fun _ => rfl) rfl rfl (.inl rfl) (by omega) (by omega) rfl) ?_
    obtain ⟨x11, hx11, h⟩ := Md.bind_s h
    refine aops_freeze 2 rfl (aops_step1 rfl (ev_call_v (bytecode_Decode_fn k ((([] : List UInt8) ++ x7) ++ a1) x11 hx11) rfl [] ai rfl rfl rfl (.inl rfl) rfl) (s_mt ?_))
    iterate 3 refine s_ex ?_
    refine aops_step1 rfl (st_alloc (cs := [.val (.slice none 0 0)]) 3 rfl rfl rfl rfl rfl) (s_st [_] ?_)
    iterate 2 refine s_sa ?_
    refine aops_nil (aw_seq (aw_region ?_))
    iterate 2 refine s_mv ?_
    refine aops_step1 rfl (st_conv_int rfl rfl Try.underlying26 Try.underlying3 (Md.conv_u16_i64 a2)) (s_mv ?_)
    refine aops_step1 rfl (ev_len_own rfl rfl rfl) ?_
    obtain ⟨g12, h⟩ := Md.ifp_s h
    refine aops_step1 rfl (ev_rem rfl rfl rfl (Md.nz g12) (Md.nat_rem _ _)) ?_
    obtain ⟨g13, h⟩ := Md.ifp_s h
    refine aops_freeze 1 rfl (aops_step1 rfl (st_cut_hi (f := byC) (fun _ => rfl) rfl ⟨_, _, rfl, rfl⟩ g13 rfl) ?_)
    obtain ⟨x14, hx14, h⟩ := Md.bind_s h
    refine aops_step1 rfl (ev_call_v (bytecode_Decode_fn k (x7.take (a2.toNat % x7.length)) x14 hx14) rfl [] ai rfl rfl rfl (.inl rfl) rfl) (s_mt ?_)
    iterate 3 refine s_ex ?_
    refine aops_step1 rfl (st_alloc (cs := [.val (.slice none 0 0)]) 4 rfl rfl rfl rfl rfl) (s_st [_] ?_)
    iterate 2 refine s_sa ?_
    refine aops_nil (aw_seq (aw_region (s_mv ?_)))
    refine s_cm ?_
    refine s_mv ?_
    refine aops_mid 5 (⟨77, [], [(3, .one (.ptr 0 0)), (8, .one (.ptr 3 0)), (12, vI x14.2.1), (13, vI x14.2.2), (63, vB ((x11.2.2 == 0) && (x11.2.1 == ((x7.length : Nat) : Int))))], [(0, some (.box [CV.ls c_CodeType a0.Types])), (3, some (.box [CV.ls c_CodeType x11.1.Types]))]⟩ : ASt) ?_ ?_
    · rcases Md.bool_or ((x11.2.2 == 0)) with q15 | q15
      · skip
        iterate 2 refine y_mv q15 ?_
        refine y_ln q15 ?_
        refine y_cm q15 ?_
        refine s_py q15 ?_
        refine aops_nil ?_
        exact wq q15
      iterate 4 refine np q15 ?_
      refine s_pn q15 ?_
      refine aops_nil ?_
      exact wq q15
    refine s_mv ?_
    obtain ⟨o16, j16, h⟩ := Md.bind_s h
    refine aops_cut 4 (ε := Bool) (fun x16 => (⟨77, [], [(12, vI x14.2.1), (13, vI x14.2.2), (68, vB x16)], []⟩ : ASt)) (fun x16 => x16 = o16) ?_ ?_
    · intro x16 hI16
      subst hI16
      change AOps _ _ _ (⟨77, [], [(12, vI x14.2.1), (13, vI x14.2.2), (68, vB x16)], []⟩ : ASt) _
      refine s_mv ?_
      refine aops_mid 3 (⟨77, [], [(12, vI x14.2.1), (72, vB (x16 && (x14.2.2 == 3)))], []⟩ : ASt) ?_ ?_
      · rcases Md.bool_or (x16) with q17 | q17
        · skip
          refine y_mv q17 ?_
          refine y_cm q17 ?_
          refine s_py q17 ?_
          refine aops_nil ?_
          exact wq q17
        iterate 2 refine np q17 ?_
        refine s_pn q17 ?_
        refine aops_nil ?_
        exact wq q17
      refine s_mv ?_
      refine aops_mid 3 (⟨77, [], [(76, vB ((x16 && (x14.2.2 == 3)) && (x14.2.1 == 0)))], []⟩ : ASt) ?_ ?_
      · rcases Md.bool_or ((x16 && (x14.2.2 == 3))) with q18 | q18
        · skip
          refine y_mv q18 ?_
          refine y_cm q18 ?_
          refine s_py q18 ?_
          refine aops_nil ?_
          exact wq q18
        iterate 2 refine np q18 ?_
        refine s_pn q18 ?_
        refine aops_nil ?_
        exact wq q18
      refine s_sa ?_
      refine aops_nil ?_
      cases Option.some.inj h
      exact aw_ret ⟨rfl, rv r1⟩
    rcases Md.bool_or (((x11.2.2 == 0) && (x11.2.1 == ((x7.length : Nat) : Int)))) with q16 | q16
    · replace j16 := Md.cond_t j16 q16
      refine aops_yes rfl rfl rfl rfl q16 (ev_loads (ds := [_]) rfl rfl rfl rfl rfl) (aops_yes rfl rfl rfl rfl q16 (ev_loads (ds := [_]) rfl rfl rfl rfl rfl) ?_)
      obtain ⟨x19, hx19, j16⟩ := Md.bind_s j16
      refine aops_yes rfl rfl rfl rfl q16 (ev_call_v (bytecode_Same_fn k a0 x11.1 x19 hx19) rfl [] ai rfl rfl rfl (.inl rfl) rfl) (s_py q16 ?_)
      refine aops_nil ?_
      show ∃ _x : Bool, _ = _ ∧ Weak _ _
      exact ⟨x19, Option.some.inj j16, wk⟩
    replace j16 := Md.cond_f j16 q16
    iterate 3 refine np q16 ?_
    refine s_pn q16 ?_
    refine aops_nil ?_
    show ∃ _x : Bool, _ = _ ∧ Weak _ _
    exact ⟨false, Option.some.inj j16, wk⟩
  rcases Md.bool_or (((!x3) || (decide (((a1.length : Nat) : Int) > 100)))) with q5 | q5
  · replace j5 := Md.cond_t j5 q5
    iterate 3 refine np q5 ?_
    refine s_py q5 ?_
    refine aops_nil ?_
    show ∃ _x : Bool, _ = _ ∧ Weak _ _
    exact ⟨true, Option.some.inj j5, wk⟩
  replace j5 := Md.cond_f j5 q5
  refine aops_yes rfl rfl rfl rfl q5 (ev_loads (ds := [_]) rfl rfl rfl rfl rfl) ?_
  obtain ⟨x20, hx20, j5⟩ := Md.bind_s j5
  refine aops_yes rfl rfl rfl rfl q5 (ev_call_v (bytecode_Verify_fn k a0 x20 hx20) rfl [] ai rfl rfl rfl (.inl rfl) rfl) (y_cm q5 ?_)
  refine s_pn q5 ?_
  refine aops_nil ?_
  show ∃ _x : Bool, _ = _ ∧ Weak _ _
  exact ⟨(x20 == 1), Option.some.inj j5, wk⟩
end Md
end Go.Proofs.Ytclffekkjfhpdaa
