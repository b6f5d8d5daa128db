/-
  LexL: where a function's model gives a value, the function returns what reads as it (printed by wip/tools/auto.py). Condition of each: the model gives a value.
-/
import Derived.Test.YtjpiiejdaiaocaaDoorLexLM
import Derived.Test.YtjpiiejdaiaocaaDoorTy
import Derived.Test.YtjpiiejdaiaocaaDoorAbsS
import Derived.Test.YtjpiiejdaiaocaaDoorLexE
namespace Go.Proofs.YtjpiiejdaiaocaaDoor
open Go.ChangeShapes Go.WideShapes Go.RowKit
open Abs
set_option linter.unusedVariables false
set_option linter.unusedSimpArgs false
set_option maxRecDepth 10000
namespace Md
set_option maxHeartbeats 2000000 in
theorem actorgridlaw17_LexTells_fn (k : Nat) (a0 : List UInt8) (a1 : List UInt8) (r : Bool) (h : actorgridlaw17_LexTells k a0 a1 = some r) : FnC Tryd.prog 9 [.one (.val (Sv a0)), .one (.val (Sv a1))] [] (Det (vB r) []) := by
  unfold actorgridlaw17_LexTells at h
  refine fn_intro' 67 Tryd.func9 rfl rfl rfl (aw_seq (aw_region (s_sa ?_)))
  refine aops_nil (aw_seq (aw_seq (aw_region ?_)))
  obtain ⟨x1, hx1, h⟩ := Md.bind_s h
  refine aops_step1 rfl (ev_call_v (actorgridlaw17_awake_fn k x1 hx1) rfl [] ai rfl rfl rfl (.inl rfl) rfl) (s_nt ?_)
  refine aops_nil ?_
  refine aw_cond rfl (fun c2 => ?_) (fun c2 => ?_)
  · replace h := Md.cond_t h c2
    refine aw_seq (aw_region (s_sa ?_))
    refine aops_nil ?_
    cases Option.some.inj h
    exact aw_ret ⟨rfl, rv r1⟩
  replace h := Md.cond_f h c2
  refine aw_skip (aw_seq (aw_seq (aw_region (s_mv ?_))))
  refine aops_step1 rfl (st_len_str rfl rfl) (s_cm ?_)
  refine s_mv ?_
  refine aops_mid 4 (⟨67, [], [(0, .one (.val (Sv a0))), (1, .one (.val (Sv a1))), (20, vB ((decide (((a0.length : Nat) : Int) > 8000)) || (decide (((a1.length : Nat) : Int) > 1000))))], []⟩ : ASt) ?_ ?_
  · rcases Md.bool_or ((decide (((a0.length : Nat) : Int) > 8000))) with q3 | q3
    · skip
      iterate 3 refine np q3 ?_
      refine s_py q3 ?_
      refine aops_nil ?_
      exact wq q3
    refine y_mv q3 ?_
    refine aops_yes rfl rfl rfl rfl q3 (st_len_str rfl rfl) (y_cm q3 ?_)
    refine s_pn q3 ?_
    refine aops_nil ?_
    exact wq q3
  refine aops_nil ?_
  refine aw_cond rfl (fun c4 => ?_) (fun c4 => ?_)
  · replace h := Md.cond_t h c4
    refine aw_seq (aw_region (s_sa ?_))
    refine aops_nil ?_
    cases Option.some.inj h
    exact aw_ret ⟨rfl, rv r1⟩
  replace h := Md.cond_f h c4
  refine aw_skip (aw_seq (aw_region (s_mv ?_)))
  obtain ⟨x5, hx5, h⟩ := Md.bind_s h
  refine aops_step1 rfl (ev_call_v (lexer_Tokens_fn k a0 x5 hx5) rfl [] ai rfl rfl rfl (.inl rfl) rfl) (s_mt ?_)
  iterate 3 refine s_ex ?_
  iterate 3 refine s_sa ?_
  refine aops_nil (aw_seq (aw_region (s_mv ?_)))
  obtain ⟨x6, hx6, h⟩ := Md.bind_s h
  refine aops_step1 rfl (ev_call_v (actorgridref17_Tokens_fn k a0 x6 hx6) rfl [] ai rfl rfl rfl (.inl rfl) rfl) (s_mt ?_)
  iterate 3 refine s_ex ?_
  iterate 3 refine s_sa ?_
  refine aops_nil (aw_seq (aw_region ?_))
  iterate 2 refine s_mv ?_
  obtain ⟨x7, hx7, h⟩ := Md.bind_s h
  refine aops_step1 rfl (ev_call_v (actorgridref17_Same_fn k x5.1 x6.1 x7 hx7) rfl [] ai rfl rfl rfl (.inl rfl) rfl) (s_mv ?_)
  refine aops_mid 4 (⟨67, [], [(1, .one (.val (Sv a1))), (7, vI x5.2.2), (10, vI x6.2.2), (40, vB (x7 && (x5.2.1 == x6.2.1)))], []⟩ : ASt) ?_ ?_
  · rcases Md.bool_or (x7) with q8 | q8
    · skip
      iterate 2 refine y_mv q8 ?_
      refine y_cm q8 ?_
      refine s_py q8 ?_
      refine aops_nil ?_
      exact wq q8
    iterate 3 refine np q8 ?_
    refine s_pn q8 ?_
    refine aops_nil ?_
    exact wq q8
  refine s_mv ?_
  refine aops_mid 4 (⟨67, [], [(1, .one (.val (Sv a1))), (45, vB ((x7 && (x5.2.1 == x6.2.1)) && (x5.2.2 == x6.2.2)))], []⟩ : ASt) ?_ ?_
  · rcases Md.bool_or ((x7 && (x5.2.1 == x6.2.1))) with q9 | q9
    · skip
      iterate 2 refine y_mv q9 ?_
      refine y_cm q9 ?_
      refine s_py q9 ?_
      refine aops_nil ?_
      exact wq q9
    iterate 3 refine np q9 ?_
    refine s_pn q9 ?_
    refine aops_nil ?_
    exact wq q9
  refine s_mv ?_
  obtain ⟨o10, j10, h⟩ := Md.bind_s h
  refine aops_cut 6 (ε := Bool) (fun x10 => (⟨67, [], [(1, .one (.val (Sv a1))), (52, vB x10)], []⟩ : ASt)) (fun x10 => x10 = o10) ?_ ?_
  · intro x10 hI10
    subst hI10
    change AOps _ _ _ (⟨67, [], [(1, .one (.val (Sv a1))), (52, vB x10)], []⟩ : ASt) _
    refine s_mv ?_
    obtain ⟨o11, j11, h⟩ := Md.bind_s h
    refine aops_cut 6 (ε := Bool) (fun x11 => (⟨67, [], [(1, .one (.val (Sv a1))), (59, vB x11)], []⟩ : ASt)) (fun x11 => x11 = o11) ?_ ?_
    · intro x11 hI11
      subst hI11
      change AOps _ _ _ (⟨67, [], [(1, .one (.val (Sv a1))), (59, vB x11)], []⟩ : ASt) _
      refine s_mv ?_
      obtain ⟨o12, j12, h⟩ := Md.bind_s h
      refine aops_cut 6 (ε := Bool) (fun x12 => (⟨67, [], [(66, vB x12)], []⟩ : ASt)) (fun x12 => x12 = o12) ?_ ?_
      · intro x12 hI12
        subst hI12
        change AOps _ _ _ (⟨67, [], [(66, vB x12)], []⟩ : ASt) _
        refine s_sa ?_
        refine aops_nil ?_
        cases Option.some.inj h
        exact aw_ret ⟨rfl, rv r1⟩
      rcases Md.bool_or (x11) with q12 | q12
      · replace j12 := Md.cond_t j12 q12
        refine y_mv q12 ?_
        obtain ⟨x13, hx13, j12⟩ := Md.bind_s j12
        refine aops_yes rfl rfl rfl rfl q12 (ev_call_v (lexer_Quote_fn k a1 x13 hx13) rfl [] ai rfl rfl rfl (.inl rfl) rfl) (y_mv q12 ?_)
        obtain ⟨x14, hx14, j12⟩ := Md.bind_s j12
        refine aops_yes rfl rfl rfl rfl q12 (ev_call_v (actorgridref17_Quote_fn k a1 x14 hx14) rfl [] ai rfl rfl rfl (.inl rfl) rfl) ?_
        refine aops_yes rfl rfl rfl rfl q12 (st_str_eq rfl rfl rfl) (s_py q12 ?_)
        refine aops_nil ?_
        show ∃ _x : Bool, _ = _ ∧ Weak _ _
        exact ⟨(decide (x13 = x14)), Option.some.inj j12, wk⟩
      replace j12 := Md.cond_f j12 q12
      iterate 5 refine np q12 ?_
      refine s_pn q12 ?_
      refine aops_nil ?_
      show ∃ _x : Bool, _ = _ ∧ Weak _ _
      exact ⟨false, Option.some.inj j12, wk⟩
    rcases Md.bool_or (x10) with q11 | q11
    · replace j11 := Md.cond_t j11 q11
      refine y_mv q11 ?_
      obtain ⟨x15, hx15, j11⟩ := Md.bind_s j11
      refine aops_yes rfl rfl rfl rfl q11 (ev_call_v (lexer_IsKeyword_fn k a1 x15 hx15) rfl [] ai rfl rfl rfl (.inl rfl) rfl) (y_mv q11 ?_)
      obtain ⟨x16, hx16, j11⟩ := Md.bind_s j11
      refine aops_yes rfl rfl rfl rfl q11 (ev_call_v (actorgridref17_IsKeyword_fn k a1 x16 hx16) rfl [] ai rfl rfl rfl (.inl rfl) rfl) ?_
      refine aops_yes rfl rfl rfl rfl q11 (ev_bool_eq rfl rfl rfl Tryd.underlying4 rfl) (s_py q11 ?_)
      refine aops_nil ?_
      show ∃ _x : Bool, _ = _ ∧ Weak _ _
      exact ⟨(x15 == x16), Option.some.inj j11, wk⟩
    replace j11 := Md.cond_f j11 q11
    iterate 5 refine np q11 ?_
    refine s_pn q11 ?_
    refine aops_nil ?_
    show ∃ _x : Bool, _ = _ ∧ Weak _ _
    exact ⟨false, Option.some.inj j11, wk⟩
  rcases Md.bool_or (((x7 && (x5.2.1 == x6.2.1)) && (x5.2.2 == x6.2.2))) with q10 | q10
  · replace j10 := Md.cond_t j10 q10
    refine y_mv q10 ?_
    obtain ⟨x17, hx17, j10⟩ := Md.bind_s j10
    refine aops_yes rfl rfl rfl rfl q10 (ev_call_v (lexer_IsName_fn k a1 x17 hx17) rfl [] ai rfl rfl rfl (.inl rfl) rfl) (y_mv q10 ?_)
    obtain ⟨x18, hx18, j10⟩ := Md.bind_s j10
    refine aops_yes rfl rfl rfl rfl q10 (ev_call_v (actorgridref17_IsName_fn k a1 x18 hx18) rfl [] ai rfl rfl rfl (.inl rfl) rfl) ?_
    refine aops_yes rfl rfl rfl rfl q10 (ev_bool_eq rfl rfl rfl Tryd.underlying4 rfl) (s_py q10 ?_)
    refine aops_nil ?_
    show ∃ _x : Bool, _ = _ ∧ Weak _ _
    exact ⟨(x17 == x18), Option.some.inj j10, wk⟩
  replace j10 := Md.cond_f j10 q10
  iterate 5 refine np q10 ?_
  refine s_pn q10 ?_
  refine aops_nil ?_
  show ∃ _x : Bool, _ = _ ∧ Weak _ _
  exact ⟨false, Option.some.inj j10, wk⟩
end Md
end Go.Proofs.YtjpiiejdaiaocaaDoor
