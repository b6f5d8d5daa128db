/-
  LexD: where a function's model gives a value, the function returns what reads as it (printed by wip/tools/auto.py). Condition of each: the model gives a value.
-/
import Derived.Test.YtjpiiejdaiaocaaDoorLexDM
import Derived.Test.YtjpiiejdaiaocaaDoorTy
import Derived.Test.YtjpiiejdaiaocaaDoorAbsS
import Derived.Test.YtjpiiejdaiaocaaDoorLexC
namespace Go.Proofs.YtjpiiejdaiaocaaDoor
open Go.ChangeShapes Go.WideShapes Go.RowKit
open Abs
set_option linter.unusedVariables false
set_option linter.unusedSimpArgs false
set_option maxRecDepth 10000
namespace Md
set_option maxHeartbeats 2000000 in
theorem actorgridlaw17_awake_fn (k : Nat) (r : Bool) (h : actorgridlaw17_awake k = some r) : FnC Tryd.prog 28 [] [] (Det (vB r) []) := by
  unfold actorgridlaw17_awake at h
  refine fn_intro' 78 Tryd.func28 rfl rfl rfl (aw_seq (aw_region (s_sa ?_)))
  refine aops_nil (aw_seq (aw_region ?_))
  obtain ⟨x1, hx1, h⟩ := Md.bind_s h
  refine aops_step1 rfl (ev_call_v (lexer_Tokens_fn k ([120, 32, 60, 61, 32, 49, 48, 59, 32, 47, 47, 32, 101, 110, 100] : List UInt8) x1 hx1) rfl [] ai rfl rfl rfl (.inl rfl) rfl) (s_mt ?_)
  iterate 3 refine s_ex ?_
  iterate 3 refine s_sa ?_
  refine aops_nil (aw_seq (aw_region ?_))
  obtain ⟨x2, hx2, h⟩ := Md.bind_s h
  refine aops_step1 rfl (ev_call_v (lexer_Tokens_fn k ([97, 32, 48, 48, 55] : List UInt8) x2 hx2) rfl [] ai rfl rfl rfl (.inl rfl) rfl) (s_mt ?_)
  iterate 3 refine s_ex ?_
  iterate 3 refine s_sa ?_
  refine aops_nil (aw_seq (aw_region (s_mv ?_)))
  refine s_cm ?_
  refine s_mv ?_
  refine aops_mid 3 (⟨78, [], [(0, vB false), (1, .one (CV.ls c_Token x1.1)), (5, vI x2.2.1), (6, vI x2.2.2), (22, vB ((x1.2.2 == 0) && (x1.2.1 == 0)))], []⟩ : ASt) ?_ ?_
  · rcases Md.bool_or ((x1.2.2 == 0)) with q3 | q3
    · skip
      refine y_mv q3 ?_
      refine y_cm q3 ?_
      refine s_py q3 ?_
      refine aops_nil ?_
      exact wq q3
    iterate 2 refine np q3 ?_
    refine s_pn q3 ?_
    refine aops_nil ?_
    exact wq q3
  refine s_mv ?_
  refine aops_mid 4 (⟨78, [], [(0, vB false), (1, .one (CV.ls c_Token x1.1)), (5, vI x2.2.1), (6, vI x2.2.2), (27, vB (((x1.2.2 == 0) && (x1.2.1 == 0)) && (((x1.1.length : Nat) : Int) == 4)))], []⟩ : ASt) ?_ ?_
  · rcases Md.bool_or (((x1.2.2 == 0) && (x1.2.1 == 0))) with q4 | q4
    · skip
      refine y_mv q4 ?_
      refine y_ln q4 ?_
      refine y_cm q4 ?_
      refine s_py q4 ?_
      refine aops_nil ?_
      exact wq q4
    iterate 3 refine np q4 ?_
    refine s_pn q4 ?_
    refine aops_nil ?_
    exact wq q4
  refine s_mv ?_
  obtain ⟨o5, j5, h⟩ := Md.bind_s h
  refine aops_cut 6 (ε := Bool) (fun x5 => (⟨78, [], [(0, vB false), (1, .one (CV.ls c_Token x1.1)), (5, vI x2.2.1), (6, vI x2.2.2), (34, vB x5)], []⟩ : ASt)) (fun x5 => x5 = o5) ?_ ?_
  · intro x5 hI5
    subst hI5
    change AOps _ _ _ (⟨78, [], [(0, vB false), (1, .one (CV.ls c_Token x1.1)), (5, vI x2.2.1), (6, vI x2.2.2), (34, vB x5)], []⟩ : ASt) _
    refine s_mv ?_
    obtain ⟨o6, j6, h⟩ := Md.bind_s h
    refine aops_cut 6 (ε := Bool) (fun x6 => (⟨78, [], [(0, vB false), (1, .one (CV.ls c_Token x1.1)), (5, vI x2.2.1), (6, vI x2.2.2), (41, vB x6)], []⟩ : ASt)) (fun x6 => x6 = o6) ?_ ?_
    · intro x6 hI6
      subst hI6
      change AOps _ _ _ (⟨78, [], [(0, vB false), (1, .one (CV.ls c_Token x1.1)), (5, vI x2.2.1), (6, vI x2.2.2), (41, vB x6)], []⟩ : ASt) _
      refine s_mv ?_
      obtain ⟨o7, j7, h⟩ := Md.bind_s h
      refine aops_cut 6 (ε := Bool) (fun x7 => (⟨78, [], [(0, vB false), (1, .one (CV.ls c_Token x1.1)), (5, vI x2.2.1), (6, vI x2.2.2), (48, vB x7)], []⟩ : ASt)) (fun x7 => x7 = o7) ?_ ?_
      · intro x7 hI7
        subst hI7
        change AOps _ _ _ (⟨78, [], [(0, vB false), (1, .one (CV.ls c_Token x1.1)), (5, vI x2.2.1), (6, vI x2.2.2), (48, vB x7)], []⟩ : ASt) _
        refine s_mv ?_
        obtain ⟨o8, j8, h⟩ := Md.bind_s h
        refine aops_cut 6 (ε := Bool) (fun x8 => (⟨78, [], [(0, vB false), (5, vI x2.2.1), (6, vI x2.2.2), (55, vB x8)], []⟩ : ASt)) (fun x8 => x8 = o8) ?_ ?_
        · intro x8 hI8
          subst hI8
          change AOps _ _ _ (⟨78, [], [(0, vB false), (5, vI x2.2.1), (6, vI x2.2.2), (55, vB x8)], []⟩ : ASt) _
          refine s_mv ?_
          refine aops_mid 3 (⟨78, [], [(0, vB false), (5, vI x2.2.1), (59, vB (x8 && (x2.2.2 == 13)))], []⟩ : ASt) ?_ ?_
          · rcases Md.bool_or (x8) with q9 | q9
            · skip
              refine y_mv q9 ?_
              refine y_cm q9 ?_
              refine s_py q9 ?_
              refine aops_nil ?_
              exact wq q9
            iterate 2 refine np q9 ?_
            refine s_pn q9 ?_
            refine aops_nil ?_
            exact wq q9
          refine s_mv ?_
          refine aops_mid 3 (⟨78, [], [(0, vB false), (63, vB ((x8 && (x2.2.2 == 13)) && (x2.2.1 == 2)))], []⟩ : ASt) ?_ ?_
          · rcases Md.bool_or ((x8 && (x2.2.2 == 13))) with q10 | q10
            · skip
              refine y_mv q10 ?_
              refine y_cm q10 ?_
              refine s_py q10 ?_
              refine aops_nil ?_
              exact wq q10
            iterate 2 refine np q10 ?_
            refine s_pn q10 ?_
            refine aops_nil ?_
            exact wq q10
          refine s_mv ?_
          obtain ⟨o11, j11, h⟩ := Md.bind_s h
          refine aops_cut 3 (ε := Bool) (fun x11 => (⟨78, [], [(0, vB false), (67, vB x11)], []⟩ : ASt)) (fun x11 => x11 = o11) ?_ ?_
          · intro x11 hI11
            subst hI11
            change AOps _ _ _ (⟨78, [], [(0, vB false), (67, vB x11)], []⟩ : ASt) _
            refine s_mv ?_
            obtain ⟨o12, j12, h⟩ := Md.bind_s h
            refine aops_cut 2 (ε := Bool) (fun x12 => (⟨78, [], [(0, vB false), (70, vB x12)], []⟩ : ASt)) (fun x12 => x12 = o12) ?_ ?_
            · intro x12 hI12
              subst hI12
              change AOps _ _ _ (⟨78, [], [(0, vB false), (70, vB x12)], []⟩ : ASt) _
              refine s_mv ?_
              obtain ⟨o13, j13, h⟩ := Md.bind_s h
              refine aops_cut 2 (ε := Bool) (fun x13 => (⟨78, [], [(0, vB false), (73, vB x13)], []⟩ : ASt)) (fun x13 => x13 = o13) ?_ ?_
              · intro x13 hI13
                subst hI13
                change AOps _ _ _ (⟨78, [], [(0, vB false), (73, vB x13)], []⟩ : ASt) _
                refine s_mv ?_
                obtain ⟨o14, j14, h⟩ := Md.bind_s h
                refine aops_cut 3 (ε := Bool) (fun x14 => (⟨78, [], [(0, vB false), (77, vB x14)], []⟩ : ASt)) (fun x14 => x14 = o14) ?_ ?_
                · intro x14 hI14
                  subst hI14
                  change AOps _ _ _ (⟨78, [], [(0, vB false), (77, vB x14)], []⟩ : ASt) _
                  refine s_sa ?_
                  refine aops_nil ?_
                  cases Option.some.inj h
                  exact aw_ret ⟨rfl, rv r1⟩
                rcases Md.bool_or (x13) with q14 | q14
                · replace j14 := Md.cond_t j14 q14
                  obtain ⟨x15, hx15, j14⟩ := Md.bind_s j14
                  refine aops_yes rfl rfl rfl rfl q14 (ev_call_v (lexer_IsName_fn k ([57, 120] : List UInt8) x15 hx15) rfl [] ai rfl rfl rfl (.inl rfl) rfl) (y_nt q14 ?_)
                  refine s_py q14 ?_
                  refine aops_nil ?_
                  show ∃ _x : Bool, _ = _ ∧ Weak _ _
                  exact ⟨(!x15), Option.some.inj j14, wk⟩
                replace j14 := Md.cond_f j14 q14
                iterate 2 refine np q14 ?_
                refine s_pn q14 ?_
                refine aops_nil ?_
                show ∃ _x : Bool, _ = _ ∧ Weak _ _
                exact ⟨false, Option.some.inj j14, wk⟩
              rcases Md.bool_or (x12) with q13 | q13
              · replace j13 := Md.cond_t j13 q13
                obtain ⟨x16, hx16, j13⟩ := Md.bind_s j13
                refine aops_yes rfl rfl rfl rfl q13 (ev_call_v (lexer_IsName_fn k ([95, 120, 57] : List UInt8) x16 hx16) rfl [] ai rfl rfl rfl (.inl rfl) rfl) (s_py q13 ?_)
                refine aops_nil ?_
                show ∃ _x : Bool, _ = _ ∧ Weak _ _
                exact ⟨x16, Option.some.inj j13, wk⟩
              replace j13 := Md.cond_f j13 q13
              refine np q13 ?_
              refine s_pn q13 ?_
              refine aops_nil ?_
              show ∃ _x : Bool, _ = _ ∧ Weak _ _
              exact ⟨false, Option.some.inj j13, wk⟩
            rcases Md.bool_or (x11) with q12 | q12
            · replace j12 := Md.cond_t j12 q12
              obtain ⟨x17, hx17, j12⟩ := Md.bind_s j12
              refine aops_yes rfl rfl rfl rfl q12 (ev_call_v (lexer_IsKeyword_fn k ([108, 101, 116] : List UInt8) x17 hx17) rfl [] ai rfl rfl rfl (.inl rfl) rfl) (s_py q12 ?_)
              refine aops_nil ?_
              show ∃ _x : Bool, _ = _ ∧ Weak _ _
              exact ⟨x17, Option.some.inj j12, wk⟩
            replace j12 := Md.cond_f j12 q12
            refine np q12 ?_
            refine s_pn q12 ?_
            refine aops_nil ?_
            show ∃ _x : Bool, _ = _ ∧ Weak _ _
            exact ⟨false, Option.some.inj j12, wk⟩
          rcases Md.bool_or (((x8 && (x2.2.2 == 13)) && (x2.2.1 == 2))) with q11 | q11
          · replace j11 := Md.cond_t j11 q11
            obtain ⟨x18, hx18, j11⟩ := Md.bind_s j11
            refine aops_yes rfl rfl rfl rfl q11 (ev_call_v (lexer_Quote_fn k ([10, 34] : List UInt8) x18 hx18) rfl [] ai rfl rfl rfl (.inl rfl) rfl) ?_
            refine aops_yes rfl rfl rfl rfl q11 (st_str_eq rfl rfl rfl) (s_py q11 ?_)
            refine aops_nil ?_
            show ∃ _x : Bool, _ = _ ∧ Weak _ _
            exact ⟨(decide (x18 = ([34, 92, 120, 48, 97, 92, 34, 34] : List UInt8))), Option.some.inj j11, wk⟩
          replace j11 := Md.cond_f j11 q11
          iterate 2 refine np q11 ?_
          refine s_pn q11 ?_
          refine aops_nil ?_
          show ∃ _x : Bool, _ = _ ∧ Weak _ _
          exact ⟨false, Option.some.inj j11, wk⟩
        rcases Md.bool_or (x7) with q8 | q8
        · replace j8 := Md.cond_t j8 q8
          refine y_mv q8 ?_
          obtain ⟨g19, j8⟩ := Md.ifp_s j8
          refine aops_yes rfl rfl rfl rfl q8 (ev_index_in rfl rfl rfl g19 rfl rfl) (aops_yes rfl rfl rfl rfl q8 (ev_field_in rfl rfl rfl) ?_)
          refine aops_yes rfl rfl rfl rfl q8 (ev_load_in rfl rfl rfl) (y_cm q8 ?_)
          refine s_py q8 ?_
          refine aops_nil ?_
          show ∃ _x : Bool, _ = _ ∧ Weak _ _
          exact ⟨(((x1.1.getD 3 default).At) == 7), Option.some.inj j8, wk⟩
        replace j8 := Md.cond_f j8 q8
        iterate 5 refine np q8 ?_
        refine s_pn q8 ?_
        refine aops_nil ?_
        show ∃ _x : Bool, _ = _ ∧ Weak _ _
        exact ⟨false, Option.some.inj j8, wk⟩
      rcases Md.bool_or (x6) with q7 | q7
      · replace j7 := Md.cond_t j7 q7
        refine y_mv q7 ?_
        obtain ⟨g20, j7⟩ := Md.ifp_s j7
        refine aops_yes rfl rfl rfl rfl q7 (ev_index_in rfl rfl rfl g20 rfl rfl) (aops_yes rfl rfl rfl rfl q7 (ev_field_in rfl rfl rfl) ?_)
        refine aops_yes rfl rfl rfl rfl q7 (ev_load_in rfl rfl rfl) (y_cm q7 ?_)
        refine s_py q7 ?_
        refine aops_nil ?_
        show ∃ _x : Bool, _ = _ ∧ Weak _ _
        exact ⟨(((x1.1.getD 2 default).Num) == 10), Option.some.inj j7, wk⟩
      replace j7 := Md.cond_f j7 q7
      iterate 5 refine np q7 ?_
      refine s_pn q7 ?_
      refine aops_nil ?_
      show ∃ _x : Bool, _ = _ ∧ Weak _ _
      exact ⟨false, Option.some.inj j7, wk⟩
    rcases Md.bool_or (x5) with q6 | q6
    · replace j6 := Md.cond_t j6 q6
      refine y_mv q6 ?_
      obtain ⟨g21, j6⟩ := Md.ifp_s j6
      refine aops_yes rfl rfl rfl rfl q6 (ev_index_in rfl rfl rfl g21 rfl rfl) (aops_yes rfl rfl rfl rfl q6 (ev_field_in rfl rfl rfl) ?_)
      refine aops_yes rfl rfl rfl rfl q6 (ev_load_in rfl rfl rfl) (aops_yes rfl rfl rfl rfl q6 (st_str_eq rfl rfl rfl) (s_py q6 ?_))
      refine aops_nil ?_
      show ∃ _x : Bool, _ = _ ∧ Weak _ _
      exact ⟨(decide (((x1.1.getD 1 default).Text) = ([60, 61] : List UInt8))), Option.some.inj j6, wk⟩
    replace j6 := Md.cond_f j6 q6
    iterate 5 refine np q6 ?_
    refine s_pn q6 ?_
    refine aops_nil ?_
    show ∃ _x : Bool, _ = _ ∧ Weak _ _
    exact ⟨false, Option.some.inj j6, wk⟩
  rcases Md.bool_or ((((x1.2.2 == 0) && (x1.2.1 == 0)) && (((x1.1.length : Nat) : Int) == 4))) with q5 | q5
  · replace j5 := Md.cond_t j5 q5
    refine y_mv q5 ?_
    obtain ⟨g22, j5⟩ := Md.ifp_s j5
    refine aops_yes rfl rfl rfl rfl q5 (ev_index_in rfl rfl rfl g22 rfl rfl) (aops_yes rfl rfl rfl rfl q5 (ev_field_in rfl rfl rfl) ?_)
    refine aops_yes rfl rfl rfl rfl q5 (ev_load_in rfl rfl rfl) (y_cm q5 ?_)
    refine s_py q5 ?_
    refine aops_nil ?_
    show ∃ _x : Bool, _ = _ ∧ Weak _ _
    exact ⟨(((x1.1.getD 0 default).Kind) == 1), Option.some.inj j5, wk⟩
  replace j5 := Md.cond_f j5 q5
  iterate 5 refine np q5 ?_
  refine s_pn q5 ?_
  refine aops_nil ?_
  show ∃ _x : Bool, _ = _ ∧ Weak _ _
  exact ⟨false, Option.some.inj j5, wk⟩
end Md
end Go.Proofs.YtjpiiejdaiaocaaDoor
