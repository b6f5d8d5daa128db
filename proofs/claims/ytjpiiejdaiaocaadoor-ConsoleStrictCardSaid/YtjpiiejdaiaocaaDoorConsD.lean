/-
  ConsD: where a function's model gives a value, the function returns what reads as it (printed by wip/tools/auto.py). Condition of each: the model gives a value.
-/
import Derived.Test.YtjpiiejdaiaocaaDoorConsDM
import Derived.Test.YtjpiiejdaiaocaaDoorTy
import Derived.Test.YtjpiiejdaiaocaaDoorAbsU
import Derived.Test.YtjpiiejdaiaocaaDoorConsC
namespace Go.Proofs.YtjpiiejdaiaocaaDoor
open Go.ChangeShapes Go.WideShapes Go.RowKit
open Abs
set_option linter.unusedVariables false
set_option linter.unusedSimpArgs false
set_option maxRecDepth 10000
namespace Md
set_option maxHeartbeats 2000000 in
theorem actorgridlaw41_awake_fn (k : Nat) (r : Bool) (h : actorgridlaw41_awake k = some r) : FnC Tryd.prog 14 [] [] (Det (vB r) []) := by
  unfold actorgridlaw41_awake at h
  refine fn_intro' 60 Tryd.func14 rfl rfl rfl (aw_seq (aw_region (s_sa ?_)))
  refine aops_nil (aw_seq (aw_region (aops_step1 rfl (ev_build' (out := [_, _]) rfl rfl rfl rfl rfl) ?_)))
  refine aops_step1 rfl (ev_build' (out := [_, _, _, _, _, _]) rfl rfl rfl rfl rfl) ?_
  refine aops_step1 rfl (st_alloc (cs := [cI 0, .val (Sv []), .val (Sv []), .val (Sv []), .val (Sv []), cI 0]) 0 rfl rfl rfl rfl rfl) (s_st [_, _, _, _, _, _] ?_)
  refine aops_nil (aw_seq (aw_region (s_ls [_, _, _, _, _, _] ?_)))
  obtain ⟨x1, hx1, h⟩ := Md.bind_s h
  refine aops_step1 rfl (ev_call_v (console_Format_fn k (⟨3, ([] : List UInt8), (⟨([65, 99, 99, 111, 117, 110, 116] : List UInt8), ([97, 32, 98] : List UInt8)⟩ : Ref), ([] : List UInt8), 3⟩ : ConsoleCommand) x1 hx1) rfl [] ai rfl rfl rfl (.inl rfl) rfl) (s_sa ?_)
  refine aops_nil (aw_seq (aw_region (s_mv ?_)))
  obtain ⟨x2, hx2, h⟩ := Md.bind_s h
  refine aops_step1 rfl (ev_call_v (console_Parse_fn k x1 x2 hx2) rfl [] ai rfl rfl rfl (.inl rfl) rfl) (s_mt ?_)
  iterate 3 refine s_ex ?_
  refine aops_step1 rfl (st_alloc (cs := [cI 0, .val (Sv []), .val (Sv []), .val (Sv []), .val (Sv []), cI 0]) 1 rfl rfl rfl rfl rfl) (s_st [_, _, _, _, _, _] ?_)
  iterate 2 refine s_sa ?_
  refine aops_nil (aw_seq (aw_region ?_))
  obtain ⟨x3, hx3, h⟩ := Md.bind_s h
  refine aops_step1 rfl (ev_call_v (console_Parse_fn k ([109, 111, 118, 101, 32, 65, 99, 99, 111, 117, 110, 116, 32, 34, 97, 32, 98, 34] : List UInt8) x3 hx3) rfl [] ai rfl rfl rfl (.inl rfl) rfl) (s_mt ?_)
  iterate 3 refine s_ex ?_
  refine aops_step1 rfl (st_alloc (cs := [cI 0, .val (Sv []), .val (Sv []), .val (Sv []), .val (Sv []), cI 0]) 2 rfl rfl rfl rfl rfl) (s_st [_, _, _, _, _, _] ?_)
  iterate 2 refine s_sa ?_
  refine aops_nil (aw_seq (aw_region (s_mv ?_)))
  refine aops_step1 rfl (st_str_eq rfl rfl rfl) (s_mv ?_)
  refine aops_mid 3 (⟨60, [], [(0, vB false), (1, .one (.ptr 0 0)), (2, .one (.val (Sv x1))), (3, .one (.ptr 1 0)), (4, vI x2.2.1), (7, vI x3.2.1), (8, vI x3.2.2), (29, vB ((decide (x1 = ([109, 111, 118, 101, 32, 65, 99, 99, 111, 117, 110, 116, 32, 34, 97, 32, 98, 34, 32, 51] : List UInt8))) && (x2.2.2 == 0)))], [(0, some (.box [cI 3, .val (Sv []), .val (Sv ([65, 99, 99, 111, 117, 110, 116] : List UInt8)), .val (Sv ([97, 32, 98] : List UInt8)), .val (Sv []), cI 3])), (1, some (.box (c_ConsoleCommand x2.1)))]⟩ : ASt) ?_ ?_
  · rcases Md.bool_or ((decide (x1 = ([109, 111, 118, 101, 32, 65, 99, 99, 111, 117, 110, 116, 32, 34, 97, 32, 98, 34, 32, 51] : List UInt8)))) with q4 | q4
    · skip
      refine y_mv q4 ?_
      refine y_cm q4 ?_
      refine s_py q4 ?_
      refine aops_nil ?_
      exact wq q4
    iterate 2 refine np q4 ?_
    refine s_pn q4 ?_
    refine aops_nil ?_
    exact wq q4
  refine s_mv ?_
  refine aops_mid 4 (⟨60, [], [(0, vB false), (1, .one (.ptr 0 0)), (2, .one (.val (Sv x1))), (4, vI x2.2.1), (7, vI x3.2.1), (8, vI x3.2.2), (34, vB (((decide (x1 = ([109, 111, 118, 101, 32, 65, 99, 99, 111, 117, 110, 116, 32, 34, 97, 32, 98, 34, 32, 51] : List UInt8))) && (x2.2.2 == 0)) && (decide (x2.1 = (⟨3, ([] : List UInt8), (⟨([65, 99, 99, 111, 117, 110, 116] : List UInt8), ([97, 32, 98] : List UInt8)⟩ : Ref), ([] : List UInt8), 3⟩ : ConsoleCommand)))))], [(0, some (.box [cI 3, .val (Sv []), .val (Sv ([65, 99, 99, 111, 117, 110, 116] : List UInt8)), .val (Sv ([97, 32, 98] : List UInt8)), .val (Sv []), cI 3]))]⟩ : ASt) ?_ ?_
  · rcases Md.bool_or (((decide (x1 = ([109, 111, 118, 101, 32, 65, 99, 99, 111, 117, 110, 116, 32, 34, 97, 32, 98, 34, 32, 51] : List UInt8))) && (x2.2.2 == 0))) with q5 | q5
    · skip
      refine aops_yes rfl rfl rfl rfl q5 (ev_loads (ds := [_, _, _, _, _, _]) rfl rfl rfl rfl rfl) ?_
      refine aops_yes rfl rfl rfl rfl q5 (ev_loads (ds := [_, _, _, _, _, _]) rfl rfl rfl rfl rfl) ?_
      refine aops_yes rfl rfl rfl rfl q5 (ev_agg_eq (vs := [.int .i64 x2.1.Kind, Sv x2.1.Topic, Sv x2.1.Actor.fType, Sv x2.1.Actor.Key, Sv x2.1.Method, .int .i64 x2.1.Number]) (us := [.int .i64 3, Sv [], Sv ([65, 99, 99, 111, 117, 110, 116] : List UInt8), Sv ([97, 32, 98] : List UInt8), Sv [], .int .i64 3]) (by kernel_rfl) rfl rfl (fun w => sq_ConsoleCommand x2.1 (⟨3, ([] : List UInt8), (⟨([65, 99, 99, 111, 117, 110, 116] : List UInt8), ([97, 32, 98] : List UInt8)⟩ : Ref), ([] : List UInt8), 3⟩ : ConsoleCommand) w) rfl) (s_py q5 ?_)
      refine aops_nil ?_
      exact wq q5
    iterate 3 refine np q5 ?_
    refine s_pn q5 ?_
    refine aops_nil ?_
    exact wq q5
  refine s_mv ?_
  refine aops_mid 5 (⟨60, [], [(0, vB false), (1, .one (.ptr 0 0)), (7, vI x3.2.1), (8, vI x3.2.2), (40, vB ((((decide (x1 = ([109, 111, 118, 101, 32, 65, 99, 99, 111, 117, 110, 116, 32, 34, 97, 32, 98, 34, 32, 51] : List UInt8))) && (x2.2.2 == 0)) && (decide (x2.1 = (⟨3, ([] : List UInt8), (⟨([65, 99, 99, 111, 117, 110, 116] : List UInt8), ([97, 32, 98] : List UInt8)⟩ : Ref), ([] : List UInt8), 3⟩ : ConsoleCommand)))) && (x2.2.1 == ((x1.length : Nat) : Int))))], [(0, some (.box [cI 3, .val (Sv []), .val (Sv ([65, 99, 99, 111, 117, 110, 116] : List UInt8)), .val (Sv ([97, 32, 98] : List UInt8)), .val (Sv []), cI 3]))]⟩ : ASt) ?_ ?_
  · rcases Md.bool_or ((((decide (x1 = ([109, 111, 118, 101, 32, 65, 99, 99, 111, 117, 110, 116, 32, 34, 97, 32, 98, 34, 32, 51] : List UInt8))) && (x2.2.2 == 0)) && (decide (x2.1 = (⟨3, ([] : List UInt8), (⟨([65, 99, 99, 111, 117, 110, 116] : List UInt8), ([97, 32, 98] : List UInt8)⟩ : Ref), ([] : List UInt8), 3⟩ : ConsoleCommand))))) with q6 | q6
    · skip
      iterate 2 refine y_mv q6 ?_
      refine aops_yes rfl rfl rfl rfl q6 (st_len_str rfl rfl) (y_cm q6 ?_)
      refine s_py q6 ?_
      refine aops_nil ?_
      exact wq q6
    iterate 4 refine np q6 ?_
    refine s_pn q6 ?_
    refine aops_nil ?_
    exact wq q6
  refine s_mv ?_
  refine aops_mid 3 (⟨60, [], [(0, vB false), (1, .one (.ptr 0 0)), (7, vI x3.2.1), (44, vB (((((decide (x1 = ([109, 111, 118, 101, 32, 65, 99, 99, 111, 117, 110, 116, 32, 34, 97, 32, 98, 34, 32, 51] : List UInt8))) && (x2.2.2 == 0)) && (decide (x2.1 = (⟨3, ([] : List UInt8), (⟨([65, 99, 99, 111, 117, 110, 116] : List UInt8), ([97, 32, 98] : List UInt8)⟩ : Ref), ([] : List UInt8), 3⟩ : ConsoleCommand)))) && (x2.2.1 == ((x1.length : Nat) : Int))) && (x3.2.2 == 2)))], [(0, some (.box [cI 3, .val (Sv []), .val (Sv ([65, 99, 99, 111, 117, 110, 116] : List UInt8)), .val (Sv ([97, 32, 98] : List UInt8)), .val (Sv []), cI 3]))]⟩ : ASt) ?_ ?_
  · rcases Md.bool_or (((((decide (x1 = ([109, 111, 118, 101, 32, 65, 99, 99, 111, 117, 110, 116, 32, 34, 97, 32, 98, 34, 32, 51] : List UInt8))) && (x2.2.2 == 0)) && (decide (x2.1 = (⟨3, ([] : List UInt8), (⟨([65, 99, 99, 111, 117, 110, 116] : List UInt8), ([97, 32, 98] : List UInt8)⟩ : Ref), ([] : List UInt8), 3⟩ : ConsoleCommand)))) && (x2.2.1 == ((x1.length : Nat) : Int)))) with q7 | q7
    · skip
      refine y_mv q7 ?_
      refine y_cm q7 ?_
      refine s_py q7 ?_
      refine aops_nil ?_
      exact wq q7
    iterate 2 refine np q7 ?_
    refine s_pn q7 ?_
    refine aops_nil ?_
    exact wq q7
  refine s_mv ?_
  refine aops_mid 3 (⟨60, [], [(0, vB false), (1, .one (.ptr 0 0)), (48, vB ((((((decide (x1 = ([109, 111, 118, 101, 32, 65, 99, 99, 111, 117, 110, 116, 32, 34, 97, 32, 98, 34, 32, 51] : List UInt8))) && (x2.2.2 == 0)) && (decide (x2.1 = (⟨3, ([] : List UInt8), (⟨([65, 99, 99, 111, 117, 110, 116] : List UInt8), ([97, 32, 98] : List UInt8)⟩ : Ref), ([] : List UInt8), 3⟩ : ConsoleCommand)))) && (x2.2.1 == ((x1.length : Nat) : Int))) && (x3.2.2 == 2)) && (x3.2.1 == 18)))], [(0, some (.box [cI 3, .val (Sv []), .val (Sv ([65, 99, 99, 111, 117, 110, 116] : List UInt8)), .val (Sv ([97, 32, 98] : List UInt8)), .val (Sv []), cI 3]))]⟩ : ASt) ?_ ?_
  · rcases Md.bool_or ((((((decide (x1 = ([109, 111, 118, 101, 32, 65, 99, 99, 111, 117, 110, 116, 32, 34, 97, 32, 98, 34, 32, 51] : List UInt8))) && (x2.2.2 == 0)) && (decide (x2.1 = (⟨3, ([] : List UInt8), (⟨([65, 99, 99, 111, 117, 110, 116] : List UInt8), ([97, 32, 98] : List UInt8)⟩ : Ref), ([] : List UInt8), 3⟩ : ConsoleCommand)))) && (x2.2.1 == ((x1.length : Nat) : Int))) && (x3.2.2 == 2))) with q8 | q8
    · skip
      refine y_mv q8 ?_
      refine y_cm q8 ?_
      refine s_py q8 ?_
      refine aops_nil ?_
      exact wq q8
    iterate 2 refine np q8 ?_
    refine s_pn q8 ?_
    refine aops_nil ?_
    exact wq q8
  refine s_mv ?_
  obtain ⟨o9, j9, h⟩ := Md.bind_s h
  refine aops_cut 3 (ε := Bool) (fun x9 => (⟨60, [], [(0, vB false), (52, vB x9)], []⟩ : ASt)) (fun x9 => x9 = o9) ?_ ?_
  · intro x9 hI9
    subst hI9
    change AOps _ _ _ (⟨60, [], [(0, vB false), (52, vB x9)], []⟩ : ASt) _
    refine s_mv ?_
    obtain ⟨o10, j10, h⟩ := Md.bind_s h
    refine aops_cut 2 (ε := Bool) (fun x10 => (⟨60, [], [(0, vB false), (55, vB x10)], []⟩ : ASt)) (fun x10 => x10 = o10) ?_ ?_
    · intro x10 hI10
      subst hI10
      change AOps _ _ _ (⟨60, [], [(0, vB false), (55, vB x10)], []⟩ : ASt) _
      refine s_mv ?_
      obtain ⟨o11, j11, h⟩ := Md.bind_s h
      refine aops_cut 3 (ε := Bool) (fun x11 => (⟨60, [], [(0, vB false), (59, vB x11)], []⟩ : ASt)) (fun x11 => x11 = o11) ?_ ?_
      · intro x11 hI11
        subst hI11
        change AOps _ _ _ (⟨60, [], [(0, vB false), (59, vB x11)], []⟩ : ASt) _
        refine s_sa ?_
        refine aops_nil ?_
        cases Option.some.inj h
        exact aw_ret ⟨rfl, rv r1⟩
      rcases Md.bool_or (x10) with q11 | q11
      · replace j11 := Md.cond_t j11 q11
        obtain ⟨x12, hx12, j11⟩ := Md.bind_s j11
        refine aops_yes rfl rfl rfl rfl q11 (ev_call_v (console_Quote_fn k ([1] : List UInt8) x12 hx12) rfl [] ai rfl rfl rfl (.inl rfl) rfl) ?_
        refine aops_yes rfl rfl rfl rfl q11 (st_str_eq rfl rfl rfl) (s_py q11 ?_)
        refine aops_nil ?_
        show ∃ _x : Bool, _ = _ ∧ Weak _ _
        exact ⟨(decide (x12 = ([34, 92, 120, 48, 49, 34] : List UInt8))), Option.some.inj j11, wk⟩
      replace j11 := Md.cond_f j11 q11
      iterate 2 refine np q11 ?_
      refine s_pn q11 ?_
      refine aops_nil ?_
      show ∃ _x : Bool, _ = _ ∧ Weak _ _
      exact ⟨false, Option.some.inj j11, wk⟩
    rcases Md.bool_or (x9) with q10 | q10
    · replace j10 := Md.cond_t j10 q10
      obtain ⟨x13, hx13, j10⟩ := Md.bind_s j10
      refine aops_yes rfl rfl rfl rfl q10 (ev_call_v (console_Name_fn k ([97, 95, 49] : List UInt8) x13 hx13) rfl [] ai rfl rfl rfl (.inl rfl) rfl) (s_py q10 ?_)
      refine aops_nil ?_
      show ∃ _x : Bool, _ = _ ∧ Weak _ _
      exact ⟨x13, Option.some.inj j10, wk⟩
    replace j10 := Md.cond_f j10 q10
    refine np q10 ?_
    refine s_pn q10 ?_
    refine aops_nil ?_
    show ∃ _x : Bool, _ = _ ∧ Weak _ _
    exact ⟨false, Option.some.inj j10, wk⟩
  rcases Md.bool_or (((((((decide (x1 = ([109, 111, 118, 101, 32, 65, 99, 99, 111, 117, 110, 116, 32, 34, 97, 32, 98, 34, 32, 51] : List UInt8))) && (x2.2.2 == 0)) && (decide (x2.1 = (⟨3, ([] : List UInt8), (⟨([65, 99, 99, 111, 117, 110, 116] : List UInt8), ([97, 32, 98] : List UInt8)⟩ : Ref), ([] : List UInt8), 3⟩ : ConsoleCommand)))) && (x2.2.1 == ((x1.length : Nat) : Int))) && (x3.2.2 == 2)) && (x3.2.1 == 18))) with q9 | q9
  · replace j9 := Md.cond_t j9 q9
    refine aops_yes rfl rfl rfl rfl q9 (ev_loads (ds := [_, _, _, _, _, _]) rfl rfl rfl rfl rfl) ?_
    obtain ⟨x14, hx14, j9⟩ := Md.bind_s j9
    refine aops_yes rfl rfl rfl rfl q9 (ev_call_v (console_Valid_fn k (⟨3, ([] : List UInt8), (⟨([65, 99, 99, 111, 117, 110, 116] : List UInt8), ([97, 32, 98] : List UInt8)⟩ : Ref), ([] : List UInt8), 3⟩ : ConsoleCommand) x14 hx14) rfl [] ai rfl rfl rfl (.inl rfl) rfl) (s_py q9 ?_)
    refine aops_nil ?_
    show ∃ _x : Bool, _ = _ ∧ Weak _ _
    exact ⟨x14, Option.some.inj j9, wk⟩
  replace j9 := Md.cond_f j9 q9
  iterate 2 refine np q9 ?_
  refine s_pn q9 ?_
  refine aops_nil ?_
  show ∃ _x : Bool, _ = _ ∧ Weak _ _
  exact ⟨false, Option.some.inj j9, wk⟩
end Md
end Go.Proofs.YtjpiiejdaiaocaaDoor
