/-
  ConsC: where a function's model gives a value, the function returns what reads as it (printed by wip/tools/auto.py). Condition of each: the model gives a value.
-/
import Derived.Test.YtjpiiejdaiaocaaDoorConsCM
import Derived.Test.YtjpiiejdaiaocaaDoorTy
import Derived.Test.YtjpiiejdaiaocaaDoorAbsX
import Derived.Test.YtjpiiejdaiaocaaDoorConsB
namespace Go.Proofs.YtjpiiejdaiaocaaDoor
open Go.ChangeShapes Go.WideShapes Go.RowKit
open Abs
set_option linter.unusedVariables false
set_option linter.unusedSimpArgs false
set_option maxRecDepth 10000
namespace Md
set_option maxHeartbeats 2000000 in
theorem console_read_fn (k : Nat) (a0 : ConsoleCommand) (a1 : Consoleformat) (a2 : Int) (a3 : List UInt8) (r : Int × Int × ConsoleCommand) (h : console_read k a0 a1 a2 a3 = some r) : FnC Tryd.prog 48 [.one (.ptr 0 0), .agg (c_Consoleformat a1), .one (.val (.int .i32 a2)), .one (.val (Sv a3))] (boxesH 0 [(c_ConsoleCommand a0)]) (Det (.tup [vI r.1, vI r.2.1]) (boxesH 0 [(c_ConsoleCommand r.2.2)])) := by
  unfold console_read at h
  refine fn_intro' 90 Tryd.func48 rfl rfl rfl (aw_seq (aw_region (aops_step1 rfl (st_box 1 rfl rfl rfl rfl) ?_)))
  iterate 2 refine s_sa ?_
  refine aops_nil (aw_seq (aw_region (s_mv ?_)))
  obtain ⟨x1, hx1, h⟩ := Md.bind_s h
  refine aops_step1 rfl (ev_call_v (console_word_fn k a3 x1 hx1) rfl [] ai rfl rfl rfl (.inl rfl) rfl) (s_sa ?_)
  refine aops_nil (aw_seq (aw_seq (aw_region (s_mv ?_))))
  refine aops_nil (aw_block (aw_seq (aw_region (s_cm ?_))))
  refine s_sa ?_
  refine aops_nil ?_
  refine aw_cond rfl (fun c2 => ?_) (fun c2 => ?_)
  · replace h := Md.cond_t h c2
    refine aw_seq (aw_region (s_mv ?_))
    obtain ⟨x3, hx3, h⟩ := Md.bind_s h
    refine aops_step1 rfl (ev_call_v (console_Unquote_fn k a3 x3 hx3) rfl [] ai rfl rfl rfl (.inl rfl) rfl) (s_mt ?_)
    iterate 3 refine s_ex ?_
    iterate 3 refine s_sa ?_
    refine aops_nil (aw_seq (aw_seq (aw_region (s_mv ?_))))
    refine s_cm ?_
    refine s_mv ?_
    refine aops_mid 4 (⟨90, [0], [(0, .one (.ptr 0 0)), (11, .one (.val (Sv x3.1))), (12, vI x3.2.1), (13, vI x3.2.2), (33, vB ((x3.2.2 == 0) && (decide (((x3.1.length : Nat) : Int) > 32))))], [(0, some (.box (c_ConsoleCommand a0)))]⟩ : ASt) ?_ ?_
    · rcases Md.bool_or ((x3.2.2 == 0)) with q4 | q4
      · skip
        refine y_mv q4 ?_
        refine aops_yes rfl rfl rfl rfl q4 (st_len_str rfl rfl) (y_cm q4 ?_)
        refine s_py q4 ?_
        refine aops_nil ?_
        exact wq q4
      iterate 3 refine np q4 ?_
      refine s_pn q4 ?_
      refine aops_nil ?_
      exact wq q4
    refine aops_nil ?_
    refine aw_cond rfl (fun c5 => ?_) (fun c5 => ?_)
    · replace h := Md.cond_t h c5
      refine aw_region (s_sa ?_)
      refine aops_nil (aw_seq (aw_region ?_))
      iterate 2 refine s_mv ?_
      refine aops_step1 rfl (ev_nilc rfl rfl) ?_
      iterate 2 refine s_fd ?_
      refine s_st [_, _, _, _, _, _] ?_
      refine aops_nil (aw_seq (aw_region ?_))
      iterate 2 refine s_mv ?_
      iterate 2 refine s_sa ?_
      refine aops_nil ?_
      cases Option.some.inj h
      refine aw_ret ⟨rfl, ret_b (bs := [(c_ConsoleCommand (⟨a0.Kind, a0.Topic, (⟨a0.Actor.fType, x3.1⟩ : Ref), a0.Method, a0.Number⟩ : ConsoleCommand))]) (rn (.cons o1 (.cons o1 .nil))) rfl rfl rfl rfl rfl (by intro i cs h; rcases i with _ | i <;> simp at h <;> (subst h; rfl)) ?_⟩
      (repeat' (first | exact .refl _ | exact .nil | refine .tup ?_ | refine .v ?_ | refine .cons ?_ ?_ | refine .agg ?_ | refine .one ?_ | exact .nil _ | exact .emp _ | refine .val ?_ | refine .slc ?_ ?_ | fail))
    replace h := Md.cond_f h c5
    refine aw_skip (aw_seq (aw_region ?_))
    iterate 2 refine s_mv ?_
    refine aops_step1 rfl (ev_nilc rfl rfl) ?_
    iterate 2 refine s_fd ?_
    refine s_st [_, _, _, _, _, _] ?_
    refine aops_nil (aw_seq (aw_region ?_))
    iterate 2 refine s_mv ?_
    iterate 2 refine s_sa ?_
    refine aops_nil ?_
    cases Option.some.inj h
    refine aw_ret ⟨rfl, ret_b (bs := [(c_ConsoleCommand (⟨a0.Kind, a0.Topic, (⟨a0.Actor.fType, x3.1⟩ : Ref), a0.Method, a0.Number⟩ : ConsoleCommand))]) (rn (.cons o1 (.cons o1 .nil))) rfl rfl rfl rfl rfl (by intro i cs h; rcases i with _ | i <;> simp at h <;> (subst h; rfl)) ?_⟩
    (repeat' (first | exact .refl _ | exact .nil | refine .tup ?_ | refine .v ?_ | refine .cons ?_ ?_ | refine .agg ?_ | refine .one ?_ | exact .nil _ | exact .emp _ | refine .val ?_ | refine .slc ?_ ?_ | fail))
  replace h := Md.cond_f h c2
  refine aw_seq (aw_region (s_cm ?_))
  refine s_sa ?_
  refine aops_nil ?_
  refine aw_cond rfl (fun c6 => ?_) (fun c6 => ?_)
  · replace h := Md.cond_t h c6
    refine aw_seq (aw_region (s_mv ?_))
    obtain ⟨x7, hx7, h⟩ := Md.bind_s h
    refine aops_step1 rfl (ev_call_v (console_number_fn k x1 x7 hx7) rfl [] ai rfl rfl rfl (.inl rfl) rfl) (s_mt ?_)
    iterate 2 refine s_ex ?_
    iterate 2 refine s_sa ?_
    refine aops_nil (aw_seq (aw_region ?_))
    iterate 2 refine s_mv ?_
    refine aops_step1 rfl (ev_nilc rfl rfl) (s_fd ?_)
    refine s_st [_, _, _, _, _, _] ?_
    refine aops_nil (aw_seq (aw_block (aw_seq (aw_region (s_mv ?_)))))
    refine s_nt ?_
    refine s_sa ?_
    refine aops_nil ?_
    refine aw_cond rfl (fun c8 => ?_) (fun c8 => ?_)
    · replace h := Md.cond_t h c8
      refine aw_seq (aw_region ?_)
      iterate 2 refine s_sa ?_
      refine aops_nil ?_
      cases Option.some.inj h
      refine aw_ret ⟨rfl, ret_b (bs := [(c_ConsoleCommand (⟨a0.Kind, a0.Topic, a0.Actor, a0.Method, x7.1⟩ : ConsoleCommand))]) (rn (.cons o1 (.cons o1 .nil))) rfl rfl rfl rfl rfl (by intro i cs h; rcases i with _ | i <;> simp at h <;> (subst h; rfl)) ?_⟩
      (repeat' (first | exact .refl _ | exact .nil | refine .tup ?_ | refine .v ?_ | refine .cons ?_ ?_ | refine .agg ?_ | refine .one ?_ | exact .nil _ | exact .emp _ | refine .val ?_ | refine .slc ?_ ?_ | fail))
    replace h := Md.cond_f h c8
    refine aw_seq (aw_seq (aw_region (s_mv ?_)))
    refine s_fd ?_
    refine s_ld ?_
    refine s_cm ?_
    refine s_sa ?_
    refine aops_nil ?_
    refine aw_cond rfl (fun c9 => ?_) (fun c9 => ?_)
    · replace h := Md.cond_t h c9
      refine aw_skip (aw_yes rfl (c9) (aw_seq (aw_region ?_)))
      iterate 2 refine s_sa ?_
      refine aops_nil ?_
      cases Option.some.inj h
      refine aw_ret ⟨rfl, ret_b (bs := [(c_ConsoleCommand (⟨a0.Kind, a0.Topic, a0.Actor, a0.Method, x7.1⟩ : ConsoleCommand))]) (rn (.cons o1 (.cons o1 .nil))) rfl rfl rfl rfl rfl (by intro i cs h; rcases i with _ | i <;> simp at h <;> (subst h; rfl)) ?_⟩
      (repeat' (first | exact .refl _ | exact .nil | refine .tup ?_ | refine .v ?_ | refine .cons ?_ ?_ | refine .agg ?_ | refine .one ?_ | exact .nil _ | exact .emp _ | refine .val ?_ | refine .slc ?_ ?_ | fail))
    replace h := Md.cond_f h c9
    refine aw_region (s_mv ?_)
    refine s_fd ?_
    refine s_ld ?_
    refine s_cm ?_
    refine s_sa ?_
    refine aops_nil ?_
    refine aw_cond rfl (fun c10 => ?_) (fun c10 => ?_)
    · replace h := Md.cond_t h c10
      refine aw_seq (aw_region ?_)
      iterate 2 refine s_sa ?_
      refine aops_nil ?_
      cases Option.some.inj h
      refine aw_ret ⟨rfl, ret_b (bs := [(c_ConsoleCommand (⟨a0.Kind, a0.Topic, a0.Actor, a0.Method, x7.1⟩ : ConsoleCommand))]) (rn (.cons o1 (.cons o1 .nil))) rfl rfl rfl rfl rfl (by intro i cs h; rcases i with _ | i <;> simp at h <;> (subst h; rfl)) ?_⟩
      (repeat' (first | exact .refl _ | exact .nil | refine .tup ?_ | refine .v ?_ | refine .cons ?_ ?_ | refine .agg ?_ | refine .one ?_ | exact .nil _ | exact .emp _ | refine .val ?_ | refine .slc ?_ ?_ | fail))
    replace h := Md.cond_f h c10
    refine aw_skip (aw_seq (aw_region (s_mv ?_)))
    refine aops_step1 rfl (st_len_str rfl rfl) ?_
    iterate 2 refine s_sa ?_
    refine aops_nil ?_
    cases Option.some.inj h
    refine aw_ret ⟨rfl, ret_b (bs := [(c_ConsoleCommand (⟨a0.Kind, a0.Topic, a0.Actor, a0.Method, x7.1⟩ : ConsoleCommand))]) (rn (.cons o1 (.cons o1 .nil))) rfl rfl rfl rfl rfl (by intro i cs h; rcases i with _ | i <;> simp at h <;> (subst h; rfl)) ?_⟩
    (repeat' (first | exact .refl _ | exact .nil | refine .tup ?_ | refine .v ?_ | refine .cons ?_ ?_ | refine .agg ?_ | refine .one ?_ | exact .nil _ | exact .emp _ | refine .val ?_ | refine .slc ?_ ?_ | fail))
  replace h := Md.cond_f h c6
  refine aw_seq (aw_region (s_cm ?_))
  refine s_sa ?_
  refine aops_nil ?_
  refine aw_cond rfl (fun c11 => ?_) (fun c11 => ?_)
  · replace h := Md.cond_t h c11
    refine aw_region ?_
    iterate 2 refine s_mv ?_
    refine aops_step1 rfl (ev_nilc rfl rfl) (s_fd ?_)
    refine s_st [_, _, _, _, _, _] ?_
    refine aops_nil (aw_seq (aw_seq (aw_region (s_mv ?_))))
    obtain ⟨x12, hx12, h⟩ := Md.bind_s h
    refine aops_step1 rfl (ev_call_v (console_Name_fn k x1 x12 hx12) rfl [] ai rfl rfl rfl (.inl rfl) rfl) (s_nt ?_)
    refine aops_nil ?_
    refine aw_cond rfl (fun c13 => ?_) (fun c13 => ?_)
    · replace h := Md.cond_t h c13
      refine aw_seq (aw_region ?_)
      iterate 2 refine s_sa ?_
      refine aops_nil ?_
      cases Option.some.inj h
      refine aw_ret ⟨rfl, ret_b (bs := [(c_ConsoleCommand (⟨a0.Kind, x1, a0.Actor, a0.Method, a0.Number⟩ : ConsoleCommand))]) (rn (.cons o1 (.cons o1 .nil))) rfl rfl rfl rfl rfl (by intro i cs h; rcases i with _ | i <;> simp at h <;> (subst h; rfl)) ?_⟩
      (repeat' (first | exact .refl _ | exact .nil | refine .tup ?_ | refine .v ?_ | refine .cons ?_ ?_ | refine .agg ?_ | refine .one ?_ | exact .nil _ | exact .emp _ | refine .val ?_ | refine .slc ?_ ?_ | fail))
    replace h := Md.cond_f h c13
    refine aw_skip (aw_seq (aw_region (s_mv ?_)))
    refine aops_step1 rfl (st_len_str rfl rfl) ?_
    iterate 2 refine s_sa ?_
    refine aops_nil ?_
    cases Option.some.inj h
    refine aw_ret ⟨rfl, ret_b (bs := [(c_ConsoleCommand (⟨a0.Kind, x1, a0.Actor, a0.Method, a0.Number⟩ : ConsoleCommand))]) (rn (.cons o1 (.cons o1 .nil))) rfl rfl rfl rfl rfl (by intro i cs h; rcases i with _ | i <;> simp at h <;> (subst h; rfl)) ?_⟩
    (repeat' (first | exact .refl _ | exact .nil | refine .tup ?_ | refine .v ?_ | refine .cons ?_ ?_ | refine .agg ?_ | refine .one ?_ | exact .nil _ | exact .emp _ | refine .val ?_ | refine .slc ?_ ?_ | fail))
  replace h := Md.cond_f h c11
  refine aw_seq (aw_region (s_cm ?_))
  refine s_sa ?_
  refine aops_nil ?_
  refine aw_cond rfl (fun c14 => ?_) (fun c14 => ?_)
  · replace h := Md.cond_t h c14
    refine aw_region ?_
    iterate 2 refine s_mv ?_
    refine aops_step1 rfl (ev_nilc rfl rfl) ?_
    iterate 2 refine s_fd ?_
    refine s_st [_, _, _, _, _, _] ?_
    refine aops_nil (aw_seq (aw_seq (aw_region (s_mv ?_))))
    obtain ⟨x15, hx15, h⟩ := Md.bind_s h
    refine aops_step1 rfl (ev_call_v (console_Name_fn k x1 x15 hx15) rfl [] ai rfl rfl rfl (.inl rfl) rfl) (s_nt ?_)
    refine aops_nil ?_
    refine aw_cond rfl (fun c16 => ?_) (fun c16 => ?_)
    · replace h := Md.cond_t h c16
      refine aw_seq (aw_region ?_)
      iterate 2 refine s_sa ?_
      refine aops_nil ?_
      cases Option.some.inj h
      refine aw_ret ⟨rfl, ret_b (bs := [(c_ConsoleCommand (⟨a0.Kind, a0.Topic, (⟨x1, a0.Actor.Key⟩ : Ref), a0.Method, a0.Number⟩ : ConsoleCommand))]) (rn (.cons o1 (.cons o1 .nil))) rfl rfl rfl rfl rfl (by intro i cs h; rcases i with _ | i <;> simp at h <;> (subst h; rfl)) ?_⟩
      (repeat' (first | exact .refl _ | exact .nil | refine .tup ?_ | refine .v ?_ | refine .cons ?_ ?_ | refine .agg ?_ | refine .one ?_ | exact .nil _ | exact .emp _ | refine .val ?_ | refine .slc ?_ ?_ | fail))
    replace h := Md.cond_f h c16
    refine aw_skip (aw_seq (aw_region (s_mv ?_)))
    refine aops_step1 rfl (st_len_str rfl rfl) ?_
    iterate 2 refine s_sa ?_
    refine aops_nil ?_
    cases Option.some.inj h
    refine aw_ret ⟨rfl, ret_b (bs := [(c_ConsoleCommand (⟨a0.Kind, a0.Topic, (⟨x1, a0.Actor.Key⟩ : Ref), a0.Method, a0.Number⟩ : ConsoleCommand))]) (rn (.cons o1 (.cons o1 .nil))) rfl rfl rfl rfl rfl (by intro i cs h; rcases i with _ | i <;> simp at h <;> (subst h; rfl)) ?_⟩
    (repeat' (first | exact .refl _ | exact .nil | refine .tup ?_ | refine .v ?_ | refine .cons ?_ ?_ | refine .agg ?_ | refine .one ?_ | exact .nil _ | exact .emp _ | refine .val ?_ | refine .slc ?_ ?_ | fail))
  replace h := Md.cond_f h c14
  refine aw_seq (aw_region (s_cm ?_))
  refine s_sa ?_
  refine aops_nil ?_
  refine aw_cond rfl (fun c17 => ?_) (fun c17 => ?_)
  · replace h := Md.cond_t h c17
    refine aw_region ?_
    iterate 2 refine s_mv ?_
    refine aops_step1 rfl (ev_nilc rfl rfl) (s_fd ?_)
    refine s_st [_, _, _, _, _, _] ?_
    refine aops_nil (aw_seq (aw_seq (aw_region (s_mv ?_))))
    obtain ⟨x18, hx18, h⟩ := Md.bind_s h
    refine aops_step1 rfl (ev_call_v (console_Name_fn k x1 x18 hx18) rfl [] ai rfl rfl rfl (.inl rfl) rfl) (s_nt ?_)
    refine aops_nil ?_
    refine aw_cond rfl (fun c19 => ?_) (fun c19 => ?_)
    · replace h := Md.cond_t h c19
      refine aw_seq (aw_region ?_)
      iterate 2 refine s_sa ?_
      refine aops_nil ?_
      cases Option.some.inj h
      refine aw_ret ⟨rfl, ret_b (bs := [(c_ConsoleCommand (⟨a0.Kind, a0.Topic, a0.Actor, x1, a0.Number⟩ : ConsoleCommand))]) (rn (.cons o1 (.cons o1 .nil))) rfl rfl rfl rfl rfl (by intro i cs h; rcases i with _ | i <;> simp at h <;> (subst h; rfl)) ?_⟩
      (repeat' (first | exact .refl _ | exact .nil | refine .tup ?_ | refine .v ?_ | refine .cons ?_ ?_ | refine .agg ?_ | refine .one ?_ | exact .nil _ | exact .emp _ | refine .val ?_ | refine .slc ?_ ?_ | fail))
    replace h := Md.cond_f h c19
    refine aw_skip (aw_seq (aw_region (s_mv ?_)))
    refine aops_step1 rfl (st_len_str rfl rfl) ?_
    iterate 2 refine s_sa ?_
    refine aops_nil ?_
    cases Option.some.inj h
    refine aw_ret ⟨rfl, ret_b (bs := [(c_ConsoleCommand (⟨a0.Kind, a0.Topic, a0.Actor, x1, a0.Number⟩ : ConsoleCommand))]) (rn (.cons o1 (.cons o1 .nil))) rfl rfl rfl rfl rfl (by intro i cs h; rcases i with _ | i <;> simp at h <;> (subst h; rfl)) ?_⟩
    (repeat' (first | exact .refl _ | exact .nil | refine .tup ?_ | refine .v ?_ | refine .cons ?_ ?_ | refine .agg ?_ | refine .one ?_ | exact .nil _ | exact .emp _ | refine .val ?_ | refine .slc ?_ ?_ | fail))
  replace h := Md.cond_f h c17
  refine aw_skip (aw_seq (aw_seq (aw_region (s_mv ?_))))
  obtain ⟨x20, hx20, h⟩ := Md.bind_s h
  refine aops_step1 rfl (ev_call_v (console_Name_fn k x1 x20 hx20) rfl [] ai rfl rfl rfl (.inl rfl) rfl) (s_nt ?_)
  refine aops_nil ?_
  refine aw_cond rfl (fun c21 => ?_) (fun c21 => ?_)
  · replace h := Md.cond_t h c21
    refine aw_seq (aw_region ?_)
    iterate 2 refine s_sa ?_
    refine aops_nil ?_
    cases Option.some.inj h
    refine aw_ret ⟨rfl, ret_b (bs := [(c_ConsoleCommand a0)]) (rn (.cons o1 (.cons o1 .nil))) rfl rfl rfl rfl rfl (by intro i cs h; rcases i with _ | i <;> simp at h <;> (subst h; rfl)) ?_⟩
    (repeat' (first | exact .refl _ | exact .nil | refine .tup ?_ | refine .v ?_ | refine .cons ?_ ?_ | refine .agg ?_ | refine .one ?_ | exact .nil _ | exact .emp _ | refine .val ?_ | refine .slc ?_ ?_ | fail))
  replace h := Md.cond_f h c21
  refine aw_skip (aw_seq (aw_region (s_mv ?_)))
  refine aops_step1 rfl (st_len_str rfl rfl) ?_
  iterate 2 refine s_sa ?_
  refine aops_nil ?_
  cases Option.some.inj h
  refine aw_ret ⟨rfl, ret_b (bs := [(c_ConsoleCommand a0)]) (rn (.cons o1 (.cons o1 .nil))) rfl rfl rfl rfl rfl (by intro i cs h; rcases i with _ | i <;> simp at h <;> (subst h; rfl)) ?_⟩
  (repeat' (first | exact .refl _ | exact .nil | refine .tup ?_ | refine .v ?_ | refine .cons ?_ ?_ | refine .agg ?_ | refine .one ?_ | exact .nil _ | exact .emp _ | refine .val ?_ | refine .slc ?_ ?_ | fail))
set_option maxHeartbeats 2000000 in
theorem console_Parse_fn (k : Nat) (a0 : List UInt8) (r : ConsoleCommand × Int × Int) (h : console_Parse k a0 = some r) : FnC Tryd.prog 26 [.one (.val (Sv a0))] [] (Det (.tup [.agg (c_ConsoleCommand r.1), vI r.2.1, vI r.2.2]) []) := by
  unfold console_Parse at h
  refine fn_intro' 87 Tryd.func26 rfl rfl rfl (aw_seq (aw_region ?_))
  refine aops_step1 rfl (st_alloc (cs := [cI 0, .val (Sv []), .val (Sv []), .val (Sv []), .val (Sv []), cI 0]) 0 rfl rfl rfl rfl rfl) ?_
  iterate 2 refine s_sa ?_
  refine aops_nil (aw_seq (aw_region (s_mv ?_)))
  obtain ⟨x1, hx1, h⟩ := Md.bind_s h
  refine aops_step1 rfl (ev_call_v (console_word_fn k a0 x1 hx1) rfl [] ai rfl rfl rfl (.inl rfl) rfl) (s_sa ?_)
  refine aops_nil (aw_seq (aw_seq (aw_region ?_)))
  obtain ⟨x2, hx2, h⟩ := Md.bind_s h
  refine aops_step1 rfl (ev_call_v (console_formats_fn k x2 hx2) rfl [] ai rfl rfl rfl (.inl rfl) rfl) (s_mv ?_)
  refine aops_nil (aw_block ?_)
  obtain ⟨o3, ho3, h⟩ := Md.bind_s h
  refine aw_loop_x (ι := {p : Nat × Nat × ConsoleCommand // console_Parse_loop1 k x1 x2 p.1 p.2.1 p.2.2 = some o3}) (fun p => (⟨87, [], [(0, .one (.val (Sv a0))), (2, .one (.ptr 0 0)), (5, .one (.val (Sv x1))), (15, .agg (c_Arr8Consoleformat x2)), (16, vI ((p.1.2.1 : Nat) : Int))], [(0, some (.box (c_ConsoleCommand p.1.2.2)))]⟩ : ASt)) (fun p => p.1.1) ⟨(k, 0, (⟨0, ([] : List UInt8), (⟨([] : List UInt8), ([] : List UInt8)⟩ : Ref), ([] : List UInt8), 0⟩ : ConsoleCommand)), ho3⟩ wk 0 (ε := ConsoleCommand) (fun x => (⟨87, [], [(0, .one (.val (Sv a0))), (2, .one (.ptr 0 0)), (5, .one (.val (Sv x1)))], [(0, some (.box ([cI x.Kind, .val (Sv x.Topic)] ++ c_Ref x.Actor ++ [.val (Sv x.Method), cI x.Number])))]⟩ : ASt)) (fun x => x = o3) (fun _ _ w h => aw_weak w h) ?_ ?_
  · intro x3_0 hI3
    subst hI3
    change AW _ _ (⟨87, [], [(0, .one (.val (Sv a0))), (2, .one (.ptr 0 0)), (5, .one (.val (Sv x1)))], [(0, some (.box (c_ConsoleCommand x3_0)))]⟩ : ASt) _
    refine aw_seq (aw_seq (aw_region (s_fd ?_)))
    refine s_ld ?_
    refine s_cm ?_
    refine aops_nil ?_
    refine aw_cond rfl (fun c4 => ?_) (fun c4 => ?_)
    · replace h := Md.cond_t h c4
      refine aw_seq (aw_region (aops_step1 rfl (ev_build' (out := [_, _, _, _, _, _]) rfl rfl rfl rfl rfl) (s_st [_, _, _, _, _, _] ?_)))
      iterate 2 refine s_sa ?_
      refine aops_nil ?_
      cases Option.some.inj h
      exact aw_ret ⟨rfl, rv (rn (.cons (va [_, _, _, _, _, _]) (.cons o1 (.cons o1 .nil))))⟩
    replace h := Md.cond_f h c4
    refine aw_skip ?_
    obtain ⟨x5, hx5, h⟩ := Md.bind_s h
    obtain ⟨g6, h⟩ := Md.ifp_s h
    refine aw_seq ?_
    apply aw_draw 5 ((⟨[], .agg (c_Arr8Consoleformat x5)⟩ : Add) :: ⟨[], .one (.ptr 0 _)⟩ :: ⟨[], vI x3_0.Kind⟩ :: ⟨[], .agg (c_Consoleformat (x5.get x3_0.Kind))⟩ :: ⟨[(1, some (.box [.val (Sv []), .val (Sv []), cI 0, cI 0]))], .one (.ptr 1 _)⟩ :: []) (by decide) rfl ?hk1x ?hf1x ?ho1x ?hr1x
    case ho1x =>
     refine ob [] (fun S hle hfr => .inl ⟨w0, ev_call_v (console_formats_fn k x5 hx5) (map_ev (.nil)) [] (by repeat' (first | exact .nil | refine .cons ?_ ?_ | refine .one ?_ | refine .agg ?_ | exact .mk rfl | exact .lend (hle.heap _ _ rfl) (by simp) | exact .le (.nil _) rfl | exact .le (.emp _) rfl | exact .le (.any _) rfl | fail)) rfl rfl rfl (.inl rfl) (hle.d rfl)⟩) ?_
     refine ob [] (fun S hle hfr => .inl ⟨w0, ev_field (hle.e rfl) rfl (hle.d rfl)⟩) ?_
     refine ob [1] (fun S hle hfr => .inl ⟨w0, ev_load (hle.e rfl) (hle.heap _ _ rfl) rfl (hle.d rfl)⟩) ?_
     refine ob [0, 2, 1] (fun S hle hfr => .inl ⟨w0, ev_index_get (ds := (c_Consoleformat (x5.get x3_0.Kind))) (hle.e rfl) (hle.e rfl) (get_Arr8Consoleformat x5 _ g6) (hle.d rfl)⟩) ?_
     refine ob [] (fun S hle hfr => .inl ⟨w0, st_alloc (cs := [.val (Sv []), .val (Sv []), cI 0, cI 0]) 1 (hfr _ (List.mem_singleton.2 rfl)) rfl rfl rfl (hle.d rfl)⟩) ?_
     exact trivial
    case hk1x => rfl
    case hf1x => rfl
    refine s_st [_, _, _, _] ?_
    refine aops_nil (aw_seq (aw_region (s_mv ?_)))
    refine aops_step1 rfl (st_len_str rfl rfl) (s_sa ?_)
    refine aops_nil (aw_seq (aw_seq (aw_region (s_fd ?_))))
    refine s_ld ?_
    refine aops_step1 rfl (ev_range 2 rfl rfl rfl) (aops_nil (aw_block ?_))
    obtain ⟨o7, ho7, h⟩ := Md.bind_s h
    refine aw_loop_x (ι := {p : Nat × Int × ConsoleCommand × Nat // console_Parse_loop2 k a0 x3_0 x5 p.1 p.2.1 p.2.2.1 p.2.2.2 = some o7}) (fun p => (⟨87, [], [(0, .one (.val (Sv a0))), (2, .one (.ptr 0 0)), (3, vI p.1.2.1), (8, .one (.ptr 1 0)), (43, .one (.itp 2))], [(0, some (.box (c_ConsoleCommand p.1.2.2.1))), (1, some (.box (c_Consoleformat (x5.get x3_0.Kind)))), (2, some (itB ((x5.get x3_0.Kind).words) p.1.2.2.2))]⟩ : ASt)) (fun p => p.1.1) ⟨(k, ((x1.length : Nat) : Int), x3_0, 0), ho7⟩ wk 2 (ε := (Int × ConsoleCommand)) (fun x => (⟨87, [], [(0, .one (.val (Sv a0))), (2, .one (.ptr 0 0)), (3, vI x.1)], [(0, some (.box (c_ConsoleCommand x.2)))]⟩ : ASt)) (fun x => Sum.inl x = o7) (fun _ _ w h => aw_weak w h) ?_ ?_
    · intro x7_0 hI7
      subst hI7
      replace h := Md.onS_l h
      change AW _ _ (⟨87, [], [(0, .one (.val (Sv a0))), (2, .one (.ptr 0 0)), (3, vI x7_0.1)], [(0, some (.box (c_ConsoleCommand x7_0.2)))]⟩ : ASt) _
      refine aw_seq (aw_seq (aw_region ?_))
      iterate 2 refine s_mv ?_
      refine aops_step1 rfl (st_len_str rfl rfl) (s_cm ?_)
      refine aops_nil ?_
      refine aw_cond rfl (fun c8 => ?_) (fun c8 => ?_)
      · replace h := Md.cond_t h c8
        refine aw_seq (aw_region (aops_step1 rfl (ev_build' (out := [_, _, _, _, _, _]) rfl rfl rfl rfl rfl) (s_mv ?_)))
        refine s_st [_, _, _, _, _, _] ?_
        iterate 2 refine s_sa ?_
        refine aops_nil ?_
        cases Option.some.inj h
        exact aw_ret ⟨rfl, rv (rn (.cons (va [_, _, _, _, _, _]) (.cons o1 (.cons o1 .nil))))⟩
      replace h := Md.cond_f h c8
      refine aw_skip (aw_seq (aw_region (s_ls [_, _, _, _, _, _] ?_)))
      refine s_mv ?_
      refine s_st [_, _, _, _, _, _] ?_
      iterate 2 refine s_sa ?_
      refine aops_nil ?_
      cases Option.some.inj h
      exact aw_ret ⟨rfl, rv (rn (.cons (va [_, _, _, _, _, _]) (.cons o1 (.cons o1 .nil))))⟩
    intro p7
    obtain ⟨⟨n7, s7_0, s7_1, s7_2⟩, l7⟩ := p7
    change AW _ _ (⟨87, [], [(0, .one (.val (Sv a0))), (2, .one (.ptr 0 0)), (3, vI s7_0), (8, .one (.ptr 1 0)), (43, .one (.itp 2))], [(0, some (.box (c_ConsoleCommand s7_1))), (1, some (.box (c_Consoleformat (x5.get x3_0.Kind)))), (2, some (itB ((x5.get x3_0.Kind).words) s7_2))]⟩ : ASt) _
    replace l7 : console_Parse_loop2 k a0 x3_0 x5 n7 s7_0 s7_1 s7_2 = some o7 := l7
    rcases n7 with _ | n7
    · exact absurd (show none = some o7 from l7) nofun
    rw [console_Parse_loop2] at l7
    refine aw_seq (aw_region ?_)
    rcases Md.bool_or ((decide (s7_2 < ((x5.get x3_0.Kind).words).length))) with q9 | q9
    · replace l7 := Md.cond_t l7 q9
      obtain ⟨g10, l7⟩ := Md.ifp_s l7
      refine aops_step1 rfl (ev_next_yes rfl rfl (of_decide_eq_true q9) g10 rfl) (s_ex ?_)
      refine aops_nil (aw_seq (aw_yes rfl (rfl) (aw_skip (aw_block (aw_seq (aw_region (s_ex ?_)))))))
      refine s_sa ?_
      refine aops_nil (aw_seq (aw_seq (aw_region ?_)))
      iterate 2 refine s_mv ?_
      refine aops_step1 rfl (st_len_str rfl rfl) (s_cm ?_)
      refine aops_nil ?_
      refine aw_cond rfl (fun c11 => ?_) (fun c11 => ?_)
      · replace l7 := Md.cond_t l7 c11
        refine aw_seq (aw_region (aops_step1 rfl (ev_build' (out := [_, _, _, _, _, _]) rfl rfl rfl rfl rfl) (s_mv ?_)))
        refine s_st [_, _, _, _, _, _] ?_
        iterate 2 refine s_sa ?_
        refine aops_nil ?_
        cases Option.some.inj l7
        replace h := Md.onS_r h
        cases Option.some.inj h
        exact aw_ret ⟨rfl, rv (rn (.cons (va [_, _, _, _, _, _]) (.cons o1 (.cons o1 .nil))))⟩
      replace l7 := Md.cond_f l7 c11
      refine aw_skip (aw_seq (aw_seq (aw_region ?_)))
      iterate 2 refine s_mv ?_
      obtain ⟨g12, l7⟩ := Md.ifp_s l7
      refine aops_step1 rfl (st_index_str rfl rfl (Md.idx_eq g12) (Md.idx_lt g12) rfl) (s_cm ?_)
      refine aops_nil ?_
      refine aw_cond rfl (fun c13 => ?_) (fun c13 => ?_)
      · replace l7 := Md.cond_t l7 c13
        refine aw_seq (aw_region (aops_step1 rfl (ev_build' (out := [_, _, _, _, _, _]) rfl rfl rfl rfl rfl) (s_mv ?_)))
        refine s_st [_, _, _, _, _, _] ?_
        iterate 2 refine s_sa ?_
        refine aops_nil ?_
        cases Option.some.inj l7
        replace h := Md.onS_r h
        cases Option.some.inj h
        exact aw_ret ⟨rfl, rv (rn (.cons (va [_, _, _, _, _, _]) (.cons o1 (.cons o1 .nil))))⟩
      replace l7 := Md.cond_f l7 c13
      refine aw_skip ?_
      obtain ⟨g14, l7⟩ := Md.ifp_s l7
      obtain ⟨g15, l7⟩ := Md.ifp_s l7
      obtain ⟨x16, hx16, l7⟩ := Md.bind_s l7
      refine aw_seq ?_
      apply aw_draw_set 11 6 (0 :: 1 :: 5 :: 2 :: 4 :: 3 :: []) ((⟨[], .agg (c_Consoleformat (x5.get x3_0.Kind))⟩ : Add) :: ⟨[], .one (.val (.int .i32 (((((x5.get x3_0.Kind).words).getD s7_2 0).toNat : Nat) : Int)))⟩ :: ⟨[], .one (.val (Sv a0))⟩ :: ⟨[], vI s7_0⟩ :: ⟨[], vI (Md.W (s7_0 + 1))⟩ :: ⟨[], .one (.val (Sv (a0.drop (((Md.W (s7_0 + 1))).toNat))))⟩ :: ⟨[(0, some (.box (c_ConsoleCommand x16.2.2)))], .tup [vI x16.1, vI x16.2.1]⟩ :: ⟨[], .tup [vI x16.1, vI x16.2.1]⟩ :: ⟨[], vI x16.1⟩ :: ⟨[], vI x16.2.1⟩ :: ⟨[], vI x16.1⟩ :: []) (by decide) rfl (by decide +kernel) ?hk4x ?hf4x ?ho4x ?hr4x
      case ho4x =>
       refine ⟨⟨[], (by decide +kernel), .inr (.inl rfl), fun S hle hfr0 => ?_⟩, ?_⟩
       · exact .inl ⟨w0, ev_loads (ds := [_, _, _, _]) (hle.e rfl) (hle.heap _ _ rfl) rfl rfl (hle.d rfl)⟩
       refine ⟨⟨[], (by decide +kernel), .inr (.inl rfl), fun S hle hfr0 => ?_⟩, ?_⟩
       · exact .inl ⟨w0, st_move (hle.e rfl) (hle.d rfl)⟩
       refine ⟨⟨[], (by decide +kernel), .inr (.inl rfl), fun S hle hfr0 => ?_⟩, ?_⟩
       · exact .inl ⟨w0, st_move (hle.e rfl) (hle.d rfl)⟩
       refine ⟨⟨[], (by decide +kernel), .inr (.inl rfl), fun S hle hfr0 => ?_⟩, ?_⟩
       · exact .inl ⟨w0, st_move (hle.e rfl) (hle.d rfl)⟩
       refine ⟨⟨3 :: [], (by decide +kernel), .inr (.inl rfl), fun S hle hfr0 => ?_⟩, ?_⟩
       · exact .inl ⟨w0, ev_add (hle.e rfl) (hle.e rfl) (hle.d rfl) (Md.wrap_W _)⟩
       refine ⟨⟨2 :: 4 :: 3 :: [], (by decide +kernel), .inr (.inl rfl), fun S hle hfr0 => ?_⟩, ?_⟩
       · exact .inl ⟨w0, st_cut_lo_s (hle.e rfl) ⟨_, _, (hle.e rfl), (Md.nn_eq g14)⟩ g15 (hle.d rfl)⟩
       refine ⟨⟨0 :: 1 :: 5 :: 2 :: 4 :: 3 :: [], (by decide +kernel), .inl rfl, fun S hle hfr0 => ?_⟩, ?_⟩
       · exact .inl ⟨w0, ev_call_b [0] (console_read_fn k s7_1 (⟨((x5.get x3_0.Kind).word), ((x5.get x3_0.Kind).words), ((x5.get x3_0.Kind).min), ((x5.get x3_0.Kind).max)⟩ : Consoleformat) (((((x5.get x3_0.Kind).words).getD s7_2 0).toNat : Nat) : Int) (a0.drop (((Md.W (s7_0 + 1))).toNat)) x16 hx16) (map_ev (.cons (hle.e rfl) (.cons (hle.e rfl) (.cons (hle.e rfl) (.cons (hle.e rfl) (.nil)))))) [] (by repeat' (first | exact .nil | refine .cons ?_ ?_ | refine .one ?_ | refine .agg ?_ | exact .mk rfl | exact .lend (hle.heap _ _ rfl) (by simp) | exact .le (.nil _) rfl | exact .le (.emp _) rfl | exact .le (.any _) rfl | fail)) rfl rfl rfl rfl rfl rfl (.cons (hle.heap _ _ rfl) .nil) rfl rfl rfl (.inl rfl) (hle.d rfl)⟩
       refine ⟨⟨6 :: 0 :: 1 :: 5 :: 2 :: 4 :: 3 :: [], (by decide +kernel), .inr (.inr rfl), fun S hle hfr0 => ?_⟩, ?_⟩
       · exact .inl ⟨w0, st_movet (hle.e rfl) (hle.d rfl)⟩
       refine ⟨⟨7 :: 6 :: 0 :: 1 :: 5 :: 2 :: 4 :: 3 :: [], (by decide +kernel), .inr (.inr rfl), fun S hle hfr0 => ?_⟩, ?_⟩
       · exact .inl ⟨w0, ev_extract (hle.e rfl) rfl (hle.d rfl)⟩
       refine ⟨⟨7 :: 6 :: 0 :: 1 :: 5 :: 2 :: 4 :: 3 :: [], (by decide +kernel), .inr (.inr rfl), fun S hle hfr0 => ?_⟩, ?_⟩
       · exact .inl ⟨w0, ev_extract (hle.e rfl) rfl (hle.d rfl)⟩
       refine ⟨⟨8 :: 6 :: 0 :: 1 :: 2 :: 3 :: 4 :: 5 :: 7 :: [], (by decide +kernel), .inr (.inr rfl), fun S hle hfr0 => ?_⟩, ?_⟩
       · exact .inl ⟨w0, st_assign (hle.e rfl) (hle.d rfl)⟩
       exact trivial
      case hk4x => rfl
      case hf4x => rfl
      refine s_sa ?_
      refine aops_nil (aw_seq (aw_seq (aw_region (s_mv ?_))))
      refine s_cm ?_
      refine aops_nil ?_
      refine aw_cond rfl (fun c17 => ?_) (fun c17 => ?_)
      · replace l7 := Md.cond_t l7 c17
        refine aw_seq (aw_region (aops_step1 rfl (ev_build' (out := [_, _, _, _, _, _]) rfl rfl rfl rfl rfl) (s_mv ?_)))
        refine aops_step1 rfl (ev_add rfl rfl rfl (Md.wrap_W _)) (s_mv ?_)
        refine s_st [_, _, _, _, _, _] ?_
        iterate 2 refine s_sa ?_
        refine aops_nil ?_
        cases Option.some.inj l7
        replace h := Md.onS_r h
        cases Option.some.inj h
        exact aw_ret ⟨rfl, rv (rn (.cons (va [_, _, _, _, _, _]) (.cons o1 (.cons o1 .nil))))⟩
      replace l7 := Md.cond_f l7 c17
      refine aw_skip (aw_region ?_)
      iterate 2 refine s_mv ?_
      refine aops_step1 rfl (ev_add rfl rfl rfl (Md.wrap_W _)) (aops_step1 rfl (ev_add rfl rfl rfl (Md.wrap_W _)) (s_sa ?_))
      refine aops_nil ?_
      exact ⟨⟨(n7, (Md.W (s7_0 + (Md.W (1 + x16.1)))), x16.2.2, (s7_2 + 1)), l7⟩, Nat.lt_succ_self _, wk⟩
    replace l7 := Md.cond_f l7 q9
    refine aops_step1 rfl (ev_next_no rfl rfl (of_decide_eq_false q9) rfl) (s_ex ?_)
    refine aops_nil (aw_seq (aw_no rfl (rfl) (aw_exit ?_)))
    show ∃ _x : Int × ConsoleCommand, _ = _ ∧ Weak _ _
    exact ⟨(s7_0, s7_1), Option.some.inj l7, wk⟩
  intro p3
  obtain ⟨⟨n3, s3_0, s3_1⟩, l3⟩ := p3
  change AW _ _ (⟨87, [], [(0, .one (.val (Sv a0))), (2, .one (.ptr 0 0)), (5, .one (.val (Sv x1))), (15, .agg (c_Arr8Consoleformat x2)), (16, vI ((s3_0 : Nat) : Int))], [(0, some (.box (c_ConsoleCommand s3_1)))]⟩ : ASt) _
  replace l3 : console_Parse_loop1 k x1 x2 n3 s3_0 s3_1 = some o3 := l3
  rcases n3 with _ | n3
  · exact absurd (show none = some o3 from l3) nofun
  rw [console_Parse_loop1] at l3
  refine aw_seq (aw_region (s_cm ?_))
  refine aops_nil (aw_seq ?_)
  refine aw_cond rfl (fun c18 => ?_) (fun c18 => ?_)
  · replace l3 := Md.cond_t l3 c18
    refine aw_skip ?_
    obtain ⟨o19, j19, l3⟩ := Md.bind_s l3
    refine aw_cut (ε := ConsoleCommand) (fun x => (⟨87, [], [(0, .one (.val (Sv a0))), (2, .one (.ptr 0 0)), (5, .one (.val (Sv x1))), (15, .agg (c_Arr8Consoleformat x2)), (16, vI ((s3_0 : Nat) : Int))], [(0, some (.box ([cI x.Kind, .val (Sv x.Topic)] ++ c_Ref x.Actor ++ [.val (Sv x.Method), cI x.Number])))]⟩ : ASt)) (fun x => x = o19) ?_ ?_
    · intro x19_0 hI19
      subst hI19
      change AW _ _ (⟨87, [], [(0, .one (.val (Sv a0))), (2, .one (.ptr 0 0)), (5, .one (.val (Sv x1))), (15, .agg (c_Arr8Consoleformat x2)), (16, vI ((s3_0 : Nat) : Int))], [(0, some (.box (c_ConsoleCommand x19_0)))]⟩ : ASt) _
      refine aw_region ?_
      obtain ⟨g20, l3⟩ := Md.ifp_s l3
      refine aops_step1 rfl (ev_add rfl rfl rfl (Md.nat_add g20)) (s_mv ?_)
      refine aops_nil ?_
      exact ⟨⟨(n3, (s3_0 + 1), x19_0), l3⟩, Nat.lt_succ_self _, wk⟩
    refine aw_block (aw_seq (aw_region (s_mv ?_)))
    obtain ⟨g21, j19⟩ := Md.ifp_s j19
    refine aops_step1 rfl (ev_index_get (ds := (c_Consoleformat (x2.get ((s3_0 : Nat) : Int)))) rfl rfl (get_Arr8Consoleformat x2 _ (Md.nat_rng g21)) rfl) ?_
    refine aops_step1 rfl (st_alloc (cs := [.val (Sv []), .val (Sv []), cI 0, cI 0]) 1 rfl rfl rfl rfl rfl) (s_sa ?_)
    refine s_st [_, _, _, _] ?_
    refine aops_nil (aw_seq (aw_region (s_mv ?_)))
    refine s_cm ?_
    refine s_mv ?_
    refine aops_mid 5 (⟨87, [], [(0, .one (.val (Sv a0))), (2, .one (.ptr 0 0)), (5, .one (.val (Sv x1))), (6, vI ((s3_0 : Nat) : Int)), (15, .agg (c_Arr8Consoleformat x2)), (16, vI ((s3_0 : Nat) : Int)), (27, vB ((decide (((s3_0 : Nat) : Int) > 0)) && (decide (((x2.get ((s3_0 : Nat) : Int)).word) = x1))))], [(0, some (.box (c_ConsoleCommand s3_1)))]⟩ : ASt) ?_ ?_
    · rcases Md.bool_or ((decide (((s3_0 : Nat) : Int) > 0))) with q22 | q22
      · skip
        refine y_fd q22 ?_
        refine y_ld q22 ?_
        refine y_mv q22 ?_
        refine aops_yes rfl rfl rfl rfl q22 (st_str_eq rfl rfl rfl) (s_py q22 ?_)
        refine aops_nil ?_
        exact wq q22
      iterate 4 refine np q22 ?_
      refine s_pn q22 ?_
      refine aops_nil ?_
      exact wq q22
    refine aops_nil ?_
    refine aw_cond rfl (fun c23 => ?_) (fun c23 => ?_)
    · replace j19 := Md.cond_t j19 c23
      refine aw_region (s_mv ?_)
      refine s_fd ?_
      refine s_st [_, _, _, _, _, _] ?_
      refine aops_nil ?_
      show ∃ _x : ConsoleCommand, _ = _ ∧ Weak _ _
      exact ⟨(⟨((s3_0 : Nat) : Int), s3_1.Topic, s3_1.Actor, s3_1.Method, s3_1.Number⟩ : ConsoleCommand), Option.some.inj j19, wk⟩
    replace j19 := Md.cond_f j19 c23
    refine aw_skip ?_
    show ∃ _x : ConsoleCommand, _ = _ ∧ Weak _ _
    exact ⟨s3_1, Option.some.inj j19, wk⟩
  replace l3 := Md.cond_f l3 c18
  refine aw_exit ?_
  show ∃ _x : ConsoleCommand, _ = _ ∧ Weak _ _
  exact ⟨s3_1, Option.some.inj l3, wk⟩
end Md
end Go.Proofs.YtjpiiejdaiaocaaDoor
