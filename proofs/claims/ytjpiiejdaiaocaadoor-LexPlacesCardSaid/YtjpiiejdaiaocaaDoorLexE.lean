/-
  LexE: where a function's model gives a value, the function returns what reads as it (printed by wip/tools/auto.py). Condition of each: the model gives a value.
-/
import Derived.Test.YtjpiiejdaiaocaaDoorLexEM
import Derived.Test.YtjpiiejdaiaocaaDoorTy
import Derived.Test.YtjpiiejdaiaocaaDoorAbsU
import Derived.Test.YtjpiiejdaiaocaaDoorLexD
namespace Go.Proofs.YtjpiiejdaiaocaaDoor
open Go.ChangeShapes Go.WideShapes Go.RowKit
open Abs
set_option linter.unusedVariables false
set_option linter.unusedSimpArgs false
set_option maxRecDepth 10000
namespace Md
theorem sq_Token (x y : Token) (w : World) : (Op.equalIn 10000 49 (.agg ([.int .i64 x.Kind, Sv x.Text, .int .i64 x.Num, .int .i64 x.At] : List Value).toArray) (.agg ([.int .i64 y.Kind, Sv y.Text, .int .i64 y.Num, .int .i64 y.At] : List Value).toArray)).run Tryd.prog w = .ok (decide (x = y)) w := by
  obtain ⟨x0, x1, x2, x3⟩ := x
  obtain ⟨y0, y1, y2, y3⟩ := y
  simp [go_sem]
  (repeat' split) <;> simp_all
set_option maxHeartbeats 2000000 in
theorem actorgridref17_letter_fn (k : Nat) (a0 : UInt8) (r : Bool) (h : actorgridref17_letter k a0 = some r) : FnC Tryd.prog 72 [.one (.val (.int .u8 (a0.toNat : Int)))] [] (Det (vB r) []) := by
  unfold actorgridref17_letter at h
  refine fn_intro' 21 Tryd.func72 rfl rfl rfl (aw_seq (aw_region (s_sa ?_)))
  refine aops_nil (aw_seq (aw_region (s_mv ?_)))
  refine s_cm ?_
  refine s_mv ?_
  refine aops_mid 3 (⟨21, [], [(0, .one (.val (.int .u8 (a0.toNat : Int)))), (2, vB false), (8, vB ((decide ((a0.toNat : Int) ≥ 97)) && (decide ((a0.toNat : Int) ≤ 122))))], []⟩ : ASt) ?_ ?_
  · rcases Md.bool_or ((decide ((a0.toNat : Int) ≥ 97))) with q1 | q1
    · skip
      refine y_mv q1 ?_
      refine y_cm q1 ?_
      refine s_py q1 ?_
      refine aops_nil ?_
      exact wq q1
    iterate 2 refine np q1 ?_
    refine s_pn q1 ?_
    refine aops_nil ?_
    exact wq q1
  refine s_mv ?_
  refine aops_mid 7 (⟨21, [], [(0, .one (.val (.int .u8 (a0.toNat : Int)))), (2, vB false), (16, vB (((decide ((a0.toNat : Int) ≥ 97)) && (decide ((a0.toNat : Int) ≤ 122))) || ((decide ((a0.toNat : Int) ≥ 65)) && (decide ((a0.toNat : Int) ≤ 90)))))], []⟩ : ASt) ?_ ?_
  · rcases Md.bool_or (((decide ((a0.toNat : Int) ≥ 97)) && (decide ((a0.toNat : Int) ≤ 122)))) with q2 | q2
    · skip
      iterate 3 refine np q2 ?_
      refine aops_und rfl rfl rfl rfl rfl (aops_und rfl rfl rfl rfl rfl (np q2 ?_))
      refine s_py q2 ?_
      refine aops_nil ?_
      exact wq q2
    refine y_mv q2 ?_
    refine y_cm q2 ?_
    refine y_mv q2 ?_
    refine aops_mid 3 (⟨21, [], [(0, .one (.val (.int .u8 (a0.toNat : Int)))), (2, vB false), (9, vB ((decide ((a0.toNat : Int) ≥ 97)) && (decide ((a0.toNat : Int) ≤ 122)))), (15, vB ((decide ((a0.toNat : Int) ≥ 65)) && (decide ((a0.toNat : Int) ≤ 90))))], []⟩ : ASt) ?_ ?_
    · rcases Md.bool_or ((decide ((a0.toNat : Int) ≥ 65))) with q3 | q3
      · skip
        refine y_mv q3 ?_
        refine y_cm q3 ?_
        refine aops_yes rfl rfl rfl rfl q2 (st_pick_yes rfl (by first | rfl | exact q3) rfl rfl) (aops_nil ?_)
        exact wq q3
      iterate 2 refine np q3 ?_
      refine aops_yes rfl rfl rfl rfl q2 (st_pick_no rfl (by first | rfl | exact q3) rfl rfl) (aops_nil ?_)
      exact wq q3
    change AOps _ _ _ (⟨21, [], [(0, .one (.val (.int .u8 (a0.toNat : Int)))), (2, vB false), (9, vB ((decide ((a0.toNat : Int) ≥ 97)) && (decide ((a0.toNat : Int) ≤ 122)))), (15, vB ((decide ((a0.toNat : Int) ≥ 65)) && (decide ((a0.toNat : Int) ≤ 90))))], []⟩ : ASt) _
    refine s_pn q2 ?_
    refine aops_nil ?_
    exact wq q2
  refine s_mv ?_
  refine aops_mid 3 (⟨21, [], [(2, vB false), (20, vB ((((decide ((a0.toNat : Int) ≥ 97)) && (decide ((a0.toNat : Int) ≤ 122))) || ((decide ((a0.toNat : Int) ≥ 65)) && (decide ((a0.toNat : Int) ≤ 90)))) || ((a0.toNat : Int) == 95)))], []⟩ : ASt) ?_ ?_
  · rcases Md.bool_or ((((decide ((a0.toNat : Int) ≥ 97)) && (decide ((a0.toNat : Int) ≤ 122))) || ((decide ((a0.toNat : Int) ≥ 65)) && (decide ((a0.toNat : Int) ≤ 90))))) with q4 | q4
    · skip
      iterate 2 refine np q4 ?_
      refine s_py q4 ?_
      refine aops_nil ?_
      exact wq q4
    refine y_mv q4 ?_
    refine y_cm q4 ?_
    refine s_pn q4 ?_
    refine aops_nil ?_
    exact wq q4
  refine s_sa ?_
  refine aops_nil ?_
  cases Option.some.inj h
  exact aw_ret ⟨rfl, rv r1⟩
set_option maxHeartbeats 2000000 in
theorem actorgridref17_digit_fn (k : Nat) (a0 : UInt8) (r : Bool) (h : actorgridref17_digit k a0 = some r) : FnC Tryd.prog 56 [.one (.val (.int .u8 (a0.toNat : Int)))] [] (Det (vB r) []) := by
  unfold actorgridref17_digit at h
  refine fn_intro' 9 Tryd.func56 rfl rfl rfl (aw_seq (aw_region (s_sa ?_)))
  refine aops_nil (aw_seq (aw_region (s_mv ?_)))
  refine s_cm ?_
  refine s_mv ?_
  refine aops_mid 3 (⟨9, [], [(2, vB false), (8, vB ((decide ((a0.toNat : Int) ≥ 48)) && (decide ((a0.toNat : Int) ≤ 57))))], []⟩ : ASt) ?_ ?_
  · rcases Md.bool_or ((decide ((a0.toNat : Int) ≥ 48))) with q1 | q1
    · skip
      refine y_mv q1 ?_
      refine y_cm q1 ?_
      refine s_py q1 ?_
      refine aops_nil ?_
      exact wq q1
    iterate 2 refine np q1 ?_
    refine s_pn q1 ?_
    refine aops_nil ?_
    exact wq q1
  refine s_sa ?_
  refine aops_nil ?_
  cases Option.some.inj h
  exact aw_ret ⟨rfl, rv r1⟩
set_option maxHeartbeats 2000000 in
theorem actorgridref17_word_fn (k : Nat) (a0 : UInt8) (r : Bool) (h : actorgridref17_word k a0 = some r) : FnC Tryd.prog 55 [.one (.val (.int .u8 (a0.toNat : Int)))] [] (Det (vB r) []) := by
  unfold actorgridref17_word at h
  refine fn_intro' 9 Tryd.func55 rfl rfl rfl (aw_seq (aw_region (s_sa ?_)))
  refine aops_nil (aw_seq (aw_region (s_mv ?_)))
  obtain ⟨x1, hx1, h⟩ := Md.bind_s h
  refine aops_step1 rfl (ev_call_v (actorgridref17_letter_fn k a0 x1 hx1) rfl [] ai rfl rfl rfl (.inl rfl) rfl) (s_mv ?_)
  obtain ⟨o2, j2, h⟩ := Md.bind_s h
  refine aops_cut 3 (ε := Bool) (fun x2 => (⟨9, [], [(2, vB false), (8, vB x2)], []⟩ : ASt)) (fun x2 => x2 = o2) ?_ ?_
  · intro x2 hI2
    subst hI2
    change AOps _ _ _ (⟨9, [], [(2, vB false), (8, vB x2)], []⟩ : ASt) _
    refine s_sa ?_
    refine aops_nil ?_
    cases Option.some.inj h
    exact aw_ret ⟨rfl, rv r1⟩
  rcases Md.bool_or (x1) with q2 | q2
  · replace j2 := Md.cond_t j2 q2
    iterate 2 refine np q2 ?_
    refine s_py q2 ?_
    refine aops_nil ?_
    show ∃ _x : Bool, _ = _ ∧ Weak _ _
    exact ⟨true, Option.some.inj j2, wk⟩
  replace j2 := Md.cond_f j2 q2
  refine y_mv q2 ?_
  obtain ⟨x3, hx3, j2⟩ := Md.bind_s j2
  refine aops_yes rfl rfl rfl rfl q2 (ev_call_v (actorgridref17_digit_fn k a0 x3 hx3) rfl [] ai rfl rfl rfl (.inl rfl) rfl) (s_pn q2 ?_)
  refine aops_nil ?_
  show ∃ _x : Bool, _ = _ ∧ Weak _ _
  exact ⟨x3, Option.some.inj j2, wk⟩
set_option maxHeartbeats 2000000 in
theorem actorgridref17_IsKeyword_fn (k : Nat) (a0 : List UInt8) (r : Bool) (h : actorgridref17_IsKeyword k a0 = some r) : FnC Tryd.prog 35 [.one (.val (Sv a0))] [] (Det (vB r) []) := by
  unfold actorgridref17_IsKeyword at h
  refine fn_intro' 26 Tryd.func35 rfl rfl rfl (aw_seq (aw_region (s_sa ?_)))
  refine aops_nil (aw_seq (aw_seq (aw_region (s_mv ?_))))
  refine aops_nil (aw_block (aw_seq (aw_seq (aw_region (aops_step1 rfl (st_str_eq rfl rfl rfl) (s_sa ?_))))))
  refine aops_nil ?_
  refine aw_cond rfl (fun c1 => ?_) (fun c1 => ?_)
  · replace h := Md.cond_t h c1
    refine aw_skip (aw_yes rfl (c1) (aw_seq (aw_region (s_sa ?_))))
    refine aops_nil ?_
    cases Option.some.inj h
    exact aw_ret ⟨rfl, rv r1⟩
  replace h := Md.cond_f h c1
  refine aw_seq (aw_region (aops_step1 rfl (st_str_eq rfl rfl rfl) (s_sa ?_)))
  refine aops_nil ?_
  refine aw_cond rfl (fun c2 => ?_) (fun c2 => ?_)
  · replace h := Md.cond_t h c2
    refine aw_skip (aw_yes rfl (c2) (aw_seq (aw_region (s_sa ?_))))
    refine aops_nil ?_
    cases Option.some.inj h
    exact aw_ret ⟨rfl, rv r1⟩
  replace h := Md.cond_f h c2
  refine aw_seq (aw_region (aops_step1 rfl (st_str_eq rfl rfl rfl) (s_sa ?_)))
  refine aops_nil ?_
  refine aw_cond rfl (fun c3 => ?_) (fun c3 => ?_)
  · replace h := Md.cond_t h c3
    refine aw_skip (aw_yes rfl (c3) (aw_seq (aw_region (s_sa ?_))))
    refine aops_nil ?_
    cases Option.some.inj h
    exact aw_ret ⟨rfl, rv r1⟩
  replace h := Md.cond_f h c3
  refine aw_seq (aw_region (aops_step1 rfl (st_str_eq rfl rfl rfl) (s_sa ?_)))
  refine aops_nil ?_
  refine aw_cond rfl (fun c4 => ?_) (fun c4 => ?_)
  · replace h := Md.cond_t h c4
    refine aw_skip (aw_yes rfl (c4) (aw_seq (aw_region (s_sa ?_))))
    refine aops_nil ?_
    cases Option.some.inj h
    exact aw_ret ⟨rfl, rv r1⟩
  replace h := Md.cond_f h c4
  refine aw_seq (aw_region (aops_step1 rfl (st_str_eq rfl rfl rfl) (s_sa ?_)))
  refine aops_nil ?_
  refine aw_cond rfl (fun c5 => ?_) (fun c5 => ?_)
  · replace h := Md.cond_t h c5
    refine aw_skip (aw_yes rfl (c5) (aw_seq (aw_region (s_sa ?_))))
    refine aops_nil ?_
    cases Option.some.inj h
    exact aw_ret ⟨rfl, rv r1⟩
  replace h := Md.cond_f h c5
  refine aw_seq (aw_region (aops_step1 rfl (st_str_eq rfl rfl rfl) (s_sa ?_)))
  refine aops_nil ?_
  refine aw_cond rfl (fun c6 => ?_) (fun c6 => ?_)
  · replace h := Md.cond_t h c6
    refine aw_skip (aw_yes rfl (c6) (aw_seq (aw_region (s_sa ?_))))
    refine aops_nil ?_
    cases Option.some.inj h
    exact aw_ret ⟨rfl, rv r1⟩
  replace h := Md.cond_f h c6
  refine aw_seq (aw_region (aops_step1 rfl (st_str_eq rfl rfl rfl) (s_sa ?_)))
  refine aops_nil ?_
  refine aw_cond rfl (fun c7 => ?_) (fun c7 => ?_)
  · replace h := Md.cond_t h c7
    refine aw_skip (aw_yes rfl (c7) (aw_seq (aw_region (s_sa ?_))))
    refine aops_nil ?_
    cases Option.some.inj h
    exact aw_ret ⟨rfl, rv r1⟩
  replace h := Md.cond_f h c7
  refine aw_seq (aw_region (aops_step1 rfl (st_str_eq rfl rfl rfl) (s_sa ?_)))
  refine aops_nil ?_
  refine aw_cond rfl (fun c8 => ?_) (fun c8 => ?_)
  · replace h := Md.cond_t h c8
    refine aw_skip (aw_yes rfl (c8) (aw_seq (aw_region (s_sa ?_))))
    refine aops_nil ?_
    cases Option.some.inj h
    exact aw_ret ⟨rfl, rv r1⟩
  replace h := Md.cond_f h c8
  refine aw_seq (aw_region (aops_step1 rfl (st_str_eq rfl rfl rfl) (s_sa ?_)))
  refine aops_nil ?_
  refine aw_cond rfl (fun c9 => ?_) (fun c9 => ?_)
  · replace h := Md.cond_t h c9
    refine aw_skip (aw_yes rfl (c9) (aw_seq (aw_region (s_sa ?_))))
    refine aops_nil ?_
    cases Option.some.inj h
    exact aw_ret ⟨rfl, rv r1⟩
  replace h := Md.cond_f h c9
  refine aw_seq (aw_region (aops_step1 rfl (st_str_eq rfl rfl rfl) (s_sa ?_)))
  refine aops_nil ?_
  refine aw_cond rfl (fun c10 => ?_) (fun c10 => ?_)
  · replace h := Md.cond_t h c10
    refine aw_skip (aw_yes rfl (c10) (aw_seq (aw_region (s_sa ?_))))
    refine aops_nil ?_
    cases Option.some.inj h
    exact aw_ret ⟨rfl, rv r1⟩
  replace h := Md.cond_f h c10
  refine aw_seq (aw_region (aops_step1 rfl (st_str_eq rfl rfl rfl) (s_sa ?_)))
  refine aops_nil ?_
  refine aw_cond rfl (fun c11 => ?_) (fun c11 => ?_)
  · replace h := Md.cond_t h c11
    refine aw_skip (aw_yes rfl (c11) (aw_seq (aw_region (s_sa ?_))))
    refine aops_nil ?_
    cases Option.some.inj h
    exact aw_ret ⟨rfl, rv r1⟩
  replace h := Md.cond_f h c11
  refine aw_seq (aw_region (aops_step1 rfl (st_str_eq rfl rfl rfl) (s_sa ?_)))
  refine aops_nil ?_
  refine aw_cond rfl (fun c12 => ?_) (fun c12 => ?_)
  · replace h := Md.cond_t h c12
    refine aw_skip (aw_yes rfl (c12) (aw_seq (aw_region (s_sa ?_))))
    refine aops_nil ?_
    cases Option.some.inj h
    exact aw_ret ⟨rfl, rv r1⟩
  replace h := Md.cond_f h c12
  refine aw_seq (aw_region (aops_step1 rfl (st_str_eq rfl rfl rfl) (s_sa ?_)))
  refine aops_nil ?_
  refine aw_cond rfl (fun c13 => ?_) (fun c13 => ?_)
  · replace h := Md.cond_t h c13
    refine aw_skip (aw_yes rfl (c13) (aw_seq (aw_region (s_sa ?_))))
    refine aops_nil ?_
    cases Option.some.inj h
    exact aw_ret ⟨rfl, rv r1⟩
  replace h := Md.cond_f h c13
  refine aw_seq (aw_region (aops_step1 rfl (st_str_eq rfl rfl rfl) (s_sa ?_)))
  refine aops_nil ?_
  refine aw_cond rfl (fun c14 => ?_) (fun c14 => ?_)
  · replace h := Md.cond_t h c14
    refine aw_skip (aw_yes rfl (c14) (aw_seq (aw_region (s_sa ?_))))
    refine aops_nil ?_
    cases Option.some.inj h
    exact aw_ret ⟨rfl, rv r1⟩
  replace h := Md.cond_f h c14
  refine aw_seq (aw_region (aops_step1 rfl (st_str_eq rfl rfl rfl) (s_sa ?_)))
  refine aops_nil ?_
  refine aw_cond rfl (fun c15 => ?_) (fun c15 => ?_)
  · replace h := Md.cond_t h c15
    refine aw_skip (aw_yes rfl (c15) (aw_seq (aw_region (s_sa ?_))))
    refine aops_nil ?_
    cases Option.some.inj h
    exact aw_ret ⟨rfl, rv r1⟩
  replace h := Md.cond_f h c15
  refine aw_seq (aw_region (aops_step1 rfl (st_str_eq rfl rfl rfl) (s_sa ?_)))
  refine aops_nil ?_
  refine aw_cond rfl (fun c16 => ?_) (fun c16 => ?_)
  · replace h := Md.cond_t h c16
    refine aw_skip (aw_yes rfl (c16) (aw_seq (aw_region (s_sa ?_))))
    refine aops_nil ?_
    cases Option.some.inj h
    exact aw_ret ⟨rfl, rv r1⟩
  replace h := Md.cond_f h c16
  refine aw_seq (aw_region (aops_step1 rfl (st_str_eq rfl rfl rfl) (s_sa ?_)))
  refine aops_nil ?_
  refine aw_cond rfl (fun c17 => ?_) (fun c17 => ?_)
  · replace h := Md.cond_t h c17
    refine aw_skip (aw_yes rfl (c17) (aw_seq (aw_region (s_sa ?_))))
    refine aops_nil ?_
    cases Option.some.inj h
    exact aw_ret ⟨rfl, rv r1⟩
  replace h := Md.cond_f h c17
  refine aw_seq (aw_region (aops_step1 rfl (st_str_eq rfl rfl rfl) (s_sa ?_)))
  refine aops_nil ?_
  refine aw_cond rfl (fun c18 => ?_) (fun c18 => ?_)
  · replace h := Md.cond_t h c18
    refine aw_skip (aw_yes rfl (c18) (aw_seq (aw_region (s_sa ?_))))
    refine aops_nil ?_
    cases Option.some.inj h
    exact aw_ret ⟨rfl, rv r1⟩
  replace h := Md.cond_f h c18
  refine aw_seq (aw_region (aops_step1 rfl (st_str_eq rfl rfl rfl) (s_sa ?_)))
  refine aops_nil ?_
  refine aw_cond rfl (fun c19 => ?_) (fun c19 => ?_)
  · replace h := Md.cond_t h c19
    refine aw_skip (aw_yes rfl (c19) (aw_seq (aw_region (s_sa ?_))))
    refine aops_nil ?_
    cases Option.some.inj h
    exact aw_ret ⟨rfl, rv r1⟩
  replace h := Md.cond_f h c19
  refine aw_seq (aw_region (aops_step1 rfl (st_str_eq rfl rfl rfl) (s_sa ?_)))
  refine aops_nil ?_
  refine aw_cond rfl (fun c20 => ?_) (fun c20 => ?_)
  · replace h := Md.cond_t h c20
    refine aw_skip (aw_yes rfl (c20) (aw_seq (aw_region (s_sa ?_))))
    refine aops_nil ?_
    cases Option.some.inj h
    exact aw_ret ⟨rfl, rv r1⟩
  replace h := Md.cond_f h c20
  refine aw_region (aops_step1 rfl (st_str_eq rfl rfl rfl) (s_sa ?_))
  refine aops_nil ?_
  refine aw_cond rfl (fun c21 => ?_) (fun c21 => ?_)
  · replace h := Md.cond_t h c21
    refine aw_seq (aw_region (s_sa ?_))
    refine aops_nil ?_
    cases Option.some.inj h
    exact aw_ret ⟨rfl, rv r1⟩
  replace h := Md.cond_f h c21
  refine aw_skip (aw_seq (aw_region (s_sa ?_)))
  refine aops_nil ?_
  cases Option.some.inj h
  exact aw_ret ⟨rfl, rv r1⟩
set_option maxHeartbeats 2000000 in
theorem actorgridref17_Decimal_fn (k : Nat) (a0 : List UInt8) (r : Int × Bool) (h : actorgridref17_Decimal k a0 = some r) : FnC Tryd.prog 73 [.one (.val (Sv a0))] [] (Det (.tup [vI r.1, vB r.2]) []) := by
  unfold actorgridref17_Decimal at h
  refine fn_intro' 28 Tryd.func73 rfl rfl rfl (aw_seq (aw_region ?_))
  iterate 2 refine s_sa ?_
  refine aops_nil (aw_seq (aw_region (s_sa ?_)))
  refine aops_nil (aw_seq (aw_seq (aw_region (s_sa ?_))))
  refine aops_nil (aw_block ?_)
  obtain ⟨o1, ho1, h⟩ := Md.bind_s h
  refine aw_loop_x (ι := {p : Nat × Nat × Nat // actorgridref17_Decimal_loop1 k a0 p.1 p.2.1 p.2.2 = some o1}) (fun p => (⟨28, [], [(0, .one (.val (Sv a0))), (4, vI ((p.1.2.1 : Nat) : Int)), (5, vI ((p.1.2.2 : Nat) : Int))], []⟩ : ASt)) (fun p => p.1.1) ⟨(k, 0, 0), ho1⟩ wk 0 (ε := Nat) (fun x => (⟨28, [], [(4, vI ((x : Nat) : Int))], []⟩ : ASt)) (fun x => Sum.inl x = o1) (fun _ _ w h => aw_weak w h) ?_ ?_
  · intro x1_0 hI1
    subst hI1
    replace h := Md.onS_l h
    change AW _ _ (⟨28, [], [(4, vI ((x1_0 : Nat) : Int))], []⟩ : ASt) _
    refine aw_seq (aw_region (s_mv ?_))
    iterate 2 refine s_sa ?_
    refine aops_nil ?_
    cases Option.some.inj h
    exact aw_ret ⟨rfl, rv (rn (.cons o1 (.cons o1 .nil)))⟩
  intro p1
  obtain ⟨⟨n1, s1_0, s1_1⟩, l1⟩ := p1
  change AW _ _ (⟨28, [], [(0, .one (.val (Sv a0))), (4, vI ((s1_0 : Nat) : Int)), (5, vI ((s1_1 : Nat) : Int))], []⟩ : ASt) _
  replace l1 : actorgridref17_Decimal_loop1 k a0 n1 s1_0 s1_1 = some o1 := l1
  rcases n1 with _ | n1
  · exact absurd (show none = some o1 from l1) nofun
  rw [actorgridref17_Decimal_loop1] at l1
  refine aw_seq (aw_seq (aw_region ?_))
  iterate 2 refine s_mv ?_
  refine aops_step1 rfl (st_len_str rfl rfl) (s_cm ?_)
  refine aops_nil ?_
  refine aw_cond rfl (fun c2 => ?_) (fun c2 => ?_)
  · replace l1 := Md.cond_t l1 c2
    refine aw_skip (aw_seq (aw_block (aw_seq (aw_region ?_))))
    iterate 2 refine s_mv ?_
    obtain ⟨g3, l1⟩ := Md.ifp_s l1
    refine aops_step1 rfl (st_index_str rfl rfl rfl g3 rfl) (aops_step1 rfl (ev_sub rfl rfl rfl (Md.sub_u8 (a0.getD s1_1 0) (48 : UInt8))) ?_)
    refine aops_step1 rfl (st_conv_int rfl rfl Tryd.underlying5 Tryd.underlying3 (Md.conv_u8_i64 ((a0.getD s1_1 0) - (48 : UInt8)))) (s_sa ?_)
    refine aops_nil (aw_seq (aw_seq (aw_region ?_)))
    iterate 2 refine s_mv ?_
    refine aops_step1 rfl (ev_sub rfl rfl rfl (Md.wrap_W _)) (aops_step1 rfl (ev_quo rfl rfl rfl (by decide) (Md.wrap_W _)) (s_cm ?_))
    refine aops_nil ?_
    refine aw_cond rfl (fun c4 => ?_) (fun c4 => ?_)
    · replace l1 := Md.cond_t l1 c4
      refine aw_seq (aw_region ?_)
      iterate 2 refine s_sa ?_
      refine aops_nil ?_
      cases Option.some.inj l1
      replace h := Md.onS_r h
      cases Option.some.inj h
      exact aw_ret ⟨rfl, rv (rn (.cons o1 (.cons o1 .nil)))⟩
    replace l1 := Md.cond_f l1 c4
    refine aw_skip (aw_region (s_mv ?_))
    obtain ⟨g5, l1⟩ := Md.ifp_s l1
    refine aops_step1 rfl (ev_mul rfl rfl rfl (Md.nat_mul g5)) (s_mv ?_)
    obtain ⟨g6, l1⟩ := Md.ifp_s l1
    refine aops_step1 rfl (ev_add rfl rfl rfl (Md.nat_add g6)) (s_sa ?_)
    refine aops_nil (aw_region (s_mv ?_))
    obtain ⟨g7, l1⟩ := Md.ifp_s l1
    refine aops_step1 rfl (ev_add rfl rfl rfl (Md.nat_add g7)) (s_sa ?_)
    refine aops_nil ?_
    exact ⟨⟨(n1, ((10 * s1_0) + (((a0.getD s1_1 0) - (48 : UInt8)).toNat)), (s1_1 + 1)), l1⟩, Nat.lt_succ_self _, wk⟩
  replace l1 := Md.cond_f l1 c2
  refine aw_exit ?_
  show ∃ _x : Nat, _ = _ ∧ Weak _ _
  exact ⟨s1_0, Option.some.inj l1, wk⟩
set_option maxHeartbeats 2000000 in
theorem actorgridref17_hex_fn (k : Nat) (a0 : UInt8) (r : Int) (h : actorgridref17_hex k a0 = some r) : FnC Tryd.prog 84 [.one (.val (.int .u8 (a0.toNat : Int)))] [] (Det (vI r) []) := by
  unfold actorgridref17_hex at h
  refine fn_intro' 20 Tryd.func84 rfl rfl rfl (aw_seq (aw_region (s_sa ?_)))
  refine aops_nil (aw_seq (aw_block (aw_seq (aw_region (s_mv ?_)))))
  obtain ⟨x1, hx1, h⟩ := Md.bind_s h
  refine aops_step1 rfl (ev_call_v (actorgridref17_digit_fn k a0 x1 hx1) rfl [] ai rfl rfl rfl (.inl rfl) rfl) (s_sa ?_)
  refine aops_nil ?_
  refine aw_cond rfl (fun c2 => ?_) (fun c2 => ?_)
  · replace h := Md.cond_t h c2
    refine aw_seq (aw_region (s_mv ?_))
    refine aops_step1 rfl (ev_sub rfl rfl rfl (Md.sub_u8 a0 (48 : UInt8))) ?_
    refine aops_step1 rfl (st_conv_int rfl rfl Tryd.underlying5 Tryd.underlying3 (Md.conv_u8_i64 (a0 - (48 : UInt8)))) (s_sa ?_)
    refine aops_nil ?_
    cases Option.some.inj h
    exact aw_ret ⟨rfl, rv r1⟩
  replace h := Md.cond_f h c2
  refine aw_seq (aw_region (s_mv ?_))
  refine s_cm ?_
  refine s_mv ?_
  refine aops_mid 3 (⟨20, [], [(0, .one (.val (.int .u8 (a0.toNat : Int)))), (15, vB ((decide ((a0.toNat : Int) ≥ 97)) && (decide ((a0.toNat : Int) ≤ 102))))], []⟩ : ASt) ?_ ?_
  · rcases Md.bool_or ((decide ((a0.toNat : Int) ≥ 97))) with q3 | q3
    · skip
      refine y_mv q3 ?_
      refine y_cm q3 ?_
      refine s_py q3 ?_
      refine aops_nil ?_
      exact wq q3
    iterate 2 refine np q3 ?_
    refine s_pn q3 ?_
    refine aops_nil ?_
    exact wq q3
  refine s_sa ?_
  refine aops_nil ?_
  refine aw_cond rfl (fun c4 => ?_) (fun c4 => ?_)
  · replace h := Md.cond_t h c4
    refine aw_seq (aw_region (s_mv ?_))
    refine aops_step1 rfl (ev_sub rfl rfl rfl (Md.sub_u8 a0 (97 : UInt8))) ?_
    refine aops_step1 rfl (st_conv_int rfl rfl Tryd.underlying5 Tryd.underlying3 (Md.conv_u8_i64 (a0 - (97 : UInt8)))) ?_
    obtain ⟨g5, h⟩ := Md.ifp_s h
    refine aops_step1 rfl (ev_add rfl rfl rfl (Md.nat_add g5)) (s_sa ?_)
    refine aops_nil ?_
    cases Option.some.inj h
    exact aw_ret ⟨rfl, rv r1⟩
  replace h := Md.cond_f h c4
  refine aw_skip (aw_seq (aw_region (s_sa ?_)))
  refine aops_nil ?_
  cases Option.some.inj h
  exact aw_ret ⟨rfl, rv r1⟩
set_option maxHeartbeats 2000000 in
theorem actorgridref17_text_fn (k : Nat) (a0 : List UInt8) (a1 : Int) (r : (List UInt8) × Int × Bool) (h : actorgridref17_text k a0 a1 = some r) : FnC Tryd.prog 74 [.one (.val (Sv a0)), vI a1] [] (Det (.tup [.one (.val (Sv r.1)), vI r.2.1, vB r.2.2]) []) := by
  unfold actorgridref17_text at h
  refine fn_intro' 127 Tryd.func74 rfl rfl rfl (aw_seq (aw_region ?_))
  iterate 3 refine s_sa ?_
  refine aops_nil (aw_seq (aw_region (s_sa ?_)))
  refine aops_nil (aw_seq (aw_seq (aw_region (s_mv ?_))))
  refine aops_step1 rfl (ev_add rfl rfl rfl (Md.wrap_W _)) (s_sa ?_)
  refine aops_nil (aw_block (aw_own_nil 7 0 5 1 (lsEl byC []) rfl rfl ?_))
  obtain ⟨o1, ho1, h⟩ := Md.bind_s h
  refine aw_loop_x (ι := {p : Nat × Int × (List UInt8) // actorgridref17_text_loop1 k a0 p.1 p.2.1 p.2.2 = some o1}) (fun p => (⟨127, [], [(0, .one (.val (Sv a0))), (7, .one (.own 0)), (8, vI p.1.2.1)], [(0, some (.row 5 1 p.1.2.2.length (lsEl byC p.1.2.2)))]⟩ : ASt)) (fun p => p.1.1) ⟨(k, (Md.W (a1 + 1)), ([] : List UInt8)), ho1⟩ wk 0 (ε := Unit) (fun x => (⟨127, [], [], []⟩ : ASt)) (fun x => Sum.inl x = o1) (fun _ _ w h => aw_weak w h) ?_ ?_
  · intro x1_0 hI1
    subst hI1
    replace h := Md.onS_l h
    change AW _ _ (⟨127, [], [], []⟩ : ASt) _
    refine aw_seq (aw_region ?_)
    iterate 3 refine s_sa ?_
    refine aops_nil ?_
    cases Option.some.inj h
    exact aw_ret ⟨rfl, rv (rn (.cons o1 (.cons o1 (.cons o1 .nil))))⟩
  intro p1
  obtain ⟨⟨n1, s1_0, s1_1⟩, l1⟩ := p1
  change AW _ _ (⟨127, [], [(0, .one (.val (Sv a0))), (7, .one (.own 0)), (8, vI s1_0)], [(0, some (.row 5 1 s1_1.length (lsEl byC s1_1)))]⟩ : ASt) _
  replace l1 : actorgridref17_text_loop1 k a0 n1 s1_0 s1_1 = some o1 := l1
  rcases n1 with _ | n1
  · exact absurd (show none = some o1 from l1) nofun
  rw [actorgridref17_text_loop1] at l1
  refine aw_seq (aw_seq (aw_region ?_))
  iterate 2 refine s_mv ?_
  refine aops_step1 rfl (st_len_str rfl rfl) (s_cm ?_)
  refine aops_nil ?_
  refine aw_cond rfl (fun c2 => ?_) (fun c2 => ?_)
  · replace l1 := Md.cond_t l1 c2
    refine aw_skip ?_
    obtain ⟨o3, j3, l1⟩ := Md.bind_s l1
    refine aw_cut (ε := (Int × (List UInt8))) (fun x => (⟨127, [], [(0, .one (.val (Sv a0))), (7, .one (.own 0)), (8, vI x.1)], [(0, some (.row 5 1 x.2.length (lsEl byC x.2)))]⟩ : ASt)) (fun x => Sum.inl x = o3) ?_ ?_
    · intro x3_0 hI3
      subst hI3
      replace l1 := Md.onS_l l1
      change AW _ _ (⟨127, [], [(0, .one (.val (Sv a0))), (7, .one (.own 0)), (8, vI x3_0.1)], [(0, some (.row 5 1 x3_0.2.length (lsEl byC x3_0.2)))]⟩ : ASt) _
      refine aw_region (s_mv ?_)
      refine aops_step1 rfl (ev_add rfl rfl rfl (Md.wrap_W _)) (s_sa ?_)
      refine aops_nil ?_
      exact ⟨⟨(n1, (Md.W (x3_0.1 + 1)), x3_0.2), l1⟩, Nat.lt_succ_self _, wk⟩
    refine aw_block (aw_seq (aw_region ?_))
    iterate 2 refine s_mv ?_
    obtain ⟨g4, j3⟩ := Md.ifp_s j3
    refine aops_step1 rfl (st_index_str rfl rfl (Md.idx_eq g4) (Md.idx_lt g4) rfl) (s_sa ?_)
    refine aops_nil (aw_block (aw_seq (aw_region (s_mv ?_))))
    refine s_cm ?_
    refine s_sa ?_
    refine aops_nil ?_
    refine aw_cond rfl (fun c5 => ?_) (fun c5 => ?_)
    · replace j3 := Md.cond_t j3 c5
      refine aw_seq (aw_region (s_mv ?_))
      refine aops_step1 rfl (ev_str_bytes (.inr ⟨_, _, rfl, rfl⟩) Tryd.underlying42 Tryd.underlying5 Tryd.underlying9 rfl) (s_mv ?_)
      refine aops_step1 rfl (ev_add rfl rfl rfl (Md.wrap_W _)) ?_
      iterate 3 refine s_sa ?_
      refine aops_nil ?_
      cases Option.some.inj j3
      replace l1 := Md.onS_r l1
      cases Option.some.inj l1
      replace h := Md.onS_r h
      cases Option.some.inj h
      exact aw_ret ⟨rfl, rv (rn (.cons o1 (.cons o1 (.cons o1 .nil))))⟩
    replace j3 := Md.cond_f j3 c5
    refine aw_seq (aw_region (s_mv ?_))
    refine s_cm ?_
    refine s_mv ?_
    refine aops_mid 6 (⟨127, [], [(0, .one (.val (Sv a0))), (7, .one (.own 0)), (8, vI s1_0), (9, .one (.val (.int .u8 (((a0.getD ((s1_0).toNat) 0)).toNat : Int)))), (41, vB (((((a0.getD ((s1_0).toNat) 0)).toNat : Int) == 92) && (decide ((Md.W (s1_0 + 1)) < ((a0.length : Nat) : Int)))))], [(0, some (.row 5 1 s1_1.length (lsEl byC s1_1)))]⟩ : ASt) ?_ ?_
    · rcases Md.bool_or (((((a0.getD ((s1_0).toNat) 0)).toNat : Int) == 92)) with q6 | q6
      · skip
        refine y_mv q6 ?_
        refine aops_yes rfl rfl rfl rfl q6 (ev_add rfl rfl rfl (Md.wrap_W _)) (y_mv q6 ?_)
        refine aops_yes rfl rfl rfl rfl q6 (st_len_str rfl rfl) (y_cm q6 ?_)
        refine s_py q6 ?_
        refine aops_nil ?_
        exact wq q6
      iterate 5 refine np q6 ?_
      refine s_pn q6 ?_
      refine aops_nil ?_
      exact wq q6
    refine s_mv ?_
    obtain ⟨o7, j7, j3⟩ := Md.bind_s j3
    refine aops_cut 13 (ε := Bool) (fun x7 => (⟨127, [], [(0, .one (.val (Sv a0))), (7, .one (.own 0)), (8, vI s1_0), (9, .one (.val (.int .u8 (((a0.getD ((s1_0).toNat) 0)).toNat : Int)))), (55, vB x7)], [(0, some (.row 5 1 s1_1.length (lsEl byC s1_1)))]⟩ : ASt)) (fun x7 => x7 = o7) ?_ ?_
    · intro x7 hI7
      subst hI7
      change AOps _ _ _ (⟨127, [], [(0, .one (.val (Sv a0))), (7, .one (.own 0)), (8, vI s1_0), (9, .one (.val (.int .u8 (((a0.getD ((s1_0).toNat) 0)).toNat : Int)))), (55, vB x7)], [(0, some (.row 5 1 s1_1.length (lsEl byC s1_1)))]⟩ : ASt) _
      refine s_sa ?_
      refine aops_nil ?_
      refine aw_cond rfl (fun c8 => ?_) (fun c8 => ?_)
      · replace j3 := Md.cond_t j3 c8
        refine aw_seq (aw_region ?_)
        iterate 3 refine s_mv ?_
        refine aops_step1 rfl (ev_add rfl rfl rfl (Md.wrap_W _)) ?_
        obtain ⟨g9, j3⟩ := Md.ifp_s j3
        refine aops_step1 rfl (st_index_str rfl rfl (Md.idx_eq g9) (Md.idx_lt g9) rfl) ?_
        refine aops_step1 rfl (st_slice_lit (el := lsEl byC [(a0.getD (((Md.W (s1_0 + 1))).toNat) 0)]) 1 rfl rfl rfl rfl rfl rfl rfl rfl (lit_el byC 1 [(a0.getD (((Md.W (s1_0 + 1))).toNat) 0)] (fun _ => rfl)) rfl) ?_
        obtain ⟨g10, j3⟩ := Md.ifp_s j3
        refine aops_step1 rfl (st_app_ls (f := byC) s1_1 [(a0.getD (((Md.W (s1_0 + 1))).toNat) 0)] (fun _ => rfl) rfl rfl (.inr ⟨_, _, rfl, rfl⟩) (by omega) (by omega) rfl) (s_sa ?_)
        refine aops_nil (aw_region (s_mv ?_))
        refine aops_step1 rfl (ev_add rfl rfl rfl (Md.wrap_W _)) (s_sa ?_)
        refine aops_nil ?_
        show ∃ _x : Int × (List UInt8), _ = _ ∧ Weak _ _
        exact ⟨((Md.W (s1_0 + 1)), (s1_1 ++ [(a0.getD (((Md.W (s1_0 + 1))).toNat) 0)])), Option.some.inj j3, wk⟩
      replace j3 := Md.cond_f j3 c8
      refine aw_seq (aw_region (s_mv ?_))
      refine s_cm ?_
      refine s_mv ?_
      refine aops_mid 6 (⟨127, [], [(0, .one (.val (Sv a0))), (7, .one (.own 0)), (8, vI s1_0), (9, .one (.val (.int .u8 (((a0.getD ((s1_0).toNat) 0)).toNat : Int)))), (74, vB (((((a0.getD ((s1_0).toNat) 0)).toNat : Int) == 92) && (decide ((Md.W (s1_0 + 3)) < ((a0.length : Nat) : Int)))))], [(0, some (.row 5 1 s1_1.length (lsEl byC s1_1)))]⟩ : ASt) ?_ ?_
      · rcases Md.bool_or (((((a0.getD ((s1_0).toNat) 0)).toNat : Int) == 92)) with q11 | q11
        · skip
          refine y_mv q11 ?_
          refine aops_yes rfl rfl rfl rfl q11 (ev_add rfl rfl rfl (Md.wrap_W _)) (y_mv q11 ?_)
          refine aops_yes rfl rfl rfl rfl q11 (st_len_str rfl rfl) (y_cm q11 ?_)
          refine s_py q11 ?_
          refine aops_nil ?_
          exact wq q11
        iterate 5 refine np q11 ?_
        refine s_pn q11 ?_
        refine aops_nil ?_
        exact wq q11
      refine s_mv ?_
      obtain ⟨o12, j12, j3⟩ := Md.bind_s j3
      refine aops_cut 6 (ε := Bool) (fun x12 => (⟨127, [], [(0, .one (.val (Sv a0))), (7, .one (.own 0)), (8, vI s1_0), (9, .one (.val (.int .u8 (((a0.getD ((s1_0).toNat) 0)).toNat : Int)))), (81, vB x12)], [(0, some (.row 5 1 s1_1.length (lsEl byC s1_1)))]⟩ : ASt)) (fun x12 => x12 = o12) ?_ ?_
      · intro x12 hI12
        subst hI12
        change AOps _ _ _ (⟨127, [], [(0, .one (.val (Sv a0))), (7, .one (.own 0)), (8, vI s1_0), (9, .one (.val (.int .u8 (((a0.getD ((s1_0).toNat) 0)).toNat : Int)))), (81, vB x12)], [(0, some (.row 5 1 s1_1.length (lsEl byC s1_1)))]⟩ : ASt) _
        refine s_mv ?_
        obtain ⟨o13, j13, j3⟩ := Md.bind_s j3
        refine aops_cut 7 (ε := Bool) (fun x13 => (⟨127, [], [(0, .one (.val (Sv a0))), (7, .one (.own 0)), (8, vI s1_0), (9, .one (.val (.int .u8 (((a0.getD ((s1_0).toNat) 0)).toNat : Int)))), (89, vB x13)], [(0, some (.row 5 1 s1_1.length (lsEl byC s1_1)))]⟩ : ASt)) (fun x13 => x13 = o13) ?_ ?_
        · intro x13 hI13
          subst hI13
          change AOps _ _ _ (⟨127, [], [(0, .one (.val (Sv a0))), (7, .one (.own 0)), (8, vI s1_0), (9, .one (.val (.int .u8 (((a0.getD ((s1_0).toNat) 0)).toNat : Int)))), (89, vB x13)], [(0, some (.row 5 1 s1_1.length (lsEl byC s1_1)))]⟩ : ASt) _
          refine s_mv ?_
          obtain ⟨o14, j14, j3⟩ := Md.bind_s j3
          refine aops_cut 7 (ε := Bool) (fun x14 => (⟨127, [], [(0, .one (.val (Sv a0))), (7, .one (.own 0)), (8, vI s1_0), (9, .one (.val (.int .u8 (((a0.getD ((s1_0).toNat) 0)).toNat : Int)))), (97, vB x14)], [(0, some (.row 5 1 s1_1.length (lsEl byC s1_1)))]⟩ : ASt)) (fun x14 => x14 = o14) ?_ ?_
          · intro x14 hI14
            subst hI14
            change AOps _ _ _ (⟨127, [], [(0, .one (.val (Sv a0))), (7, .one (.own 0)), (8, vI s1_0), (9, .one (.val (.int .u8 (((a0.getD ((s1_0).toNat) 0)).toNat : Int)))), (97, vB x14)], [(0, some (.row 5 1 s1_1.length (lsEl byC s1_1)))]⟩ : ASt) _
            refine s_sa ?_
            refine aops_nil ?_
            refine aw_cond rfl (fun c15 => ?_) (fun c15 => ?_)
            · replace j3 := Md.cond_t j3 c15
              obtain ⟨g16, j3⟩ := Md.ifp_s j3
              obtain ⟨x17, hx17, j3⟩ := Md.bind_s j3
              obtain ⟨g18, j3⟩ := Md.ifp_s j3
              obtain ⟨x19, hx19, j3⟩ := Md.bind_s j3
              obtain ⟨g20, j3⟩ := Md.ifp_s j3
              refine aw_seq ?_
              apply aw_draw 15 ((⟨[], .one (.own 0)⟩ : Add) :: ⟨[], .one (.val (Sv a0))⟩ :: ⟨[], vI s1_0⟩ :: ⟨[], vI (Md.W (s1_0 + 2))⟩ :: ⟨[], .one (.val (.int .u8 (((a0.getD (((Md.W (s1_0 + 2))).toNat) 0)).toNat : Int)))⟩ :: ⟨[], vI x17⟩ :: ⟨[], vI (Md.W (16 * x17))⟩ :: ⟨[], .one (.val (Sv a0))⟩ :: ⟨[], vI s1_0⟩ :: ⟨[], vI (Md.W (s1_0 + 3))⟩ :: ⟨[], .one (.val (.int .u8 (((a0.getD (((Md.W (s1_0 + 3))).toNat) 0)).toNat : Int)))⟩ :: ⟨[], vI x19⟩ :: ⟨[], vI (Md.W ((Md.W (16 * x17)) + x19))⟩ :: ⟨[], .one (.val (.int .u8 (((UInt8.ofInt (Md.W ((Md.W (16 * x17)) + x19)))).toNat : Int)))⟩ :: ⟨[], .one (CV.ls byC [(UInt8.ofInt (Md.W ((Md.W (16 * x17)) + x19)))])⟩ :: []) (by decide) rfl ?hk7x ?hf7x ?ho7x ?hr7x
              case ho7x =>
               iterate 3 refine ob [] (fun S hle hfr => .inl ⟨w0, st_move (hle.e rfl) (hle.d rfl)⟩) ?_
               refine ob [2] (fun S hle hfr => .inl ⟨w0, ev_add (hle.e rfl) (hle.e rfl) (hle.d rfl) (Md.wrap_W _)⟩) ?_
               refine ob [1, 3, 2] (fun S hle hfr => .inl ⟨w0, st_index_str (hle.e rfl) (hle.e rfl) (Md.idx_eq g16) (Md.idx_lt g16) (hle.d rfl)⟩) ?_
               refine ob [4, 1, 3, 2] (fun S hle hfr => .inl ⟨w0, ev_call_v (actorgridref17_hex_fn k (a0.getD (((Md.W (s1_0 + 2))).toNat) 0) x17 hx17) (map_ev (.cons (hle.e rfl) (.nil))) [] (by repeat' (first | exact .nil | refine .cons ?_ ?_ | refine .one ?_ | refine .agg ?_ | exact .mk rfl | exact .lend (hle.heap _ _ rfl) (by simp) | exact .le (.nil _) rfl | exact .le (.emp _) rfl | exact .le (.any _) rfl | fail)) rfl rfl rfl (.inl rfl) (hle.d rfl)⟩) ?_
               refine ob [5, 4, 1, 3, 2] (fun S hle hfr => .inl ⟨w0, ev_mul (hle.e rfl) (hle.e rfl) (hle.d rfl) (Md.wrap_W _)⟩) ?_
               refine ob [] (fun S hle hfr => .inl ⟨w0, st_move (hle.e rfl) (hle.d rfl)⟩) (ob [] (fun S hle hfr => .inl ⟨w0, st_move (hle.e rfl) (hle.d rfl)⟩) ?_)
               refine ob [8] (fun S hle hfr => .inl ⟨w0, ev_add (hle.e rfl) (hle.e rfl) (hle.d rfl) (Md.wrap_W _)⟩) ?_
               refine ob [7, 9, 8] (fun S hle hfr => .inl ⟨w0, st_index_str (hle.e rfl) (hle.e rfl) (Md.idx_eq g18) (Md.idx_lt g18) (hle.d rfl)⟩) ?_
               refine ob [10, 5, 7, 9, 4, 8, 1, 3, 2] (fun S hle hfr => .inl ⟨w0, ev_call_v (actorgridref17_hex_fn k (a0.getD (((Md.W (s1_0 + 3))).toNat) 0) x19 hx19) (map_ev (.cons (hle.e rfl) (.nil))) [] (by repeat' (first | exact .nil | refine .cons ?_ ?_ | refine .one ?_ | refine .agg ?_ | exact .mk rfl | exact .lend (hle.heap _ _ rfl) (by simp) | exact .le (.nil _) rfl | exact .le (.emp _) rfl | exact .le (.any _) rfl | fail)) rfl rfl rfl (.inl rfl) (hle.d rfl)⟩) ?_
               refine ob [6, 11, 5, 10, 4, 7, 9, 1, 3, 8, 2] (fun S hle hfr => .inl ⟨w0, ev_add (hle.e rfl) (hle.e rfl) (hle.d rfl) (Md.wrap_W _)⟩) ?_
               refine ob [12, 6, 11, 5, 10, 4, 7, 9, 1, 3, 8, 2] (fun S hle hfr => .inl ⟨w0, st_conv_int (hle.e rfl) (hle.d rfl) Tryd.underlying3 Tryd.underlying5 (Md.ofInt_u8 (Md.W ((Md.W (16 * x17)) + x19)))⟩) ?_
               refine ob [13, 12, 6, 11, 5, 10, 4, 7, 9, 1, 3, 8, 2] (fun S hle hfr => .inl ⟨w0, st_slice_lit_z (el := lsEl byC [(UInt8.ofInt (Md.W ((Md.W (16 * x17)) + x19)))]) (map_ev2 (.cons (hle.e rfl) (.nil))) rfl rfl rfl rfl rfl rfl (lit_el byC 1 [(UInt8.ofInt (Md.W ((Md.W (16 * x17)) + x19)))] (fun _ => rfl)) (hle.d rfl)⟩) ?_
               exact trivial
              case hk7x => rfl
              case hf7x => rfl
              refine aops_step1 rfl (st_app_ls (f := byC) s1_1 [(UInt8.ofInt (Md.W ((Md.W (16 * x17)) + x19)))] (fun _ => rfl) rfl rfl (.inl rfl) (by omega) (by omega) rfl) (s_sa ?_)
              refine aops_nil (aw_region (s_mv ?_))
              refine aops_step1 rfl (ev_add rfl rfl rfl (Md.wrap_W _)) (s_sa ?_)
              refine aops_nil ?_
              show ∃ _x : Int × (List UInt8), _ = _ ∧ Weak _ _
              exact ⟨((Md.W (s1_0 + 3)), (s1_1 ++ [(UInt8.ofInt (Md.W ((Md.W (16 * x17)) + x19)))])), Option.some.inj j3, wk⟩
            replace j3 := Md.cond_f j3 c15
            refine aw_seq (aw_region (s_mv ?_))
            refine s_cm ?_
            refine s_mv ?_
            refine aops_mid 3 (⟨127, [], [(0, .one (.val (Sv a0))), (7, .one (.own 0)), (8, vI s1_0), (9, .one (.val (.int .u8 (((a0.getD ((s1_0).toNat) 0)).toNat : Int)))), (122, vB (((((a0.getD ((s1_0).toNat) 0)).toNat : Int) == 92) || (decide ((((a0.getD ((s1_0).toNat) 0)).toNat : Int) < 32))))], [(0, some (.row 5 1 s1_1.length (lsEl byC s1_1)))]⟩ : ASt) ?_ ?_
            · rcases Md.bool_or (((((a0.getD ((s1_0).toNat) 0)).toNat : Int) == 92)) with q21 | q21
              · skip
                iterate 2 refine np q21 ?_
                refine s_py q21 ?_
                refine aops_nil ?_
                exact wq q21
              refine y_mv q21 ?_
              refine y_cm q21 ?_
              refine s_pn q21 ?_
              refine aops_nil ?_
              exact wq q21
            refine s_mv ?_
            refine aops_mid 3 (⟨127, [], [(0, .one (.val (Sv a0))), (7, .one (.own 0)), (8, vI s1_0), (9, .one (.val (.int .u8 (((a0.getD ((s1_0).toNat) 0)).toNat : Int)))), (126, vB ((((((a0.getD ((s1_0).toNat) 0)).toNat : Int) == 92) || (decide ((((a0.getD ((s1_0).toNat) 0)).toNat : Int) < 32))) || (decide ((((a0.getD ((s1_0).toNat) 0)).toNat : Int) > 126))))], [(0, some (.row 5 1 s1_1.length (lsEl byC s1_1)))]⟩ : ASt) ?_ ?_
            · rcases Md.bool_or ((((((a0.getD ((s1_0).toNat) 0)).toNat : Int) == 92) || (decide ((((a0.getD ((s1_0).toNat) 0)).toNat : Int) < 32)))) with q22 | q22
              · skip
                iterate 2 refine np q22 ?_
                refine s_py q22 ?_
                refine aops_nil ?_
                exact wq q22
              refine y_mv q22 ?_
              refine y_cm q22 ?_
              refine s_pn q22 ?_
              refine aops_nil ?_
              exact wq q22
            refine s_sa ?_
            refine aops_nil ?_
            refine aw_cond rfl (fun c23 => ?_) (fun c23 => ?_)
            · replace j3 := Md.cond_t j3 c23
              refine aw_seq (aw_region ?_)
              iterate 3 refine s_sa ?_
              refine aops_nil ?_
              cases Option.some.inj j3
              replace l1 := Md.onS_r l1
              cases Option.some.inj l1
              replace h := Md.onS_r h
              cases Option.some.inj h
              exact aw_ret ⟨rfl, rv (rn (.cons o1 (.cons o1 (.cons o1 .nil))))⟩
            replace j3 := Md.cond_f j3 c23
            refine aw_region ?_
            iterate 2 refine s_mv ?_
            refine aops_step1 rfl (st_slice_lit (el := lsEl byC [(a0.getD ((s1_0).toNat) 0)]) 1 rfl rfl rfl rfl rfl rfl rfl rfl (lit_el byC 1 [(a0.getD ((s1_0).toNat) 0)] (fun _ => rfl)) rfl) ?_
            obtain ⟨g24, j3⟩ := Md.ifp_s j3
            refine aops_step1 rfl (st_app_ls (f := byC) s1_1 [(a0.getD ((s1_0).toNat) 0)] (fun _ => rfl) rfl rfl (.inr ⟨_, _, rfl, rfl⟩) (by omega) (by omega) rfl) (s_sa ?_)
            refine aops_nil ?_
            show ∃ _x : Int × (List UInt8), _ = _ ∧ Weak _ _
            exact ⟨(s1_0, (s1_1 ++ [(a0.getD ((s1_0).toNat) 0)])), Option.some.inj j3, wk⟩
          rcases Md.bool_or (x13) with q14 | q14
          · replace j14 := Md.cond_t j14 q14
            iterate 2 refine y_mv q14 ?_
            refine aops_yes rfl rfl rfl rfl q14 (ev_add rfl rfl rfl (Md.wrap_W _)) ?_
            obtain ⟨g25, j14⟩ := Md.ifp_s j14
            refine aops_yes rfl rfl rfl rfl q14 (st_index_str rfl rfl (Md.idx_eq g25) (Md.idx_lt g25) rfl) ?_
            obtain ⟨x26, hx26, j14⟩ := Md.bind_s j14
            refine aops_yes rfl rfl rfl rfl q14 (ev_call_v (actorgridref17_hex_fn k (a0.getD (((Md.W (s1_0 + 3))).toNat) 0) x26 hx26) rfl [] ai rfl rfl rfl (.inl rfl) rfl) (y_cm q14 ?_)
            refine s_py q14 ?_
            refine aops_nil ?_
            show ∃ _x : Bool, _ = _ ∧ Weak _ _
            exact ⟨(decide (x26 ≥ 0)), Option.some.inj j14, wk⟩
          replace j14 := Md.cond_f j14 q14
          iterate 6 refine np q14 ?_
          refine s_pn q14 ?_
          refine aops_nil ?_
          show ∃ _x : Bool, _ = _ ∧ Weak _ _
          exact ⟨false, Option.some.inj j14, wk⟩
        rcases Md.bool_or (x12) with q13 | q13
        · replace j13 := Md.cond_t j13 q13
          iterate 2 refine y_mv q13 ?_
          refine aops_yes rfl rfl rfl rfl q13 (ev_add rfl rfl rfl (Md.wrap_W _)) ?_
          obtain ⟨g27, j13⟩ := Md.ifp_s j13
          refine aops_yes rfl rfl rfl rfl q13 (st_index_str rfl rfl (Md.idx_eq g27) (Md.idx_lt g27) rfl) ?_
          obtain ⟨x28, hx28, j13⟩ := Md.bind_s j13
          refine aops_yes rfl rfl rfl rfl q13 (ev_call_v (actorgridref17_hex_fn k (a0.getD (((Md.W (s1_0 + 2))).toNat) 0) x28 hx28) rfl [] ai rfl rfl rfl (.inl rfl) rfl) (y_cm q13 ?_)
          refine s_py q13 ?_
          refine aops_nil ?_
          show ∃ _x : Bool, _ = _ ∧ Weak _ _
          exact ⟨(decide (x28 ≥ 0)), Option.some.inj j13, wk⟩
        replace j13 := Md.cond_f j13 q13
        iterate 6 refine np q13 ?_
        refine s_pn q13 ?_
        refine aops_nil ?_
        show ∃ _x : Bool, _ = _ ∧ Weak _ _
        exact ⟨false, Option.some.inj j13, wk⟩
      rcases Md.bool_or ((((((a0.getD ((s1_0).toNat) 0)).toNat : Int) == 92) && (decide ((Md.W (s1_0 + 3)) < ((a0.length : Nat) : Int))))) with q12 | q12
      · replace j12 := Md.cond_t j12 q12
        iterate 2 refine y_mv q12 ?_
        refine aops_yes rfl rfl rfl rfl q12 (ev_add rfl rfl rfl (Md.wrap_W _)) ?_
        obtain ⟨g29, j12⟩ := Md.ifp_s j12
        refine aops_yes rfl rfl rfl rfl q12 (st_index_str rfl rfl (Md.idx_eq g29) (Md.idx_lt g29) rfl) (y_cm q12 ?_)
        refine s_py q12 ?_
        refine aops_nil ?_
        show ∃ _x : Bool, _ = _ ∧ Weak _ _
        exact ⟨((((a0.getD (((Md.W (s1_0 + 1))).toNat) 0)).toNat : Int) == 120), Option.some.inj j12, wk⟩
      replace j12 := Md.cond_f j12 q12
      iterate 5 refine np q12 ?_
      refine s_pn q12 ?_
      refine aops_nil ?_
      show ∃ _x : Bool, _ = _ ∧ Weak _ _
      exact ⟨false, Option.some.inj j12, wk⟩
    rcases Md.bool_or ((((((a0.getD ((s1_0).toNat) 0)).toNat : Int) == 92) && (decide ((Md.W (s1_0 + 1)) < ((a0.length : Nat) : Int))))) with q7 | q7
    · replace j7 := Md.cond_t j7 q7
      iterate 2 refine y_mv q7 ?_
      refine aops_yes rfl rfl rfl rfl q7 (ev_add rfl rfl rfl (Md.wrap_W _)) ?_
      obtain ⟨g30, j7⟩ := Md.ifp_s j7
      refine aops_yes rfl rfl rfl rfl q7 (st_index_str rfl rfl (Md.idx_eq g30) (Md.idx_lt g30) rfl) (y_cm q7 ?_)
      refine y_mv q7 ?_
      obtain ⟨o31, j31, j7⟩ := Md.bind_s j7
      refine aops_cut 6 (ε := Bool) (fun x31 => (⟨127, [], [(0, .one (.val (Sv a0))), (7, .one (.own 0)), (8, vI s1_0), (9, .one (.val (.int .u8 (((a0.getD ((s1_0).toNat) 0)).toNat : Int)))), (42, vB (((((a0.getD ((s1_0).toNat) 0)).toNat : Int) == 92) && (decide ((Md.W (s1_0 + 1)) < ((a0.length : Nat) : Int))))), (54, vB x31)], [(0, some (.row 5 1 s1_1.length (lsEl byC s1_1)))]⟩ : ASt)) (fun x31 => x31 = o31) ?_ ?_
      · intro x31 hI31
        subst hI31
        change AOps _ _ _ (⟨127, [], [(0, .one (.val (Sv a0))), (7, .one (.own 0)), (8, vI s1_0), (9, .one (.val (.int .u8 (((a0.getD ((s1_0).toNat) 0)).toNat : Int)))), (42, vB (((((a0.getD ((s1_0).toNat) 0)).toNat : Int) == 92) && (decide ((Md.W (s1_0 + 1)) < ((a0.length : Nat) : Int))))), (54, vB x31)], [(0, some (.row 5 1 s1_1.length (lsEl byC s1_1)))]⟩ : ASt) _
        refine s_py q7 ?_
        refine aops_nil ?_
        show ∃ _x : Bool, _ = _ ∧ Weak _ _
        exact ⟨x31, Option.some.inj j7, wk⟩
      rcases Md.bool_or (((((a0.getD (((Md.W (s1_0 + 1))).toNat) 0)).toNat : Int) == 34)) with q31 | q31
      · replace j31 := Md.cond_t j31 q31
        iterate 5 refine np q31 ?_
        refine aops_yes rfl rfl rfl rfl q7 (st_pick_yes rfl (by first | rfl | exact q31) rfl rfl) (aops_nil ?_)
        show ∃ _x : Bool, _ = _ ∧ Weak _ _
        exact ⟨true, Option.some.inj j31, wk⟩
      replace j31 := Md.cond_f j31 q31
      iterate 2 refine y_mv q31 ?_
      refine aops_yes rfl rfl rfl rfl q31 (ev_add rfl rfl rfl (Md.wrap_W _)) ?_
      obtain ⟨g32, j31⟩ := Md.ifp_s j31
      refine aops_yes rfl rfl rfl rfl q31 (st_index_str rfl rfl (Md.idx_eq g32) (Md.idx_lt g32) rfl) (y_cm q31 ?_)
      refine aops_yes rfl rfl rfl rfl q7 (st_pick_no rfl (by first | rfl | exact q31) rfl rfl) (aops_nil ?_)
      show ∃ _x : Bool, _ = _ ∧ Weak _ _
      exact ⟨((((a0.getD (((Md.W (s1_0 + 1))).toNat) 0)).toNat : Int) == 92), Option.some.inj j31, wk⟩
    replace j7 := Md.cond_f j7 q7
    iterate 6 refine np q7 ?_
    iterate 5 refine aops_und rfl rfl rfl rfl rfl ?_
    refine np q7 ?_
    refine s_pn q7 ?_
    refine aops_nil ?_
    show ∃ _x : Bool, _ = _ ∧ Weak _ _
    exact ⟨false, Option.some.inj j7, wk⟩
  replace l1 := Md.cond_f l1 c2
  refine aw_exit ?_
  show ∃ _x : Unit, _ = _ ∧ Weak _ _
  exact ⟨(), Option.some.inj l1, wk⟩
set_option maxHeartbeats 2000000 in
theorem actorgridref17_IsSymbol_fn (k : Nat) (a0 : List UInt8) (r : Bool) (h : actorgridref17_IsSymbol k a0 = some r) : FnC Tryd.prog 75 [.one (.val (Sv a0))] [] (Det (vB r) []) := by
  unfold actorgridref17_IsSymbol at h
  refine fn_intro' 30 Tryd.func75 rfl rfl rfl (aw_seq (aw_region (s_sa ?_)))
  refine aops_nil (aw_seq (aw_seq (aw_region (s_mv ?_))))
  refine aops_nil (aw_block (aw_seq (aw_seq (aw_region (aops_step1 rfl (st_str_eq rfl rfl rfl) (s_sa ?_))))))
  refine aops_nil ?_
  refine aw_cond rfl (fun c1 => ?_) (fun c1 => ?_)
  · replace h := Md.cond_t h c1
    refine aw_skip (aw_yes rfl (c1) (aw_seq (aw_region (s_sa ?_))))
    refine aops_nil ?_
    cases Option.some.inj h
    exact aw_ret ⟨rfl, rv r1⟩
  replace h := Md.cond_f h c1
  refine aw_seq (aw_region (aops_step1 rfl (st_str_eq rfl rfl rfl) (s_sa ?_)))
  refine aops_nil ?_
  refine aw_cond rfl (fun c2 => ?_) (fun c2 => ?_)
  · replace h := Md.cond_t h c2
    refine aw_skip (aw_yes rfl (c2) (aw_seq (aw_region (s_sa ?_))))
    refine aops_nil ?_
    cases Option.some.inj h
    exact aw_ret ⟨rfl, rv r1⟩
  replace h := Md.cond_f h c2
  refine aw_seq (aw_region (aops_step1 rfl (st_str_eq rfl rfl rfl) (s_sa ?_)))
  refine aops_nil ?_
  refine aw_cond rfl (fun c3 => ?_) (fun c3 => ?_)
  · replace h := Md.cond_t h c3
    refine aw_skip (aw_yes rfl (c3) (aw_seq (aw_region (s_sa ?_))))
    refine aops_nil ?_
    cases Option.some.inj h
    exact aw_ret ⟨rfl, rv r1⟩
  replace h := Md.cond_f h c3
  refine aw_seq (aw_region (aops_step1 rfl (st_str_eq rfl rfl rfl) (s_sa ?_)))
  refine aops_nil ?_
  refine aw_cond rfl (fun c4 => ?_) (fun c4 => ?_)
  · replace h := Md.cond_t h c4
    refine aw_skip (aw_yes rfl (c4) (aw_seq (aw_region (s_sa ?_))))
    refine aops_nil ?_
    cases Option.some.inj h
    exact aw_ret ⟨rfl, rv r1⟩
  replace h := Md.cond_f h c4
  refine aw_seq (aw_region (aops_step1 rfl (st_str_eq rfl rfl rfl) (s_sa ?_)))
  refine aops_nil ?_
  refine aw_cond rfl (fun c5 => ?_) (fun c5 => ?_)
  · replace h := Md.cond_t h c5
    refine aw_skip (aw_yes rfl (c5) (aw_seq (aw_region (s_sa ?_))))
    refine aops_nil ?_
    cases Option.some.inj h
    exact aw_ret ⟨rfl, rv r1⟩
  replace h := Md.cond_f h c5
  refine aw_seq (aw_region (aops_step1 rfl (st_str_eq rfl rfl rfl) (s_sa ?_)))
  refine aops_nil ?_
  refine aw_cond rfl (fun c6 => ?_) (fun c6 => ?_)
  · replace h := Md.cond_t h c6
    refine aw_skip (aw_yes rfl (c6) (aw_seq (aw_region (s_sa ?_))))
    refine aops_nil ?_
    cases Option.some.inj h
    exact aw_ret ⟨rfl, rv r1⟩
  replace h := Md.cond_f h c6
  refine aw_seq (aw_region (aops_step1 rfl (st_str_eq rfl rfl rfl) (s_sa ?_)))
  refine aops_nil ?_
  refine aw_cond rfl (fun c7 => ?_) (fun c7 => ?_)
  · replace h := Md.cond_t h c7
    refine aw_skip (aw_yes rfl (c7) (aw_seq (aw_region (s_sa ?_))))
    refine aops_nil ?_
    cases Option.some.inj h
    exact aw_ret ⟨rfl, rv r1⟩
  replace h := Md.cond_f h c7
  refine aw_seq (aw_region (aops_step1 rfl (st_str_eq rfl rfl rfl) (s_sa ?_)))
  refine aops_nil ?_
  refine aw_cond rfl (fun c8 => ?_) (fun c8 => ?_)
  · replace h := Md.cond_t h c8
    refine aw_skip (aw_yes rfl (c8) (aw_seq (aw_region (s_sa ?_))))
    refine aops_nil ?_
    cases Option.some.inj h
    exact aw_ret ⟨rfl, rv r1⟩
  replace h := Md.cond_f h c8
  refine aw_seq (aw_region (aops_step1 rfl (st_str_eq rfl rfl rfl) (s_sa ?_)))
  refine aops_nil ?_
  refine aw_cond rfl (fun c9 => ?_) (fun c9 => ?_)
  · replace h := Md.cond_t h c9
    refine aw_skip (aw_yes rfl (c9) (aw_seq (aw_region (s_sa ?_))))
    refine aops_nil ?_
    cases Option.some.inj h
    exact aw_ret ⟨rfl, rv r1⟩
  replace h := Md.cond_f h c9
  refine aw_seq (aw_region (aops_step1 rfl (st_str_eq rfl rfl rfl) (s_sa ?_)))
  refine aops_nil ?_
  refine aw_cond rfl (fun c10 => ?_) (fun c10 => ?_)
  · replace h := Md.cond_t h c10
    refine aw_skip (aw_yes rfl (c10) (aw_seq (aw_region (s_sa ?_))))
    refine aops_nil ?_
    cases Option.some.inj h
    exact aw_ret ⟨rfl, rv r1⟩
  replace h := Md.cond_f h c10
  refine aw_seq (aw_region (aops_step1 rfl (st_str_eq rfl rfl rfl) (s_sa ?_)))
  refine aops_nil ?_
  refine aw_cond rfl (fun c11 => ?_) (fun c11 => ?_)
  · replace h := Md.cond_t h c11
    refine aw_skip (aw_yes rfl (c11) (aw_seq (aw_region (s_sa ?_))))
    refine aops_nil ?_
    cases Option.some.inj h
    exact aw_ret ⟨rfl, rv r1⟩
  replace h := Md.cond_f h c11
  refine aw_seq (aw_region (aops_step1 rfl (st_str_eq rfl rfl rfl) (s_sa ?_)))
  refine aops_nil ?_
  refine aw_cond rfl (fun c12 => ?_) (fun c12 => ?_)
  · replace h := Md.cond_t h c12
    refine aw_skip (aw_yes rfl (c12) (aw_seq (aw_region (s_sa ?_))))
    refine aops_nil ?_
    cases Option.some.inj h
    exact aw_ret ⟨rfl, rv r1⟩
  replace h := Md.cond_f h c12
  refine aw_seq (aw_region (aops_step1 rfl (st_str_eq rfl rfl rfl) (s_sa ?_)))
  refine aops_nil ?_
  refine aw_cond rfl (fun c13 => ?_) (fun c13 => ?_)
  · replace h := Md.cond_t h c13
    refine aw_skip (aw_yes rfl (c13) (aw_seq (aw_region (s_sa ?_))))
    refine aops_nil ?_
    cases Option.some.inj h
    exact aw_ret ⟨rfl, rv r1⟩
  replace h := Md.cond_f h c13
  refine aw_seq (aw_region (aops_step1 rfl (st_str_eq rfl rfl rfl) (s_sa ?_)))
  refine aops_nil ?_
  refine aw_cond rfl (fun c14 => ?_) (fun c14 => ?_)
  · replace h := Md.cond_t h c14
    refine aw_skip (aw_yes rfl (c14) (aw_seq (aw_region (s_sa ?_))))
    refine aops_nil ?_
    cases Option.some.inj h
    exact aw_ret ⟨rfl, rv r1⟩
  replace h := Md.cond_f h c14
  refine aw_seq (aw_region (aops_step1 rfl (st_str_eq rfl rfl rfl) (s_sa ?_)))
  refine aops_nil ?_
  refine aw_cond rfl (fun c15 => ?_) (fun c15 => ?_)
  · replace h := Md.cond_t h c15
    refine aw_skip (aw_yes rfl (c15) (aw_seq (aw_region (s_sa ?_))))
    refine aops_nil ?_
    cases Option.some.inj h
    exact aw_ret ⟨rfl, rv r1⟩
  replace h := Md.cond_f h c15
  refine aw_seq (aw_region (aops_step1 rfl (st_str_eq rfl rfl rfl) (s_sa ?_)))
  refine aops_nil ?_
  refine aw_cond rfl (fun c16 => ?_) (fun c16 => ?_)
  · replace h := Md.cond_t h c16
    refine aw_skip (aw_yes rfl (c16) (aw_seq (aw_region (s_sa ?_))))
    refine aops_nil ?_
    cases Option.some.inj h
    exact aw_ret ⟨rfl, rv r1⟩
  replace h := Md.cond_f h c16
  refine aw_seq (aw_region (aops_step1 rfl (st_str_eq rfl rfl rfl) (s_sa ?_)))
  refine aops_nil ?_
  refine aw_cond rfl (fun c17 => ?_) (fun c17 => ?_)
  · replace h := Md.cond_t h c17
    refine aw_skip (aw_yes rfl (c17) (aw_seq (aw_region (s_sa ?_))))
    refine aops_nil ?_
    cases Option.some.inj h
    exact aw_ret ⟨rfl, rv r1⟩
  replace h := Md.cond_f h c17
  refine aw_seq (aw_region (aops_step1 rfl (st_str_eq rfl rfl rfl) (s_sa ?_)))
  refine aops_nil ?_
  refine aw_cond rfl (fun c18 => ?_) (fun c18 => ?_)
  · replace h := Md.cond_t h c18
    refine aw_skip (aw_yes rfl (c18) (aw_seq (aw_region (s_sa ?_))))
    refine aops_nil ?_
    cases Option.some.inj h
    exact aw_ret ⟨rfl, rv r1⟩
  replace h := Md.cond_f h c18
  refine aw_seq (aw_region (aops_step1 rfl (st_str_eq rfl rfl rfl) (s_sa ?_)))
  refine aops_nil ?_
  refine aw_cond rfl (fun c19 => ?_) (fun c19 => ?_)
  · replace h := Md.cond_t h c19
    refine aw_skip (aw_yes rfl (c19) (aw_seq (aw_region (s_sa ?_))))
    refine aops_nil ?_
    cases Option.some.inj h
    exact aw_ret ⟨rfl, rv r1⟩
  replace h := Md.cond_f h c19
  refine aw_seq (aw_region (aops_step1 rfl (st_str_eq rfl rfl rfl) (s_sa ?_)))
  refine aops_nil ?_
  refine aw_cond rfl (fun c20 => ?_) (fun c20 => ?_)
  · replace h := Md.cond_t h c20
    refine aw_skip (aw_yes rfl (c20) (aw_seq (aw_region (s_sa ?_))))
    refine aops_nil ?_
    cases Option.some.inj h
    exact aw_ret ⟨rfl, rv r1⟩
  replace h := Md.cond_f h c20
  refine aw_seq (aw_region (aops_step1 rfl (st_str_eq rfl rfl rfl) (s_sa ?_)))
  refine aops_nil ?_
  refine aw_cond rfl (fun c21 => ?_) (fun c21 => ?_)
  · replace h := Md.cond_t h c21
    refine aw_skip (aw_yes rfl (c21) (aw_seq (aw_region (s_sa ?_))))
    refine aops_nil ?_
    cases Option.some.inj h
    exact aw_ret ⟨rfl, rv r1⟩
  replace h := Md.cond_f h c21
  refine aw_seq (aw_region (aops_step1 rfl (st_str_eq rfl rfl rfl) (s_sa ?_)))
  refine aops_nil ?_
  refine aw_cond rfl (fun c22 => ?_) (fun c22 => ?_)
  · replace h := Md.cond_t h c22
    refine aw_skip (aw_yes rfl (c22) (aw_seq (aw_region (s_sa ?_))))
    refine aops_nil ?_
    cases Option.some.inj h
    exact aw_ret ⟨rfl, rv r1⟩
  replace h := Md.cond_f h c22
  refine aw_seq (aw_region (aops_step1 rfl (st_str_eq rfl rfl rfl) (s_sa ?_)))
  refine aops_nil ?_
  refine aw_cond rfl (fun c23 => ?_) (fun c23 => ?_)
  · replace h := Md.cond_t h c23
    refine aw_skip (aw_yes rfl (c23) (aw_seq (aw_region (s_sa ?_))))
    refine aops_nil ?_
    cases Option.some.inj h
    exact aw_ret ⟨rfl, rv r1⟩
  replace h := Md.cond_f h c23
  refine aw_seq (aw_region (aops_step1 rfl (st_str_eq rfl rfl rfl) (s_sa ?_)))
  refine aops_nil ?_
  refine aw_cond rfl (fun c24 => ?_) (fun c24 => ?_)
  · replace h := Md.cond_t h c24
    refine aw_skip (aw_yes rfl (c24) (aw_seq (aw_region (s_sa ?_))))
    refine aops_nil ?_
    cases Option.some.inj h
    exact aw_ret ⟨rfl, rv r1⟩
  replace h := Md.cond_f h c24
  refine aw_region (aops_step1 rfl (st_str_eq rfl rfl rfl) (s_sa ?_))
  refine aops_nil ?_
  refine aw_cond rfl (fun c25 => ?_) (fun c25 => ?_)
  · replace h := Md.cond_t h c25
    refine aw_seq (aw_region (s_sa ?_))
    refine aops_nil ?_
    cases Option.some.inj h
    exact aw_ret ⟨rfl, rv r1⟩
  replace h := Md.cond_f h c25
  refine aw_skip (aw_seq (aw_region (s_sa ?_)))
  refine aops_nil ?_
  cases Option.some.inj h
  exact aw_ret ⟨rfl, rv r1⟩
set_option maxHeartbeats 2000000 in
theorem actorgridref17_next_fn (k : Nat) (a0 : List UInt8) (a1 : Int) (r : Token × Int × Int) (h : actorgridref17_next k a0 a1 = some r) : FnC Tryd.prog 53 [.one (.val (Sv a0)), vI a1] [] (Det (.tup [.agg (c_Token r.1), vI r.2.1, vI r.2.2]) []) := by
  unfold actorgridref17_next at h
  refine fn_intro' 149 Tryd.func53 rfl rfl rfl (aw_seq (aw_region (aops_step1 rfl (st_alloc (cs := [cI 0, .val (Sv []), cI 0, cI 0]) 0 rfl rfl rfl rfl rfl) ?_)))
  iterate 2 refine s_sa ?_
  refine aops_nil (aw_seq (aw_region ?_))
  iterate 2 refine s_mv ?_
  obtain ⟨g1, h⟩ := Md.ifp_s h
  refine aops_step1 rfl (st_index_str rfl rfl (Md.idx_eq g1) (Md.idx_lt g1) rfl) (s_sa ?_)
  refine aops_nil (aw_seq (aw_region (s_mv ?_)))
  refine s_sa ?_
  refine aops_nil (aw_seq (aw_block (aw_seq (aw_region (s_mv ?_)))))
  obtain ⟨x2, hx2, h⟩ := Md.bind_s h
  refine aops_step1 rfl (ev_call_v (actorgridref17_letter_fn k (a0.getD ((a1).toNat) 0) x2 hx2) rfl [] ai rfl rfl rfl (.inl rfl) rfl) (s_sa ?_)
  refine aops_nil ?_
  refine aw_cond rfl (fun c3 => ?_) (fun c3 => ?_)
  · replace h := Md.cond_t h c3
    refine aw_seq (aw_block ?_)
    obtain ⟨o4, ho4, h⟩ := Md.bind_s h
    refine aw_loop_x (ι := {p : Nat × Int // actorgridref17_next_loop1 k a0 p.1 p.2 = some o4}) (fun p => (⟨149, [], [(0, .one (.val (Sv a0))), (1, vI a1), (4, .one (.ptr 0 0)), (8, vI p.1.2)], [(0, some (.box [cI 0, .val (Sv []), cI 0, cI 0]))]⟩ : ASt)) (fun p => p.1.1) ⟨(k, a1), ho4⟩ wk 1 (ε := Int) (fun x => (⟨149, [], [(0, .one (.val (Sv a0))), (1, vI a1), (4, .one (.ptr 0 0)), (8, vI x)], [(0, some (.box [cI 0, .val (Sv []), cI 0, cI 0]))]⟩ : ASt)) (fun x => x = o4) (fun _ _ w h => aw_weak w h) ?_ ?_
    · intro x4_0 hI4
      subst hI4
      change AW _ _ (⟨149, [], [(0, .one (.val (Sv a0))), (1, vI a1), (4, .one (.ptr 0 0)), (8, vI x4_0)], [(0, some (.box [cI 0, .val (Sv []), cI 0, cI 0]))]⟩ : ASt) _
      refine aw_seq (aw_region ?_)
      iterate 3 refine s_mv ?_
      obtain ⟨g5, h⟩ := Md.ifp_s h
      obtain ⟨g6, h⟩ := Md.ifp_s h
      obtain ⟨g7, h⟩ := Md.ifp_s h
      refine aops_step1 rfl (st_cut_both_s rfl ⟨_, _, rfl, (Md.nn_eq g5)⟩ ⟨_, _, rfl, (Md.nn_eq g6)⟩ g7 rfl) (s_sa ?_)
      refine aops_nil (aw_seq (aw_seq (aw_region (s_mv ?_))))
      refine aops_step1 rfl (st_len_str rfl rfl) (s_cm ?_)
      refine aops_nil ?_
      refine aw_cond rfl (fun c8 => ?_) (fun c8 => ?_)
      · replace h := Md.cond_t h c8
        refine aw_seq (aw_region (aops_step1 rfl (ev_build' (out := [_, _, _, _]) rfl rfl rfl rfl rfl) (s_st [_, _, _, _] ?_)))
        iterate 2 refine s_sa ?_
        refine aops_nil ?_
        cases Option.some.inj h
        exact aw_ret ⟨rfl, rv (rn (.cons (va [_, _, _, _]) (.cons o1 (.cons o1 .nil))))⟩
      replace h := Md.cond_f h c8
      refine aw_skip (aw_seq (aw_seq (aw_region (s_mv ?_))))
      obtain ⟨x9, hx9, h⟩ := Md.bind_s h
      refine aops_step1 rfl (ev_call_v (actorgridref17_IsKeyword_fn k ((a0.drop ((a1).toNat)).take ((x4_0).toNat - ((a1).toNat))) x9 hx9) rfl [] ai rfl rfl rfl (.inl rfl) rfl) ?_
      refine aops_nil ?_
      refine aw_cond rfl (fun c10 => ?_) (fun c10 => ?_)
      · replace h := Md.cond_t h c10
        refine aw_seq (aw_region ?_)
        iterate 2 refine s_mv ?_
        refine aops_step1 rfl (ev_build' (out := [_, _, _, _]) rfl rfl rfl rfl rfl) (s_mv ?_)
        refine s_st [_, _, _, _] ?_
        iterate 2 refine s_sa ?_
        refine aops_nil ?_
        cases Option.some.inj h
        exact aw_ret ⟨rfl, rv (rn (.cons (va [_, _, _, _]) (.cons o1 (.cons o1 .nil))))⟩
      replace h := Md.cond_f h c10
      refine aw_skip (aw_seq (aw_region ?_))
      iterate 2 refine s_mv ?_
      refine aops_step1 rfl (ev_build' (out := [_, _, _, _]) rfl rfl rfl rfl rfl) (s_mv ?_)
      refine s_st [_, _, _, _] ?_
      iterate 2 refine s_sa ?_
      refine aops_nil ?_
      cases Option.some.inj h
      exact aw_ret ⟨rfl, rv (rn (.cons (va [_, _, _, _]) (.cons o1 (.cons o1 .nil))))⟩
    intro p4
    obtain ⟨⟨n4, s4_0⟩, l4⟩ := p4
    change AW _ _ (⟨149, [], [(0, .one (.val (Sv a0))), (1, vI a1), (4, .one (.ptr 0 0)), (8, vI s4_0)], [(0, some (.box [cI 0, .val (Sv []), cI 0, cI 0]))]⟩ : ASt) _
    replace l4 : actorgridref17_next_loop1 k a0 n4 s4_0 = some o4 := l4
    rcases n4 with _ | n4
    · exact absurd (show none = some o4 from l4) nofun
    rw [actorgridref17_next_loop1] at l4
    refine aw_seq (aw_seq (aw_region ?_))
    iterate 2 refine s_mv ?_
    refine aops_step1 rfl (st_len_str rfl rfl) (s_cm ?_)
    refine s_mv ?_
    obtain ⟨o11, j11, l4⟩ := Md.bind_s l4
    refine aops_cut 5 (ε := Bool) (fun x11 => (⟨149, [], [(0, .one (.val (Sv a0))), (1, vI a1), (4, .one (.ptr 0 0)), (8, vI s4_0), (32, vB x11)], [(0, some (.box [cI 0, .val (Sv []), cI 0, cI 0]))]⟩ : ASt)) (fun x11 => x11 = o11) ?_ ?_
    · intro x11 hI11
      subst hI11
      change AOps _ _ _ (⟨149, [], [(0, .one (.val (Sv a0))), (1, vI a1), (4, .one (.ptr 0 0)), (8, vI s4_0), (32, vB x11)], [(0, some (.box [cI 0, .val (Sv []), cI 0, cI 0]))]⟩ : ASt) _
      refine aops_nil ?_
      refine aw_cond rfl (fun c12 => ?_) (fun c12 => ?_)
      · replace l4 := Md.cond_t l4 c12
        refine aw_skip (aw_block (aw_region (s_mv ?_)))
        refine aops_step1 rfl (ev_add rfl rfl rfl (Md.wrap_W _)) (s_sa ?_)
        refine aops_nil ?_
        exact ⟨⟨(n4, (Md.W (s4_0 + 1))), l4⟩, Nat.lt_succ_self _, wk⟩
      replace l4 := Md.cond_f l4 c12
      refine aw_exit ?_
      show ∃ _x : Int, _ = _ ∧ Weak _ _
      exact ⟨s4_0, Option.some.inj l4, wk⟩
    rcases Md.bool_or ((decide (s4_0 < ((a0.length : Nat) : Int)))) with q11 | q11
    · replace j11 := Md.cond_t j11 q11
      iterate 2 refine y_mv q11 ?_
      obtain ⟨g13, j11⟩ := Md.ifp_s j11
      refine aops_yes rfl rfl rfl rfl q11 (st_index_str rfl rfl (Md.idx_eq g13) (Md.idx_lt g13) rfl) ?_
      obtain ⟨x14, hx14, j11⟩ := Md.bind_s j11
      refine aops_yes rfl rfl rfl rfl q11 (ev_call_v (actorgridref17_word_fn k (a0.getD ((s4_0).toNat) 0) x14 hx14) rfl [] ai rfl rfl rfl (.inl rfl) rfl) (s_py q11 ?_)
      refine aops_nil ?_
      show ∃ _x : Bool, _ = _ ∧ Weak _ _
      exact ⟨x14, Option.some.inj j11, wk⟩
    replace j11 := Md.cond_f j11 q11
    iterate 4 refine np q11 ?_
    refine s_pn q11 ?_
    refine aops_nil ?_
    show ∃ _x : Bool, _ = _ ∧ Weak _ _
    exact ⟨false, Option.some.inj j11, wk⟩
  replace h := Md.cond_f h c3
  refine aw_seq (aw_region (s_mv ?_))
  obtain ⟨x15, hx15, h⟩ := Md.bind_s h
  refine aops_step1 rfl (ev_call_v (actorgridref17_digit_fn k (a0.getD ((a1).toNat) 0) x15 hx15) rfl [] ai rfl rfl rfl (.inl rfl) rfl) (s_sa ?_)
  refine aops_nil ?_
  refine aw_cond rfl (fun c16 => ?_) (fun c16 => ?_)
  · replace h := Md.cond_t h c16
    refine aw_seq (aw_block ?_)
    obtain ⟨o17, ho17, h⟩ := Md.bind_s h
    refine aw_loop_x (ι := {p : Nat × Int // actorgridref17_next_loop2 k a0 p.1 p.2 = some o17}) (fun p => (⟨149, [], [(0, .one (.val (Sv a0))), (1, vI a1), (4, .one (.ptr 0 0)), (7, .one (.val (.int .u8 (((a0.getD ((a1).toNat) 0)).toNat : Int)))), (8, vI p.1.2)], [(0, some (.box [cI 0, .val (Sv []), cI 0, cI 0]))]⟩ : ASt)) (fun p => p.1.1) ⟨(k, a1), ho17⟩ wk 3 (ε := Int) (fun x => (⟨149, [], [(0, .one (.val (Sv a0))), (1, vI a1), (4, .one (.ptr 0 0)), (7, .one (.val (.int .u8 (((a0.getD ((a1).toNat) 0)).toNat : Int)))), (8, vI x)], [(0, some (.box [cI 0, .val (Sv []), cI 0, cI 0]))]⟩ : ASt)) (fun x => x = o17) (fun _ _ w h => aw_weak w h) ?_ ?_
    · intro x17_0 hI17
      subst hI17
      change AW _ _ (⟨149, [], [(0, .one (.val (Sv a0))), (1, vI a1), (4, .one (.ptr 0 0)), (7, .one (.val (.int .u8 (((a0.getD ((a1).toNat) 0)).toNat : Int)))), (8, vI x17_0)], [(0, some (.box [cI 0, .val (Sv []), cI 0, cI 0]))]⟩ : ASt) _
      refine aw_seq (aw_region ?_)
      iterate 3 refine s_mv ?_
      obtain ⟨g18, h⟩ := Md.ifp_s h
      obtain ⟨g19, h⟩ := Md.ifp_s h
      obtain ⟨g20, h⟩ := Md.ifp_s h
      refine aops_step1 rfl (st_cut_both_s rfl ⟨_, _, rfl, (Md.nn_eq g18)⟩ ⟨_, _, rfl, (Md.nn_eq g19)⟩ g20 rfl) ?_
      obtain ⟨x21, hx21, h⟩ := Md.bind_s h
      refine aops_step1 rfl (ev_call_v (actorgridref17_Decimal_fn k ((a0.drop ((a1).toNat)).take ((x17_0).toNat - ((a1).toNat))) x21 hx21) rfl [] ai rfl rfl rfl (.inl rfl) rfl) (s_mt ?_)
      iterate 2 refine s_ex ?_
      iterate 2 refine s_sa ?_
      refine aops_nil (aw_seq (aw_seq (aw_region (s_mv ?_))))
      refine s_nt ?_
      refine s_mv ?_
      refine aops_mid 9 (⟨149, [], [(0, .one (.val (Sv a0))), (1, vI a1), (4, .one (.ptr 0 0)), (8, vI x17_0), (10, vI x21.1), (87, vB ((!x21.2) || ((decide ((Md.W (x17_0 - a1)) > 1)) && ((((a0.getD ((a1).toNat) 0)).toNat : Int) == 48))))], [(0, some (.box [cI 0, .val (Sv []), cI 0, cI 0]))]⟩ : ASt) ?_ ?_
      · rcases Md.bool_or ((!x21.2)) with q22 | q22
        · skip
          iterate 5 refine np q22 ?_
          refine aops_und rfl rfl rfl rfl rfl (aops_und rfl rfl rfl rfl rfl (np q22 ?_))
          refine s_py q22 ?_
          refine aops_nil ?_
          exact wq q22
        iterate 2 refine y_mv q22 ?_
        refine aops_yes rfl rfl rfl rfl q22 (ev_sub rfl rfl rfl (Md.wrap_W _)) (y_cm q22 ?_)
        refine y_mv q22 ?_
        refine aops_mid 3 (⟨149, [], [(0, .one (.val (Sv a0))), (1, vI a1), (4, .one (.ptr 0 0)), (8, vI x17_0), (10, vI x21.1), (78, vB (!x21.2)), (86, vB ((decide ((Md.W (x17_0 - a1)) > 1)) && ((((a0.getD ((a1).toNat) 0)).toNat : Int) == 48)))], [(0, some (.box [cI 0, .val (Sv []), cI 0, cI 0]))]⟩ : ASt) ?_ ?_
        · rcases Md.bool_or ((decide ((Md.W (x17_0 - a1)) > 1))) with q23 | q23
          · skip
            refine y_mv q23 ?_
            refine y_cm q23 ?_
            refine aops_yes rfl rfl rfl rfl q22 (st_pick_yes rfl (by first | rfl | exact q23) rfl rfl) (aops_nil ?_)
            exact wq q23
          iterate 2 refine np q23 ?_
          refine aops_yes rfl rfl rfl rfl q22 (st_pick_no rfl (by first | rfl | exact q23) rfl rfl) (aops_nil ?_)
          exact wq q23
        change AOps _ _ _ (⟨149, [], [(0, .one (.val (Sv a0))), (1, vI a1), (4, .one (.ptr 0 0)), (8, vI x17_0), (10, vI x21.1), (78, vB (!x21.2)), (86, vB ((decide ((Md.W (x17_0 - a1)) > 1)) && ((((a0.getD ((a1).toNat) 0)).toNat : Int) == 48)))], [(0, some (.box [cI 0, .val (Sv []), cI 0, cI 0]))]⟩ : ASt) _
        refine s_pn q22 ?_
        refine aops_nil ?_
        exact wq q22
      refine aops_nil ?_
      refine aw_cond rfl (fun c24 => ?_) (fun c24 => ?_)
      · replace h := Md.cond_t h c24
        refine aw_seq (aw_region (aops_step1 rfl (ev_build' (out := [_, _, _, _]) rfl rfl rfl rfl rfl) (s_st [_, _, _, _] ?_)))
        iterate 2 refine s_sa ?_
        refine aops_nil ?_
        cases Option.some.inj h
        exact aw_ret ⟨rfl, rv (rn (.cons (va [_, _, _, _]) (.cons o1 (.cons o1 .nil))))⟩
      replace h := Md.cond_f h c24
      refine aw_skip (aw_seq (aw_region ?_))
      iterate 3 refine s_mv ?_
      obtain ⟨g25, h⟩ := Md.ifp_s h
      obtain ⟨g26, h⟩ := Md.ifp_s h
      obtain ⟨g27, h⟩ := Md.ifp_s h
      refine aops_step1 rfl (st_cut_both_s rfl ⟨_, _, rfl, (Md.nn_eq g25)⟩ ⟨_, _, rfl, (Md.nn_eq g26)⟩ g27 rfl) ?_
      iterate 2 refine s_mv ?_
      refine aops_step1 rfl (ev_build' (out := [_, _, _, _]) rfl rfl rfl rfl rfl) (s_mv ?_)
      refine s_st [_, _, _, _] ?_
      iterate 2 refine s_sa ?_
      refine aops_nil ?_
      cases Option.some.inj h
      exact aw_ret ⟨rfl, rv (rn (.cons (va [_, _, _, _]) (.cons o1 (.cons o1 .nil))))⟩
    intro p17
    obtain ⟨⟨n17, s17_0⟩, l17⟩ := p17
    change AW _ _ (⟨149, [], [(0, .one (.val (Sv a0))), (1, vI a1), (4, .one (.ptr 0 0)), (7, .one (.val (.int .u8 (((a0.getD ((a1).toNat) 0)).toNat : Int)))), (8, vI s17_0)], [(0, some (.box [cI 0, .val (Sv []), cI 0, cI 0]))]⟩ : ASt) _
    replace l17 : actorgridref17_next_loop2 k a0 n17 s17_0 = some o17 := l17
    rcases n17 with _ | n17
    · exact absurd (show none = some o17 from l17) nofun
    rw [actorgridref17_next_loop2] at l17
    refine aw_seq (aw_seq (aw_region ?_))
    iterate 2 refine s_mv ?_
    refine aops_step1 rfl (st_len_str rfl rfl) (s_cm ?_)
    refine s_mv ?_
    obtain ⟨o28, j28, l17⟩ := Md.bind_s l17
    refine aops_cut 5 (ε := Bool) (fun x28 => (⟨149, [], [(0, .one (.val (Sv a0))), (1, vI a1), (4, .one (.ptr 0 0)), (7, .one (.val (.int .u8 (((a0.getD ((a1).toNat) 0)).toNat : Int)))), (8, vI s17_0), (65, vB x28)], [(0, some (.box [cI 0, .val (Sv []), cI 0, cI 0]))]⟩ : ASt)) (fun x28 => x28 = o28) ?_ ?_
    · intro x28 hI28
      subst hI28
      change AOps _ _ _ (⟨149, [], [(0, .one (.val (Sv a0))), (1, vI a1), (4, .one (.ptr 0 0)), (7, .one (.val (.int .u8 (((a0.getD ((a1).toNat) 0)).toNat : Int)))), (8, vI s17_0), (65, vB x28)], [(0, some (.box [cI 0, .val (Sv []), cI 0, cI 0]))]⟩ : ASt) _
      refine aops_nil ?_
      refine aw_cond rfl (fun c29 => ?_) (fun c29 => ?_)
      · replace l17 := Md.cond_t l17 c29
        refine aw_skip (aw_block (aw_region (s_mv ?_)))
        refine aops_step1 rfl (ev_add rfl rfl rfl (Md.wrap_W _)) (s_sa ?_)
        refine aops_nil ?_
        exact ⟨⟨(n17, (Md.W (s17_0 + 1))), l17⟩, Nat.lt_succ_self _, wk⟩
      replace l17 := Md.cond_f l17 c29
      refine aw_exit ?_
      show ∃ _x : Int, _ = _ ∧ Weak _ _
      exact ⟨s17_0, Option.some.inj l17, wk⟩
    rcases Md.bool_or ((decide (s17_0 < ((a0.length : Nat) : Int)))) with q28 | q28
    · replace j28 := Md.cond_t j28 q28
      iterate 2 refine y_mv q28 ?_
      obtain ⟨g30, j28⟩ := Md.ifp_s j28
      refine aops_yes rfl rfl rfl rfl q28 (st_index_str rfl rfl (Md.idx_eq g30) (Md.idx_lt g30) rfl) ?_
      obtain ⟨x31, hx31, j28⟩ := Md.bind_s j28
      refine aops_yes rfl rfl rfl rfl q28 (ev_call_v (actorgridref17_digit_fn k (a0.getD ((s17_0).toNat) 0) x31 hx31) rfl [] ai rfl rfl rfl (.inl rfl) rfl) (s_py q28 ?_)
      refine aops_nil ?_
      show ∃ _x : Bool, _ = _ ∧ Weak _ _
      exact ⟨x31, Option.some.inj j28, wk⟩
    replace j28 := Md.cond_f j28 q28
    iterate 4 refine np q28 ?_
    refine s_pn q28 ?_
    refine aops_nil ?_
    show ∃ _x : Bool, _ = _ ∧ Weak _ _
    exact ⟨false, Option.some.inj j28, wk⟩
  replace h := Md.cond_f h c16
  refine aw_seq (aw_region (s_mv ?_))
  refine s_cm ?_
  refine s_sa ?_
  refine aops_nil ?_
  refine aw_cond rfl (fun c32 => ?_) (fun c32 => ?_)
  · replace h := Md.cond_t h c32
    refine aw_seq (aw_region ?_)
    iterate 2 refine s_mv ?_
    obtain ⟨x33, hx33, h⟩ := Md.bind_s h
    refine aops_step1 rfl (ev_call_v (actorgridref17_text_fn k a0 a1 x33 hx33) rfl [] ai rfl rfl rfl (.inl rfl) rfl) (s_mt ?_)
    iterate 3 refine s_ex ?_
    iterate 3 refine s_sa ?_
    refine aops_nil (aw_seq (aw_seq (aw_region (s_mv ?_))))
    refine s_nt ?_
    refine aops_nil ?_
    refine aw_cond rfl (fun c34 => ?_) (fun c34 => ?_)
    · replace h := Md.cond_t h c34
      refine aw_seq (aw_region (aops_step1 rfl (ev_build' (out := [_, _, _, _]) rfl rfl rfl rfl rfl) (s_st [_, _, _, _] ?_)))
      iterate 2 refine s_sa ?_
      refine aops_nil ?_
      cases Option.some.inj h
      exact aw_ret ⟨rfl, rv (rn (.cons (va [_, _, _, _]) (.cons o1 (.cons o1 .nil))))⟩
    replace h := Md.cond_f h c34
    refine aw_skip (aw_seq (aw_seq (aw_region (s_mv ?_))))
    refine aops_step1 rfl (st_len_str rfl rfl) (s_cm ?_)
    refine aops_nil ?_
    refine aw_cond rfl (fun c35 => ?_) (fun c35 => ?_)
    · replace h := Md.cond_t h c35
      refine aw_seq (aw_region (aops_step1 rfl (ev_build' (out := [_, _, _, _]) rfl rfl rfl rfl rfl) (s_st [_, _, _, _] ?_)))
      iterate 2 refine s_sa ?_
      refine aops_nil ?_
      cases Option.some.inj h
      exact aw_ret ⟨rfl, rv (rn (.cons (va [_, _, _, _]) (.cons o1 (.cons o1 .nil))))⟩
    replace h := Md.cond_f h c35
    refine aw_skip (aw_seq (aw_region ?_))
    iterate 2 refine s_mv ?_
    refine aops_step1 rfl (ev_build' (out := [_, _, _, _]) rfl rfl rfl rfl rfl) (s_mv ?_)
    refine s_st [_, _, _, _] ?_
    iterate 2 refine s_sa ?_
    refine aops_nil ?_
    cases Option.some.inj h
    exact aw_ret ⟨rfl, rv (rn (.cons (va [_, _, _, _]) (.cons o1 (.cons o1 .nil))))⟩
  replace h := Md.cond_f h c32
  refine aw_skip (aw_seq (aw_seq (aw_region (s_sa ?_))))
  refine aops_nil (aw_block ?_)
  obtain ⟨o36, ho36, h⟩ := Md.bind_s h
  refine aw_loop_x (ι := {p : Nat × Int // actorgridref17_next_loop3 k a0 a1 p.1 p.2 = some o36}) (fun p => (⟨149, [], [(0, .one (.val (Sv a0))), (1, vI a1), (4, .one (.ptr 0 0)), (15, vI p.1.2)], [(0, some (.box [cI 0, .val (Sv []), cI 0, cI 0]))]⟩ : ASt)) (fun p => p.1.1) ⟨(k, 2), ho36⟩ wk 5 (ε := Unit) (fun x => (⟨149, [], [(4, .one (.ptr 0 0))], [(0, some (.box [cI 0, .val (Sv []), cI 0, cI 0]))]⟩ : ASt)) (fun x => Sum.inl x = o36) (fun _ _ w h => aw_weak w h) ?_ ?_
  · intro x36_0 hI36
    subst hI36
    replace h := Md.onS_l h
    change AW _ _ (⟨149, [], [(4, .one (.ptr 0 0))], [(0, some (.box [cI 0, .val (Sv []), cI 0, cI 0]))]⟩ : ASt) _
    refine aw_seq (aw_region (aops_step1 rfl (ev_build' (out := [_, _, _, _]) rfl rfl rfl rfl rfl) (s_st [_, _, _, _] ?_)))
    iterate 2 refine s_sa ?_
    refine aops_nil ?_
    cases Option.some.inj h
    exact aw_ret ⟨rfl, rv (rn (.cons (va [_, _, _, _]) (.cons o1 (.cons o1 .nil))))⟩
  intro p36
  obtain ⟨⟨n36, s36_0⟩, l36⟩ := p36
  change AW _ _ (⟨149, [], [(0, .one (.val (Sv a0))), (1, vI a1), (4, .one (.ptr 0 0)), (15, vI s36_0)], [(0, some (.box [cI 0, .val (Sv []), cI 0, cI 0]))]⟩ : ASt) _
  replace l36 : actorgridref17_next_loop3 k a0 a1 n36 s36_0 = some o36 := l36
  rcases n36 with _ | n36
  · exact absurd (show none = some o36 from l36) nofun
  rw [actorgridref17_next_loop3] at l36
  refine aw_seq (aw_seq (aw_region (s_mv ?_)))
  refine s_cm ?_
  refine aops_nil ?_
  refine aw_cond rfl (fun c37 => ?_) (fun c37 => ?_)
  · replace l36 := Md.cond_t l36 c37
    refine aw_skip (aw_seq (aw_block (aw_seq (aw_region ?_))))
    iterate 2 refine s_mv ?_
    refine aops_step1 rfl (ev_add rfl rfl rfl (Md.wrap_W _)) (s_mv ?_)
    refine aops_step1 rfl (st_len_str rfl rfl) (s_cm ?_)
    refine s_mv ?_
    obtain ⟨o38, j38, l36⟩ := Md.bind_s l36
    refine aops_cut 8 (ε := Bool) (fun x38 => (⟨149, [], [(0, .one (.val (Sv a0))), (1, vI a1), (4, .one (.ptr 0 0)), (15, vI s36_0), (136, vB x38)], [(0, some (.box [cI 0, .val (Sv []), cI 0, cI 0]))]⟩ : ASt)) (fun x38 => x38 = o38) ?_ ?_
    · intro x38 hI38
      subst hI38
      change AOps _ _ _ (⟨149, [], [(0, .one (.val (Sv a0))), (1, vI a1), (4, .one (.ptr 0 0)), (15, vI s36_0), (136, vB x38)], [(0, some (.box [cI 0, .val (Sv []), cI 0, cI 0]))]⟩ : ASt) _
      refine aops_nil ?_
      refine aw_cond rfl (fun c39 => ?_) (fun c39 => ?_)
      · replace l36 := Md.cond_t l36 c39
        refine aw_seq (aw_region ?_)
        iterate 4 refine s_mv ?_
        refine aops_step1 rfl (ev_add rfl rfl rfl (Md.wrap_W _)) ?_
        obtain ⟨g40, l36⟩ := Md.ifp_s l36
        obtain ⟨g41, l36⟩ := Md.ifp_s l36
        obtain ⟨g42, l36⟩ := Md.ifp_s l36
        refine aops_step1 rfl (st_cut_both_s rfl ⟨_, _, rfl, (Md.nn_eq g40)⟩ ⟨_, _, rfl, (Md.nn_eq g41)⟩ g42 rfl) (s_mv ?_)
        refine aops_step1 rfl (ev_build' (out := [_, _, _, _]) rfl rfl rfl rfl rfl) ?_
        iterate 2 refine s_mv ?_
        refine aops_step1 rfl (ev_add rfl rfl rfl (Md.wrap_W _)) (s_st [_, _, _, _] ?_)
        iterate 2 refine s_sa ?_
        refine aops_nil ?_
        cases Option.some.inj l36
        replace h := Md.onS_r h
        cases Option.some.inj h
        exact aw_ret ⟨rfl, rv (rn (.cons (va [_, _, _, _]) (.cons o1 (.cons o1 .nil))))⟩
      replace l36 := Md.cond_f l36 c39
      refine aw_skip (aw_region (s_mv ?_))
      refine aops_step1 rfl (ev_sub rfl rfl rfl (Md.wrap_W _)) (s_sa ?_)
      refine aops_nil ?_
      exact ⟨⟨(n36, (Md.W (s36_0 - 1))), l36⟩, Nat.lt_succ_self _, wk⟩
    rcases Md.bool_or ((decide ((Md.W (a1 + s36_0)) ≤ ((a0.length : Nat) : Int)))) with q38 | q38
    · replace j38 := Md.cond_t j38 q38
      iterate 4 refine y_mv q38 ?_
      refine aops_yes rfl rfl rfl rfl q38 (ev_add rfl rfl rfl (Md.wrap_W _)) ?_
      obtain ⟨g43, j38⟩ := Md.ifp_s j38
      obtain ⟨g44, j38⟩ := Md.ifp_s j38
      obtain ⟨g45, j38⟩ := Md.ifp_s j38
      refine aops_yes rfl rfl rfl rfl q38 (st_cut_both_s rfl ⟨_, _, rfl, (Md.nn_eq g43)⟩ ⟨_, _, rfl, (Md.nn_eq g44)⟩ g45 rfl) ?_
      obtain ⟨x46, hx46, j38⟩ := Md.bind_s j38
      refine aops_yes rfl rfl rfl rfl q38 (ev_call_v (actorgridref17_IsSymbol_fn k ((a0.drop ((a1).toNat)).take (((Md.W (a1 + s36_0))).toNat - ((a1).toNat))) x46 hx46) rfl [] ai rfl rfl rfl (.inl rfl) rfl) (s_py q38 ?_)
      refine aops_nil ?_
      show ∃ _x : Bool, _ = _ ∧ Weak _ _
      exact ⟨x46, Option.some.inj j38, wk⟩
    replace j38 := Md.cond_f j38 q38
    iterate 7 refine np q38 ?_
    refine s_pn q38 ?_
    refine aops_nil ?_
    show ∃ _x : Bool, _ = _ ∧ Weak _ _
    exact ⟨false, Option.some.inj j38, wk⟩
  replace l36 := Md.cond_f l36 c37
  refine aw_exit ?_
  show ∃ _x : Unit, _ = _ ∧ Weak _ _
  exact ⟨(), Option.some.inj l36, wk⟩
set_option maxHeartbeats 2000000 in
theorem actorgridref17_Tokens_fn (k : Nat) (a0 : List UInt8) (r : (List Token) × Int × Int) (h : actorgridref17_Tokens k a0 = some r) : FnC Tryd.prog 30 [.one (.val (Sv a0))] [] (Det (.tup [.one (CV.ls c_Token r.1), vI r.2.1, vI r.2.2]) []) := by
  unfold actorgridref17_Tokens at h
  refine fn_intro' 82 Tryd.func30 rfl rfl rfl (aw_seq (aw_region ?_))
  iterate 3 refine s_sa ?_
  refine aops_nil (aw_seq (aw_seq (aw_region (s_mv ?_))))
  refine aops_step1 rfl (st_len_str rfl rfl) (s_cm ?_)
  refine aops_nil ?_
  refine aw_cond rfl (fun c1 => ?_) (fun c1 => ?_)
  · replace h := Md.cond_t h c1
    refine aw_seq (aw_region ?_)
    iterate 3 refine s_sa ?_
    refine aops_nil ?_
    cases Option.some.inj h
    exact aw_ret ⟨rfl, rv (rn (.cons o1 (.cons o1 (.cons o1 .nil))))⟩
  replace h := Md.cond_f h c1
  refine aw_skip (aw_seq (aw_region (s_sa ?_)))
  refine aops_nil (aw_seq (aw_region (s_sa ?_)))
  refine aops_nil (aw_seq (aw_block (aw_own_nil 5 0 49 4 (lsEl c_Token []) rfl rfl ?_)))
  obtain ⟨o2, ho2, h⟩ := Md.bind_s h
  refine aw_loop_x (ι := {p : Nat × Int × (List Token) // actorgridref17_Tokens_loop1 k a0 p.1 p.2.1 p.2.2 = some o2}) (fun p => (⟨82, [], [(0, .one (.val (Sv a0))), (5, .one (.own 0)), (6, vI p.1.2.1)], [(0, some (.row 49 4 p.1.2.2.length (lsEl c_Token p.1.2.2)))]⟩ : ASt)) (fun p => p.1.1) ⟨(k, 0, ([] : List Token)), ho2⟩ wk 0 (ε := (List Token)) (fun x => (⟨82, [], [(5, .one (.own 0))], [(0, some (.row 49 4 x.length (lsEl c_Token x)))]⟩ : ASt)) (fun x => Sum.inl x = o2) (fun _ _ w h => aw_weak w h) ?_ ?_
  · intro x2_0 hI2
    subst hI2
    replace h := Md.onS_l h
    change AW _ _ (⟨82, [], [(5, .one (.own 0))], [(0, some (.row 49 4 x2_0.length (lsEl c_Token x2_0)))]⟩ : ASt) _
    refine aw_seq (aw_region (s_mv ?_))
    iterate 3 refine s_sa ?_
    refine aops_nil ?_
    cases Option.some.inj h
    refine aw_freeze 0 rfl ?_
    exact aw_ret ⟨rfl, rv (rn (.cons o1 (.cons o1 (.cons o1 .nil))))⟩
  intro p2
  obtain ⟨⟨n2, s2_0, s2_1⟩, l2⟩ := p2
  change AW _ _ (⟨82, [], [(0, .one (.val (Sv a0))), (5, .one (.own 0)), (6, vI s2_0)], [(0, some (.row 49 4 s2_1.length (lsEl c_Token s2_1)))]⟩ : ASt) _
  replace l2 : actorgridref17_Tokens_loop1 k a0 n2 s2_0 s2_1 = some o2 := l2
  rcases n2 with _ | n2
  · exact absurd (show none = some o2 from l2) nofun
  rw [actorgridref17_Tokens_loop1] at l2
  refine aw_seq (aw_seq (aw_region ?_))
  iterate 2 refine s_mv ?_
  refine aops_step1 rfl (st_len_str rfl rfl) (s_cm ?_)
  refine aops_nil ?_
  refine aw_cond rfl (fun c3 => ?_) (fun c3 => ?_)
  · replace l2 := Md.cond_t l2 c3
    refine aw_skip (aw_block (aw_seq (aw_region ?_)))
    iterate 2 refine s_mv ?_
    obtain ⟨g4, l2⟩ := Md.ifp_s l2
    refine aops_step1 rfl (st_index_str rfl rfl (Md.idx_eq g4) (Md.idx_lt g4) rfl) (s_sa ?_)
    refine aops_nil (aw_seq (aw_seq (aw_region (s_mv ?_))))
    refine s_cm ?_
    refine s_mv ?_
    refine aops_mid 3 (⟨82, [], [(0, .one (.val (Sv a0))), (5, .one (.own 0)), (6, vI s2_0), (7, .one (.val (.int .u8 (((a0.getD ((s2_0).toNat) 0)).toNat : Int)))), (26, vB (((((a0.getD ((s2_0).toNat) 0)).toNat : Int) == 32) || ((((a0.getD ((s2_0).toNat) 0)).toNat : Int) == 9)))], [(0, some (.row 49 4 s2_1.length (lsEl c_Token s2_1)))]⟩ : ASt) ?_ ?_
    · rcases Md.bool_or (((((a0.getD ((s2_0).toNat) 0)).toNat : Int) == 32)) with q5 | q5
      · skip
        iterate 2 refine np q5 ?_
        refine s_py q5 ?_
        refine aops_nil ?_
        exact wq q5
      refine y_mv q5 ?_
      refine y_cm q5 ?_
      refine s_pn q5 ?_
      refine aops_nil ?_
      exact wq q5
    refine s_mv ?_
    refine aops_mid 3 (⟨82, [], [(0, .one (.val (Sv a0))), (5, .one (.own 0)), (6, vI s2_0), (7, .one (.val (.int .u8 (((a0.getD ((s2_0).toNat) 0)).toNat : Int)))), (30, vB ((((((a0.getD ((s2_0).toNat) 0)).toNat : Int) == 32) || ((((a0.getD ((s2_0).toNat) 0)).toNat : Int) == 9)) || ((((a0.getD ((s2_0).toNat) 0)).toNat : Int) == 10)))], [(0, some (.row 49 4 s2_1.length (lsEl c_Token s2_1)))]⟩ : ASt) ?_ ?_
    · rcases Md.bool_or ((((((a0.getD ((s2_0).toNat) 0)).toNat : Int) == 32) || ((((a0.getD ((s2_0).toNat) 0)).toNat : Int) == 9))) with q6 | q6
      · skip
        iterate 2 refine np q6 ?_
        refine s_py q6 ?_
        refine aops_nil ?_
        exact wq q6
      refine y_mv q6 ?_
      refine y_cm q6 ?_
      refine s_pn q6 ?_
      refine aops_nil ?_
      exact wq q6
    refine s_mv ?_
    refine aops_mid 3 (⟨82, [], [(0, .one (.val (Sv a0))), (5, .one (.own 0)), (6, vI s2_0), (7, .one (.val (.int .u8 (((a0.getD ((s2_0).toNat) 0)).toNat : Int)))), (34, vB (((((((a0.getD ((s2_0).toNat) 0)).toNat : Int) == 32) || ((((a0.getD ((s2_0).toNat) 0)).toNat : Int) == 9)) || ((((a0.getD ((s2_0).toNat) 0)).toNat : Int) == 10)) || ((((a0.getD ((s2_0).toNat) 0)).toNat : Int) == 13)))], [(0, some (.row 49 4 s2_1.length (lsEl c_Token s2_1)))]⟩ : ASt) ?_ ?_
    · rcases Md.bool_or (((((((a0.getD ((s2_0).toNat) 0)).toNat : Int) == 32) || ((((a0.getD ((s2_0).toNat) 0)).toNat : Int) == 9)) || ((((a0.getD ((s2_0).toNat) 0)).toNat : Int) == 10))) with q7 | q7
      · skip
        iterate 2 refine np q7 ?_
        refine s_py q7 ?_
        refine aops_nil ?_
        exact wq q7
      refine y_mv q7 ?_
      refine y_cm q7 ?_
      refine s_pn q7 ?_
      refine aops_nil ?_
      exact wq q7
    refine aops_nil ?_
    refine aw_cond rfl (fun c8 => ?_) (fun c8 => ?_)
    · replace l2 := Md.cond_t l2 c8
      refine aw_seq (aw_region (s_mv ?_))
      refine aops_step1 rfl (ev_add rfl rfl rfl (Md.wrap_W _)) (s_sa ?_)
      refine aops_nil (aw_exit ?_)
      exact ⟨⟨(n2, (Md.W (s2_0 + 1)), s2_1), l2⟩, Nat.lt_succ_self _, wk⟩
    replace l2 := Md.cond_f l2 c8
    refine aw_skip (aw_seq (aw_seq (aw_region (s_mv ?_))))
    refine s_cm ?_
    refine s_mv ?_
    refine aops_mid 6 (⟨82, [], [(0, .one (.val (Sv a0))), (5, .one (.own 0)), (6, vI s2_0), (45, vB (((((a0.getD ((s2_0).toNat) 0)).toNat : Int) == 47) && (decide ((Md.W (s2_0 + 1)) < ((a0.length : Nat) : Int)))))], [(0, some (.row 49 4 s2_1.length (lsEl c_Token s2_1)))]⟩ : ASt) ?_ ?_
    · rcases Md.bool_or (((((a0.getD ((s2_0).toNat) 0)).toNat : Int) == 47)) with q9 | q9
      · skip
        refine y_mv q9 ?_
        refine aops_yes rfl rfl rfl rfl q9 (ev_add rfl rfl rfl (Md.wrap_W _)) (y_mv q9 ?_)
        refine aops_yes rfl rfl rfl rfl q9 (st_len_str rfl rfl) (y_cm q9 ?_)
        refine s_py q9 ?_
        refine aops_nil ?_
        exact wq q9
      iterate 5 refine np q9 ?_
      refine s_pn q9 ?_
      refine aops_nil ?_
      exact wq q9
    refine s_mv ?_
    obtain ⟨o10, j10, l2⟩ := Md.bind_s l2
    refine aops_cut 6 (ε := Bool) (fun x10 => (⟨82, [], [(0, .one (.val (Sv a0))), (5, .one (.own 0)), (6, vI s2_0), (52, vB x10)], [(0, some (.row 49 4 s2_1.length (lsEl c_Token s2_1)))]⟩ : ASt)) (fun x10 => x10 = o10) ?_ ?_
    · intro x10 hI10
      subst hI10
      change AOps _ _ _ (⟨82, [], [(0, .one (.val (Sv a0))), (5, .one (.own 0)), (6, vI s2_0), (52, vB x10)], [(0, some (.row 49 4 s2_1.length (lsEl c_Token s2_1)))]⟩ : ASt) _
      refine aops_nil ?_
      refine aw_cond rfl (fun c11 => ?_) (fun c11 => ?_)
      · replace l2 := Md.cond_t l2 c11
        refine aw_seq (aw_block ?_)
        obtain ⟨o12, ho12, l2⟩ := Md.bind_s l2
        refine aw_loop_x (ι := {p : Nat × Int // actorgridref17_Tokens_loop2 k a0 p.1 p.2 = some o12}) (fun p => (⟨82, [], [(0, .one (.val (Sv a0))), (5, .one (.own 0)), (6, vI p.1.2)], [(0, some (.row 49 4 s2_1.length (lsEl c_Token s2_1)))]⟩ : ASt)) (fun p => p.1.1) ⟨(k, s2_0), ho12⟩ wk 2 (ε := Int) (fun x => (⟨82, [], [(0, .one (.val (Sv a0))), (5, .one (.own 0)), (6, vI x)], [(0, some (.row 49 4 s2_1.length (lsEl c_Token s2_1)))]⟩ : ASt)) (fun x => x = o12) (fun _ _ w h => aw_weak w h) ?_ ?_
        · intro x12_0 hI12
          subst hI12
          change AW _ _ (⟨82, [], [(0, .one (.val (Sv a0))), (5, .one (.own 0)), (6, vI x12_0)], [(0, some (.row 49 4 s2_1.length (lsEl c_Token s2_1)))]⟩ : ASt) _
          refine aw_exit ?_
          exact ⟨⟨(n2, x12_0, s2_1), l2⟩, Nat.lt_succ_self _, wk⟩
        intro p12
        obtain ⟨⟨n12, s12_0⟩, l12⟩ := p12
        change AW _ _ (⟨82, [], [(0, .one (.val (Sv a0))), (5, .one (.own 0)), (6, vI s12_0)], [(0, some (.row 49 4 s2_1.length (lsEl c_Token s2_1)))]⟩ : ASt) _
        replace l12 : actorgridref17_Tokens_loop2 k a0 n12 s12_0 = some o12 := l12
        rcases n12 with _ | n12
        · exact absurd (show none = some o12 from l12) nofun
        rw [actorgridref17_Tokens_loop2] at l12
        refine aw_seq (aw_seq (aw_region ?_))
        iterate 2 refine s_mv ?_
        refine aops_step1 rfl (st_len_str rfl rfl) (s_cm ?_)
        refine s_mv ?_
        obtain ⟨o13, j13, l12⟩ := Md.bind_s l12
        refine aops_cut 5 (ε := Bool) (fun x13 => (⟨82, [], [(0, .one (.val (Sv a0))), (5, .one (.own 0)), (6, vI s12_0), (62, vB x13)], [(0, some (.row 49 4 s2_1.length (lsEl c_Token s2_1)))]⟩ : ASt)) (fun x13 => x13 = o13) ?_ ?_
        · intro x13 hI13
          subst hI13
          change AOps _ _ _ (⟨82, [], [(0, .one (.val (Sv a0))), (5, .one (.own 0)), (6, vI s12_0), (62, vB x13)], [(0, some (.row 49 4 s2_1.length (lsEl c_Token s2_1)))]⟩ : ASt) _
          refine aops_nil ?_
          refine aw_cond rfl (fun c14 => ?_) (fun c14 => ?_)
          · replace l12 := Md.cond_t l12 c14
            refine aw_skip (aw_block (aw_region (s_mv ?_)))
            refine aops_step1 rfl (ev_add rfl rfl rfl (Md.wrap_W _)) (s_sa ?_)
            refine aops_nil ?_
            exact ⟨⟨(n12, (Md.W (s12_0 + 1))), l12⟩, Nat.lt_succ_self _, wk⟩
          replace l12 := Md.cond_f l12 c14
          refine aw_exit ?_
          show ∃ _x : Int, _ = _ ∧ Weak _ _
          exact ⟨s12_0, Option.some.inj l12, wk⟩
        rcases Md.bool_or ((decide (s12_0 < ((a0.length : Nat) : Int)))) with q13 | q13
        · replace j13 := Md.cond_t j13 q13
          iterate 2 refine y_mv q13 ?_
          obtain ⟨g15, j13⟩ := Md.ifp_s j13
          refine aops_yes rfl rfl rfl rfl q13 (st_index_str rfl rfl (Md.idx_eq g15) (Md.idx_lt g15) rfl) (y_cm q13 ?_)
          refine s_py q13 ?_
          refine aops_nil ?_
          show ∃ _x : Bool, _ = _ ∧ Weak _ _
          exact ⟨((((a0.getD ((s12_0).toNat) 0)).toNat : Int) != 10), Option.some.inj j13, wk⟩
        replace j13 := Md.cond_f j13 q13
        iterate 4 refine np q13 ?_
        refine s_pn q13 ?_
        refine aops_nil ?_
        show ∃ _x : Bool, _ = _ ∧ Weak _ _
        exact ⟨false, Option.some.inj j13, wk⟩
      replace l2 := Md.cond_f l2 c11
      refine aw_skip (aw_seq (aw_region ?_))
      iterate 2 refine s_mv ?_
      obtain ⟨x16, hx16, l2⟩ := Md.bind_s l2
      refine aops_step1 rfl (ev_call_v (actorgridref17_next_fn k a0 s2_0 x16 hx16) rfl [] ai rfl rfl rfl (.inl rfl) rfl) (s_mt ?_)
      iterate 3 refine s_ex ?_
      refine aops_step1 rfl (st_alloc (cs := [cI 0, .val (Sv []), cI 0, cI 0]) 1 rfl rfl rfl rfl rfl) (s_st [_, _, _, _] ?_)
      iterate 2 refine s_sa ?_
      refine aops_nil (aw_seq (aw_seq (aw_region (s_mv ?_))))
      refine s_cm ?_
      refine aops_nil ?_
      refine aw_cond rfl (fun c17 => ?_) (fun c17 => ?_)
      · replace l2 := Md.cond_t l2 c17
        refine aw_seq (aw_region ?_)
        iterate 2 refine s_mv ?_
        iterate 3 refine s_sa ?_
        refine aops_nil ?_
        cases Option.some.inj l2
        replace h := Md.onS_r h
        cases Option.some.inj h
        exact aw_ret ⟨rfl, rv (rn (.cons o1 (.cons o1 (.cons o1 .nil))))⟩
      replace l2 := Md.cond_f l2 c17
      refine aw_skip (aw_seq (aw_region (s_mv ?_)))
      refine s_ls [_, _, _, _] ?_
      refine aops_step1 rfl (st_slice_lit (el := lsEl c_Token [x16.1]) 2 rfl rfl rfl rfl rfl rfl rfl rfl (lit_el c_Token 4 [x16.1] (fun _ => rfl)) rfl) ?_
      obtain ⟨g18, l2⟩ := Md.ifp_s l2
      refine aops_step1 rfl (st_app_ls (f := c_Token) s2_1 [x16.1] (fun _ => rfl) rfl rfl (.inr ⟨_, _, rfl, rfl⟩) (by omega) (by omega) rfl) (s_sa ?_)
      refine aops_nil (aw_region (s_mv ?_))
      refine s_sa ?_
      refine aops_nil ?_
      exact ⟨⟨(n2, x16.2.1, (s2_1 ++ [x16.1])), l2⟩, Nat.lt_succ_self _, wk⟩
    rcases Md.bool_or ((((((a0.getD ((s2_0).toNat) 0)).toNat : Int) == 47) && (decide ((Md.W (s2_0 + 1)) < ((a0.length : Nat) : Int))))) with q10 | q10
    · replace j10 := Md.cond_t j10 q10
      iterate 2 refine y_mv q10 ?_
      refine aops_yes rfl rfl rfl rfl q10 (ev_add rfl rfl rfl (Md.wrap_W _)) ?_
      obtain ⟨g19, j10⟩ := Md.ifp_s j10
      refine aops_yes rfl rfl rfl rfl q10 (st_index_str rfl rfl (Md.idx_eq g19) (Md.idx_lt g19) rfl) (y_cm q10 ?_)
      refine s_py q10 ?_
      refine aops_nil ?_
      show ∃ _x : Bool, _ = _ ∧ Weak _ _
      exact ⟨((((a0.getD (((Md.W (s2_0 + 1))).toNat) 0)).toNat : Int) == 47), Option.some.inj j10, wk⟩
    replace j10 := Md.cond_f j10 q10
    iterate 5 refine np q10 ?_
    refine s_pn q10 ?_
    refine aops_nil ?_
    show ∃ _x : Bool, _ = _ ∧ Weak _ _
    exact ⟨false, Option.some.inj j10, wk⟩
  replace l2 := Md.cond_f l2 c3
  refine aw_exit ?_
  show ∃ _x : (List Token), _ = _ ∧ Weak _ _
  exact ⟨s2_1, Option.some.inj l2, wk⟩
set_option maxHeartbeats 2000000 in
theorem actorgridref17_Same_fn (k : Nat) (a0 : List Token) (a1 : List Token) (r : Bool) (h : actorgridref17_Same k a0 a1 = some r) : FnC Tryd.prog 31 [.one (CV.ls c_Token a0), .one (CV.ls c_Token a1)] [] (Det (vB r) []) := by
  unfold actorgridref17_Same at h
  refine fn_intro' 26 Tryd.func31 rfl rfl rfl (aw_seq (aw_region (s_sa ?_)))
  refine aops_nil (aw_seq (aw_seq (aw_region (s_mv ?_))))
  refine s_ln ?_
  refine s_mv ?_
  refine s_ln ?_
  refine s_cm ?_
  refine aops_nil ?_
  refine aw_cond rfl (fun c1 => ?_) (fun c1 => ?_)
  · replace h := Md.cond_t h c1
    refine aw_seq (aw_region (s_sa ?_))
    refine aops_nil ?_
    cases Option.some.inj h
    exact aw_ret ⟨rfl, rv r1⟩
  replace h := Md.cond_f h c1
  refine aw_skip (aw_seq (aw_seq (aw_region (s_sa ?_))))
  refine aops_nil (aw_block ?_)
  obtain ⟨o2, ho2, h⟩ := Md.bind_s h
  refine aw_loop_x (ι := {p : Nat × Nat // actorgridref17_Same_loop1 k a0 a1 p.1 p.2 = some o2}) (fun p => (⟨26, [], [(0, .one (CV.ls c_Token a0)), (1, .one (CV.ls c_Token a1)), (5, vI ((p.1.2 : Nat) : Int))], []⟩ : ASt)) (fun p => p.1.1) ⟨(k, 0), ho2⟩ wk 0 (ε := Unit) (fun x => (⟨26, [], [], []⟩ : ASt)) (fun x => Sum.inl x = o2) (fun _ _ w h => aw_weak w h) ?_ ?_
  · intro x2_0 hI2
    subst hI2
    replace h := Md.onS_l h
    change AW _ _ (⟨26, [], [], []⟩ : ASt) _
    refine aw_seq (aw_region (s_sa ?_))
    refine aops_nil ?_
    cases Option.some.inj h
    exact aw_ret ⟨rfl, rv r1⟩
  intro p2
  obtain ⟨⟨n2, s2_0⟩, l2⟩ := p2
  change AW _ _ (⟨26, [], [(0, .one (CV.ls c_Token a0)), (1, .one (CV.ls c_Token a1)), (5, vI ((s2_0 : Nat) : Int))], []⟩ : ASt) _
  replace l2 : actorgridref17_Same_loop1 k a0 a1 n2 s2_0 = some o2 := l2
  rcases n2 with _ | n2
  · exact absurd (show none = some o2 from l2) nofun
  rw [actorgridref17_Same_loop1] at l2
  refine aw_seq (aw_seq (aw_region ?_))
  iterate 2 refine s_mv ?_
  refine s_ln ?_
  refine s_cm ?_
  refine aops_nil ?_
  refine aw_cond rfl (fun c3 => ?_) (fun c3 => ?_)
  · replace l2 := Md.cond_t l2 c3
    refine aw_skip (aw_seq (aw_block ?_))
    obtain ⟨g4, l2⟩ := Md.ifp_s l2
    obtain ⟨g5, l2⟩ := Md.ifp_s l2
    refine aw_seq ?_
    apply aw_draw 8 ((⟨[], .one (CV.ls c_Token a0)⟩ : Add) :: ⟨[], vI ((s2_0 : Nat) : Int)⟩ :: ⟨[], .one (.cptr _)⟩ :: ⟨[], .agg (c_Token (a0.getD s2_0 default))⟩ :: ⟨[], .one (CV.ls c_Token a1)⟩ :: ⟨[], vI ((s2_0 : Nat) : Int)⟩ :: ⟨[], .one (.cptr _)⟩ :: ⟨[], .agg (c_Token (a1.getD s2_0 default))⟩ :: []) (by decide) rfl ?hk6x ?hf6x ?ho6x ?hr6x
    case ho6x =>
     refine ob [] (fun S hle hfr => .inl ⟨w0, st_move (hle.e rfl) (hle.d rfl)⟩) (ob [] (fun S hle hfr => .inl ⟨w0, st_move (hle.e rfl) (hle.d rfl)⟩) ?_)
     refine ob [0, 1] (fun S hle hfr => .inl ⟨w0, ev_index_in (hle.e rfl) (hle.e rfl) rfl g4 rfl (hle.d rfl)⟩) ?_
     refine ob [2, 0, 1] (fun S hle hfr => .inl ⟨w0, ev_loads_in (ds := [_, _, _, _]) (hle.e rfl) rfl rfl (hle.d rfl)⟩) ?_
     refine ob [] (fun S hle hfr => .inl ⟨w0, st_move (hle.e rfl) (hle.d rfl)⟩) (ob [] (fun S hle hfr => .inl ⟨w0, st_move (hle.e rfl) (hle.d rfl)⟩) ?_)
     refine ob [4, 5] (fun S hle hfr => .inl ⟨w0, ev_index_in (hle.e rfl) (hle.e rfl) rfl g5 rfl (hle.d rfl)⟩) ?_
     refine ob [6, 4, 5] (fun S hle hfr => .inl ⟨w0, ev_loads_in (ds := [_, _, _, _]) (hle.e rfl) rfl rfl (hle.d rfl)⟩) ?_
     exact trivial
    case hk6x => rfl
    case hf6x => rfl
    refine aops_step1 rfl (ev_agg_ne (vs := [.int .i64 ((a0.getD s2_0 default).Kind), Sv ((a0.getD s2_0 default).Text), .int .i64 ((a0.getD s2_0 default).Num), .int .i64 ((a0.getD s2_0 default).At)]) (us := [.int .i64 ((a1.getD s2_0 default).Kind), Sv ((a1.getD s2_0 default).Text), .int .i64 ((a1.getD s2_0 default).Num), .int .i64 ((a1.getD s2_0 default).At)]) (by kernel_rfl) rfl rfl (fun w => sq_Token (⟨((a0.getD s2_0 default).Kind), ((a0.getD s2_0 default).Text), ((a0.getD s2_0 default).Num), ((a0.getD s2_0 default).At)⟩ : Token) (⟨((a1.getD s2_0 default).Kind), ((a1.getD s2_0 default).Text), ((a1.getD s2_0 default).Num), ((a1.getD s2_0 default).At)⟩ : Token) w) rfl) ?_
    refine aops_nil ?_
    refine aw_cond rfl (fun c6 => ?_) (fun c6 => ?_)
    · replace l2 := Md.cond_t l2 c6
      refine aw_seq (aw_region (s_sa ?_))
      refine aops_nil ?_
      cases Option.some.inj l2
      replace h := Md.onS_r h
      cases Option.some.inj h
      exact aw_ret ⟨rfl, rv r1⟩
    replace l2 := Md.cond_f l2 c6
    refine aw_skip (aw_region (s_mv ?_))
    obtain ⟨g7, l2⟩ := Md.ifp_s l2
    refine aops_step1 rfl (ev_add rfl rfl rfl (Md.nat_add g7)) (s_sa ?_)
    refine aops_nil ?_
    exact ⟨⟨(n2, (s2_0 + 1)), l2⟩, Nat.lt_succ_self _, wk⟩
  replace l2 := Md.cond_f l2 c3
  refine aw_exit ?_
  show ∃ _x : Unit, _ = _ ∧ Weak _ _
  exact ⟨(), Option.some.inj l2, wk⟩
set_option maxHeartbeats 2000000 in
theorem actorgridref17_IsName_fn (k : Nat) (a0 : List UInt8) (r : Bool) (h : actorgridref17_IsName k a0 = some r) : FnC Tryd.prog 33 [.one (.val (Sv a0))] [] (Det (vB r) []) := by
  unfold actorgridref17_IsName at h
  refine fn_intro' 34 Tryd.func33 rfl rfl rfl (aw_seq (aw_region (s_sa ?_)))
  refine aops_nil (aw_seq (aw_seq (aw_region (s_sa ?_))))
  refine aops_nil (aw_block ?_)
  obtain ⟨o1, ho1, h⟩ := Md.bind_s h
  refine aw_loop_x (ι := {p : Nat × Nat // actorgridref17_IsName_loop1 k a0 p.1 p.2 = some o1}) (fun p => (⟨34, [], [(0, .one (.val (Sv a0))), (3, vI ((p.1.2 : Nat) : Int))], []⟩ : ASt)) (fun p => p.1.1) ⟨(k, 0), ho1⟩ wk 0 (ε := Unit) (fun x => (⟨34, [], [(0, .one (.val (Sv a0)))], []⟩ : ASt)) (fun x => Sum.inl x = o1) (fun _ _ w h => aw_weak w h) ?_ ?_
  · intro x1_0 hI1
    subst hI1
    replace h := Md.onS_l h
    change AW _ _ (⟨34, [], [(0, .one (.val (Sv a0)))], []⟩ : ASt) _
    refine aw_seq (aw_region (s_mv ?_))
    refine aops_step1 rfl (st_len_str rfl rfl) (s_cm ?_)
    refine s_mv ?_
    refine aops_mid 4 (⟨34, [], [(0, .one (.val (Sv a0))), (22, vB ((decide (((a0.length : Nat) : Int) ≥ 1)) && (decide (((a0.length : Nat) : Int) ≤ 32))))], []⟩ : ASt) ?_ ?_
    · rcases Md.bool_or ((decide (((a0.length : Nat) : Int) ≥ 1))) with q2 | q2
      · skip
        refine y_mv q2 ?_
        refine aops_yes rfl rfl rfl rfl q2 (st_len_str rfl rfl) (y_cm q2 ?_)
        refine s_py q2 ?_
        refine aops_nil ?_
        exact wq q2
      iterate 3 refine np q2 ?_
      refine s_pn q2 ?_
      refine aops_nil ?_
      exact wq q2
    refine s_mv ?_
    obtain ⟨o3, j3, h⟩ := Md.bind_s h
    refine aops_cut 5 (ε := Bool) (fun x3 => (⟨34, [], [(0, .one (.val (Sv a0))), (28, vB x3)], []⟩ : ASt)) (fun x3 => x3 = o3) ?_ ?_
    · intro x3 hI3
      subst hI3
      change AOps _ _ _ (⟨34, [], [(0, .one (.val (Sv a0))), (28, vB x3)], []⟩ : ASt) _
      refine s_mv ?_
      obtain ⟨o4, j4, h⟩ := Md.bind_s h
      refine aops_cut 4 (ε := Bool) (fun x4 => (⟨34, [], [(33, vB x4)], []⟩ : ASt)) (fun x4 => x4 = o4) ?_ ?_
      · intro x4 hI4
        subst hI4
        change AOps _ _ _ (⟨34, [], [(33, vB x4)], []⟩ : ASt) _
        refine s_sa ?_
        refine aops_nil ?_
        cases Option.some.inj h
        exact aw_ret ⟨rfl, rv r1⟩
      rcases Md.bool_or (x3) with q4 | q4
      · replace j4 := Md.cond_t j4 q4
        refine y_mv q4 ?_
        obtain ⟨x5, hx5, j4⟩ := Md.bind_s j4
        refine aops_yes rfl rfl rfl rfl q4 (ev_call_v (actorgridref17_IsKeyword_fn k a0 x5 hx5) rfl [] ai rfl rfl rfl (.inl rfl) rfl) (y_nt q4 ?_)
        refine s_py q4 ?_
        refine aops_nil ?_
        show ∃ _x : Bool, _ = _ ∧ Weak _ _
        exact ⟨(!x5), Option.some.inj j4, wk⟩
      replace j4 := Md.cond_f j4 q4
      iterate 3 refine np q4 ?_
      refine s_pn q4 ?_
      refine aops_nil ?_
      show ∃ _x : Bool, _ = _ ∧ Weak _ _
      exact ⟨false, Option.some.inj j4, wk⟩
    rcases Md.bool_or (((decide (((a0.length : Nat) : Int) ≥ 1)) && (decide (((a0.length : Nat) : Int) ≤ 32)))) with q3 | q3
    · replace j3 := Md.cond_t j3 q3
      refine y_mv q3 ?_
      obtain ⟨g6, j3⟩ := Md.ifp_s j3
      refine aops_yes rfl rfl rfl rfl q3 (st_index_str rfl rfl rfl g6 rfl) ?_
      obtain ⟨x7, hx7, j3⟩ := Md.bind_s j3
      refine aops_yes rfl rfl rfl rfl q3 (ev_call_v (actorgridref17_digit_fn k (a0.getD 0 0) x7 hx7) rfl [] ai rfl rfl rfl (.inl rfl) rfl) (y_nt q3 ?_)
      refine s_py q3 ?_
      refine aops_nil ?_
      show ∃ _x : Bool, _ = _ ∧ Weak _ _
      exact ⟨(!x7), Option.some.inj j3, wk⟩
    replace j3 := Md.cond_f j3 q3
    iterate 4 refine np q3 ?_
    refine s_pn q3 ?_
    refine aops_nil ?_
    show ∃ _x : Bool, _ = _ ∧ Weak _ _
    exact ⟨false, Option.some.inj j3, wk⟩
  intro p1
  obtain ⟨⟨n1, s1_0⟩, l1⟩ := p1
  change AW _ _ (⟨34, [], [(0, .one (.val (Sv a0))), (3, vI ((s1_0 : Nat) : Int))], []⟩ : ASt) _
  replace l1 : actorgridref17_IsName_loop1 k a0 n1 s1_0 = some o1 := l1
  rcases n1 with _ | n1
  · exact absurd (show none = some o1 from l1) nofun
  rw [actorgridref17_IsName_loop1] at l1
  refine aw_seq (aw_seq (aw_region ?_))
  iterate 2 refine s_mv ?_
  refine aops_step1 rfl (st_len_str rfl rfl) (s_cm ?_)
  refine aops_nil ?_
  refine aw_cond rfl (fun c8 => ?_) (fun c8 => ?_)
  · replace l1 := Md.cond_t l1 c8
    refine aw_skip (aw_seq (aw_block (aw_seq (aw_region ?_))))
    iterate 2 refine s_mv ?_
    obtain ⟨g9, l1⟩ := Md.ifp_s l1
    refine aops_step1 rfl (st_index_str rfl rfl rfl g9 rfl) ?_
    obtain ⟨x10, hx10, l1⟩ := Md.bind_s l1
    refine aops_step1 rfl (ev_call_v (actorgridref17_word_fn k (a0.getD s1_0 0) x10 hx10) rfl [] ai rfl rfl rfl (.inl rfl) rfl) (s_nt ?_)
    refine aops_nil ?_
    refine aw_cond rfl (fun c11 => ?_) (fun c11 => ?_)
    · replace l1 := Md.cond_t l1 c11
      refine aw_seq (aw_region (s_sa ?_))
      refine aops_nil ?_
      cases Option.some.inj l1
      replace h := Md.onS_r h
      cases Option.some.inj h
      exact aw_ret ⟨rfl, rv r1⟩
    replace l1 := Md.cond_f l1 c11
    refine aw_skip (aw_region (s_mv ?_))
    obtain ⟨g12, l1⟩ := Md.ifp_s l1
    refine aops_step1 rfl (ev_add rfl rfl rfl (Md.nat_add g12)) (s_sa ?_)
    refine aops_nil ?_
    exact ⟨⟨(n1, (s1_0 + 1)), l1⟩, Nat.lt_succ_self _, wk⟩
  replace l1 := Md.cond_f l1 c8
  refine aw_exit ?_
  show ∃ _x : Unit, _ = _ ∧ Weak _ _
  exact ⟨(), Option.some.inj l1, wk⟩
set_option maxHeartbeats 2000000 in
theorem actorgridref17_Quote_fn (k : Nat) (a0 : List UInt8) (r : (List UInt8)) (h : actorgridref17_Quote k a0 = some r) : FnC Tryd.prog 37 [.one (.val (Sv a0))] [] (Det (.one (.val (Sv r))) []) := by
  unfold actorgridref17_Quote at h
  refine fn_intro' 54 Tryd.func37 rfl rfl rfl (aw_seq (aw_region (s_sa ?_)))
  refine aops_nil (aw_seq (aw_region (s_sa ?_)))
  refine aops_nil (aw_seq (aw_region ?_))
  refine aops_step1 rfl (st_slice_lit (el := lsEl byC [(34 : UInt8)]) 0 rfl rfl rfl rfl rfl rfl rfl rfl (lit_el byC 1 [(34 : UInt8)] (fun _ => rfl)) rfl) (s_sa ?_)
  refine aops_nil (aw_seq (aw_seq (aw_region (s_sa ?_))))
  refine aops_nil (aw_block ?_)
  obtain ⟨o1, ho1, h⟩ := Md.bind_s h
  refine aw_loop_x (ι := {p : Nat × Nat × (List UInt8) // actorgridref17_Quote_loop1 k a0 p.1 p.2.1 p.2.2 = some o1}) (fun p => (⟨54, [], [(0, .one (.val (Sv a0))), (3, .one (.val (Sv ([48, 49, 50, 51, 52, 53, 54, 55, 56, 57, 97, 98, 99, 100, 101, 102] : List UInt8)))), (4, .one (.own 0)), (5, vI ((p.1.2.1 : Nat) : Int))], [(0, some (.row 5 1 p.1.2.2.length (lsEl byC p.1.2.2)))]⟩ : ASt)) (fun p => p.1.1) ⟨(k, 0, [(34 : UInt8)]), ho1⟩ wk 0 (ε := (List UInt8)) (fun x => (⟨54, [], [(4, .one (.own 0))], [(0, some (.row 5 1 x.length (lsEl byC x)))]⟩ : ASt)) (fun x => x = o1) (fun _ _ w h => aw_weak w h) ?_ ?_
  · intro x1_0 hI1
    subst hI1
    change AW _ _ (⟨54, [], [(4, .one (.own 0))], [(0, some (.row 5 1 x1_0.length (lsEl byC x1_0)))]⟩ : ASt) _
    refine aw_seq (aw_region (s_mv ?_))
    refine aops_step1 rfl (st_slice_lit (el := lsEl byC [(34 : UInt8)]) 1 rfl rfl rfl rfl rfl rfl rfl rfl (lit_el byC 1 [(34 : UInt8)] (fun _ => rfl)) rfl) ?_
    obtain ⟨g2, h⟩ := Md.ifp_s h
    refine aops_step1 rfl (st_app_ls (f := byC) x1_0 [(34 : UInt8)] (fun _ => rfl) rfl rfl (.inr ⟨_, _, rfl, rfl⟩) (by omega) (by omega) rfl) ?_
    refine aops_step1 rfl (ev_str_bytes (.inr ⟨_, _, rfl, rfl⟩) Tryd.underlying42 Tryd.underlying5 Tryd.underlying9 rfl) (s_sa ?_)
    refine aops_nil ?_
    cases Option.some.inj h
    exact aw_ret ⟨rfl, rv r1⟩
  intro p1
  obtain ⟨⟨n1, s1_0, s1_1⟩, l1⟩ := p1
  change AW _ _ (⟨54, [], [(0, .one (.val (Sv a0))), (3, .one (.val (Sv ([48, 49, 50, 51, 52, 53, 54, 55, 56, 57, 97, 98, 99, 100, 101, 102] : List UInt8)))), (4, .one (.own 0)), (5, vI ((s1_0 : Nat) : Int))], [(0, some (.row 5 1 s1_1.length (lsEl byC s1_1)))]⟩ : ASt) _
  replace l1 : actorgridref17_Quote_loop1 k a0 n1 s1_0 s1_1 = some o1 := l1
  rcases n1 with _ | n1
  · exact absurd (show none = some o1 from l1) nofun
  rw [actorgridref17_Quote_loop1] at l1
  refine aw_seq (aw_seq (aw_region ?_))
  iterate 2 refine s_mv ?_
  refine aops_step1 rfl (st_len_str rfl rfl) (s_cm ?_)
  refine aops_nil ?_
  refine aw_cond rfl (fun c3 => ?_) (fun c3 => ?_)
  · replace l1 := Md.cond_t l1 c3
    refine aw_skip ?_
    obtain ⟨o4, j4, l1⟩ := Md.bind_s l1
    refine aw_cut (ε := (List UInt8)) (fun x => (⟨54, [], [(0, .one (.val (Sv a0))), (3, .one (.val (Sv ([48, 49, 50, 51, 52, 53, 54, 55, 56, 57, 97, 98, 99, 100, 101, 102] : List UInt8)))), (4, .one (.own 0)), (5, vI ((s1_0 : Nat) : Int))], [(0, some (.row 5 1 x.length (lsEl byC x)))]⟩ : ASt)) (fun x => x = o4) ?_ ?_
    · intro x4_0 hI4
      subst hI4
      change AW _ _ (⟨54, [], [(0, .one (.val (Sv a0))), (3, .one (.val (Sv ([48, 49, 50, 51, 52, 53, 54, 55, 56, 57, 97, 98, 99, 100, 101, 102] : List UInt8)))), (4, .one (.own 0)), (5, vI ((s1_0 : Nat) : Int))], [(0, some (.row 5 1 x4_0.length (lsEl byC x4_0)))]⟩ : ASt) _
      refine aw_region (s_mv ?_)
      obtain ⟨g5, l1⟩ := Md.ifp_s l1
      refine aops_step1 rfl (ev_add rfl rfl rfl (Md.nat_add g5)) (s_sa ?_)
      refine aops_nil ?_
      exact ⟨⟨(n1, (s1_0 + 1), x4_0), l1⟩, Nat.lt_succ_self _, wk⟩
    refine aw_block (aw_seq (aw_region ?_))
    iterate 2 refine s_mv ?_
    obtain ⟨g6, j4⟩ := Md.ifp_s j4
    refine aops_step1 rfl (st_index_str rfl rfl rfl g6 rfl) (s_sa ?_)
    refine aops_nil (aw_block (aw_seq (aw_region (s_mv ?_))))
    refine s_cm ?_
    refine s_mv ?_
    refine aops_mid 3 (⟨54, [], [(0, .one (.val (Sv a0))), (3, .one (.val (Sv ([48, 49, 50, 51, 52, 53, 54, 55, 56, 57, 97, 98, 99, 100, 101, 102] : List UInt8)))), (4, .one (.own 0)), (5, vI ((s1_0 : Nat) : Int)), (6, .one (.val (.int .u8 (((a0.getD s1_0 0)).toNat : Int)))), (34, vB (((((a0.getD s1_0 0)).toNat : Int) == 34) || ((((a0.getD s1_0 0)).toNat : Int) == 92)))], [(0, some (.row 5 1 s1_1.length (lsEl byC s1_1)))]⟩ : ASt) ?_ ?_
    · rcases Md.bool_or (((((a0.getD s1_0 0)).toNat : Int) == 34)) with q7 | q7
      · skip
        iterate 2 refine np q7 ?_
        refine s_py q7 ?_
        refine aops_nil ?_
        exact wq q7
      refine y_mv q7 ?_
      refine y_cm q7 ?_
      refine s_pn q7 ?_
      refine aops_nil ?_
      exact wq q7
    refine s_sa ?_
    refine aops_nil ?_
    refine aw_cond rfl (fun c8 => ?_) (fun c8 => ?_)
    · replace j4 := Md.cond_t j4 c8
      refine aw_region ?_
      iterate 2 refine s_mv ?_
      refine aops_step1 rfl (st_slice_lit (el := lsEl byC [(92 : UInt8), (a0.getD s1_0 0)]) 1 rfl rfl rfl rfl rfl rfl rfl rfl (lit_el byC 1 [(92 : UInt8), (a0.getD s1_0 0)] (fun _ => rfl)) rfl) ?_
      obtain ⟨g9, j4⟩ := Md.ifp_s j4
      refine aops_step1 rfl (st_app_ls (f := byC) s1_1 [(92 : UInt8), (a0.getD s1_0 0)] (fun _ => rfl) rfl rfl (.inr ⟨_, _, rfl, rfl⟩) (by omega) (by omega) rfl) (s_sa ?_)
      refine aops_nil ?_
      show ∃ _x : (List UInt8), _ = _ ∧ Weak _ _
      exact ⟨(s1_1 ++ [(92 : UInt8), (a0.getD s1_0 0)]), Option.some.inj j4, wk⟩
    replace j4 := Md.cond_f j4 c8
    refine aw_seq (aw_region (s_mv ?_))
    refine s_cm ?_
    refine s_mv ?_
    refine aops_mid 3 (⟨54, [], [(0, .one (.val (Sv a0))), (3, .one (.val (Sv ([48, 49, 50, 51, 52, 53, 54, 55, 56, 57, 97, 98, 99, 100, 101, 102] : List UInt8)))), (4, .one (.own 0)), (5, vI ((s1_0 : Nat) : Int)), (6, .one (.val (.int .u8 (((a0.getD s1_0 0)).toNat : Int)))), (45, vB ((decide ((((a0.getD s1_0 0)).toNat : Int) ≥ 32)) && (decide ((((a0.getD s1_0 0)).toNat : Int) ≤ 126))))], [(0, some (.row 5 1 s1_1.length (lsEl byC s1_1)))]⟩ : ASt) ?_ ?_
    · rcases Md.bool_or ((decide ((((a0.getD s1_0 0)).toNat : Int) ≥ 32))) with q10 | q10
      · skip
        refine y_mv q10 ?_
        refine y_cm q10 ?_
        refine s_py q10 ?_
        refine aops_nil ?_
        exact wq q10
      iterate 2 refine np q10 ?_
      refine s_pn q10 ?_
      refine aops_nil ?_
      exact wq q10
    refine s_sa ?_
    refine aops_nil ?_
    refine aw_cond rfl (fun c11 => ?_) (fun c11 => ?_)
    · replace j4 := Md.cond_t j4 c11
      refine aw_region ?_
      iterate 2 refine s_mv ?_
      refine aops_step1 rfl (st_slice_lit (el := lsEl byC [(a0.getD s1_0 0)]) 1 rfl rfl rfl rfl rfl rfl rfl rfl (lit_el byC 1 [(a0.getD s1_0 0)] (fun _ => rfl)) rfl) ?_
      obtain ⟨g12, j4⟩ := Md.ifp_s j4
      refine aops_step1 rfl (st_app_ls (f := byC) s1_1 [(a0.getD s1_0 0)] (fun _ => rfl) rfl rfl (.inr ⟨_, _, rfl, rfl⟩) (by omega) (by omega) rfl) (s_sa ?_)
      refine aops_nil ?_
      show ∃ _x : (List UInt8), _ = _ ∧ Weak _ _
      exact ⟨(s1_1 ++ [(a0.getD s1_0 0)]), Option.some.inj j4, wk⟩
    replace j4 := Md.cond_f j4 c11
    obtain ⟨g13, j4⟩ := Md.ifp_s j4
    obtain ⟨g14, j4⟩ := Md.ifp_s j4
    obtain ⟨g15, j4⟩ := Md.ifp_s j4
    apply aw_draw 10 ((⟨[], .one (.own 0)⟩ : Add) :: ⟨[], .one (.val (Sv ([48, 49, 50, 51, 52, 53, 54, 55, 56, 57, 97, 98, 99, 100, 101, 102] : List UInt8)))⟩ :: ⟨[], .one (.val (.int .u8 (((a0.getD s1_0 0)).toNat : Int)))⟩ :: ⟨[], .one (.val (.int .u8 ((((a0.getD s1_0 0) / (16 : UInt8))).toNat : Int)))⟩ :: ⟨[], .one (.val (.int .u8 (((([48, 49, 50, 51, 52, 53, 54, 55, 56, 57, 97, 98, 99, 100, 101, 102] : List UInt8).getD (((a0.getD s1_0 0) / (16 : UInt8)).toNat) 0)).toNat : Int)))⟩ :: ⟨[], .one (.val (Sv ([48, 49, 50, 51, 52, 53, 54, 55, 56, 57, 97, 98, 99, 100, 101, 102] : List UInt8)))⟩ :: ⟨[], .one (.val (.int .u8 (((a0.getD s1_0 0)).toNat : Int)))⟩ :: ⟨[], .one (.val (.int .u8 ((((a0.getD s1_0 0) % (16 : UInt8))).toNat : Int)))⟩ :: ⟨[], .one (.val (.int .u8 (((([48, 49, 50, 51, 52, 53, 54, 55, 56, 57, 97, 98, 99, 100, 101, 102] : List UInt8).getD (((a0.getD s1_0 0) % (16 : UInt8)).toNat) 0)).toNat : Int)))⟩ :: ⟨[], .one (CV.ls byC [(92 : UInt8), (120 : UInt8), (([48, 49, 50, 51, 52, 53, 54, 55, 56, 57, 97, 98, 99, 100, 101, 102] : List UInt8).getD (((a0.getD s1_0 0) / (16 : UInt8)).toNat) 0), (([48, 49, 50, 51, 52, 53, 54, 55, 56, 57, 97, 98, 99, 100, 101, 102] : List UInt8).getD (((a0.getD s1_0 0) % (16 : UInt8)).toNat) 0)])⟩ :: []) (by decide) rfl ?hk6x ?hf6x ?ho6x ?hr6x
    case ho6x =>
     iterate 3 refine ob [] (fun S hle hfr => .inl ⟨w0, st_move (hle.e rfl) (hle.d rfl)⟩) ?_
     refine ob [2] (fun S hle hfr => .inl ⟨w0, ev_quo (hle.e rfl) (hle.e rfl) (hle.d rfl) (by decide) (Md.quo_u8 (a0.getD s1_0 0) (16 : UInt8))⟩) ?_
     refine ob [1, 3, 2] (fun S hle hfr => .inl ⟨w0, st_index_str (hle.e rfl) (hle.e rfl) rfl g13 (hle.d rfl)⟩) ?_
     refine ob [] (fun S hle hfr => .inl ⟨w0, st_move (hle.e rfl) (hle.d rfl)⟩) (ob [] (fun S hle hfr => .inl ⟨w0, st_move (hle.e rfl) (hle.d rfl)⟩) ?_)
     refine ob [6] (fun S hle hfr => .inl ⟨w0, ev_rem (hle.e rfl) (hle.e rfl) (hle.d rfl) (by decide) (Md.rem_u8 (a0.getD s1_0 0) (16 : UInt8))⟩) ?_
     refine ob [5, 7, 6] (fun S hle hfr => .inl ⟨w0, st_index_str (hle.e rfl) (hle.e rfl) rfl g14 (hle.d rfl)⟩) ?_
     refine ob [4, 8, 1, 3, 5, 7, 2, 6] (fun S hle hfr => .inl ⟨w0, st_slice_lit_z (el := lsEl byC [(92 : UInt8), (120 : UInt8), (([48, 49, 50, 51, 52, 53, 54, 55, 56, 57, 97, 98, 99, 100, 101, 102] : List UInt8).getD (((a0.getD s1_0 0) / (16 : UInt8)).toNat) 0), (([48, 49, 50, 51, 52, 53, 54, 55, 56, 57, 97, 98, 99, 100, 101, 102] : List UInt8).getD (((a0.getD s1_0 0) % (16 : UInt8)).toNat) 0)]) (map_ev2 (.cons (hle.e rfl) (.cons (hle.e rfl) (.cons (hle.e rfl) (.cons (hle.e rfl) (.nil)))))) rfl rfl rfl rfl rfl rfl (lit_el byC 1 [(92 : UInt8), (120 : UInt8), (([48, 49, 50, 51, 52, 53, 54, 55, 56, 57, 97, 98, 99, 100, 101, 102] : List UInt8).getD (((a0.getD s1_0 0) / (16 : UInt8)).toNat) 0), (([48, 49, 50, 51, 52, 53, 54, 55, 56, 57, 97, 98, 99, 100, 101, 102] : List UInt8).getD (((a0.getD s1_0 0) % (16 : UInt8)).toNat) 0)] (fun _ => rfl)) (hle.d rfl)⟩) ?_
     exact trivial
    case hk6x => rfl
    case hf6x => rfl
    refine aops_step1 rfl (st_app_ls (f := byC) s1_1 [(92 : UInt8), (120 : UInt8), (([48, 49, 50, 51, 52, 53, 54, 55, 56, 57, 97, 98, 99, 100, 101, 102] : List UInt8).getD (((a0.getD s1_0 0) / (16 : UInt8)).toNat) 0), (([48, 49, 50, 51, 52, 53, 54, 55, 56, 57, 97, 98, 99, 100, 101, 102] : List UInt8).getD (((a0.getD s1_0 0) % (16 : UInt8)).toNat) 0)] (fun _ => rfl) rfl rfl (.inl rfl) (by omega) (by omega) rfl) (s_sa ?_)
    refine aops_nil ?_
    show ∃ _x : (List UInt8), _ = _ ∧ Weak _ _
    exact ⟨(s1_1 ++ [(92 : UInt8), (120 : UInt8), (([48, 49, 50, 51, 52, 53, 54, 55, 56, 57, 97, 98, 99, 100, 101, 102] : List UInt8).getD (((a0.getD s1_0 0) / (16 : UInt8)).toNat) 0), (([48, 49, 50, 51, 52, 53, 54, 55, 56, 57, 97, 98, 99, 100, 101, 102] : List UInt8).getD (((a0.getD s1_0 0) % (16 : UInt8)).toNat) 0)]), Option.some.inj j4, wk⟩
  replace l1 := Md.cond_f l1 c3
  refine aw_exit ?_
  show ∃ _x : (List UInt8), _ = _ ∧ Weak _ _
  exact ⟨s1_1, Option.some.inj l1, wk⟩
end Md
end Go.Proofs.YtjpiiejdaiaocaaDoor
