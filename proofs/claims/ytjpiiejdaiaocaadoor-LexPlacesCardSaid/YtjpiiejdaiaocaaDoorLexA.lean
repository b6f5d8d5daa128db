/-
  LexA: where a function's model gives a value, the function returns what reads as it (printed by wip/tools/auto.py). Condition of each: the model gives a value.
-/
import Derived.Test.YtjpiiejdaiaocaaDoorLexAM
import Derived.Test.YtjpiiejdaiaocaaDoorTy
import Derived.Test.YtjpiiejdaiaocaaDoorAbsS
import Derived.Test.YtjpiiejdaiaocaaDoorLix
namespace Go.Proofs.YtjpiiejdaiaocaaDoor
open Go.ChangeShapes Go.WideShapes Go.RowKit
open Abs
set_option linter.unusedVariables false
set_option linter.unusedSimpArgs false
set_option maxRecDepth 10000
namespace Md
set_option maxHeartbeats 2000000 in
theorem lexer_letter_fn (k : Nat) (a0 : UInt8) (r : Bool) (h : lexer_letter k a0 = some r) : FnC Tryd.prog 76 [.one (.val (.int .u8 (a0.toNat : Int)))] [] (Det (vB r) []) := by
  unfold lexer_letter at h
  refine fn_intro' 21 Tryd.func76 rfl rfl rfl (aw_seq (aw_region (s_sa ?_)))
  refine aops_nil (aw_seq (aw_region (s_mv ?_)))
  refine s_cm ?_
  refine s_mv ?_
  refine aops_mid 3 (⟨21, [], [(0, .one (.val (.int .u8 (a0.toNat : Int)))), (2, vB false), (8, vB ((decide ((a0.toNat : Int) ≥ 97)) && (decide ((a0.toNat : Int) ≤ 122))))], []⟩ : ASt) ?_ ?_
  · rcases Md.bool_or ((decide ((a0.toNat : Int) ≥ 97))) with q1 | q1
    · skip
      refine y_mv q1 ?_
      refine y_cm q1 ?_
      refine s_py q1 ?_
      refine aops_nil ?_
      exact wq q1
    iterate 2 refine np q1 ?_
    refine s_pn q1 ?_
    refine aops_nil ?_
    exact wq q1
  refine s_mv ?_
  refine aops_mid 7 (⟨21, [], [(0, .one (.val (.int .u8 (a0.toNat : Int)))), (2, vB false), (16, vB (((decide ((a0.toNat : Int) ≥ 97)) && (decide ((a0.toNat : Int) ≤ 122))) || ((decide ((a0.toNat : Int) ≥ 65)) && (decide ((a0.toNat : Int) ≤ 90)))))], []⟩ : ASt) ?_ ?_
  · rcases Md.bool_or (((decide ((a0.toNat : Int) ≥ 97)) && (decide ((a0.toNat : Int) ≤ 122)))) with q2 | q2
    · skip
      iterate 3 refine np q2 ?_
      refine aops_und rfl rfl rfl rfl rfl (aops_und rfl rfl rfl rfl rfl (np q2 ?_))
      refine s_py q2 ?_
      refine aops_nil ?_
      exact wq q2
    refine y_mv q2 ?_
    refine y_cm q2 ?_
    refine y_mv q2 ?_
    refine aops_mid 3 (⟨21, [], [(0, .one (.val (.int .u8 (a0.toNat : Int)))), (2, vB false), (9, vB ((decide ((a0.toNat : Int) ≥ 97)) && (decide ((a0.toNat : Int) ≤ 122)))), (15, vB ((decide ((a0.toNat : Int) ≥ 65)) && (decide ((a0.toNat : Int) ≤ 90))))], []⟩ : ASt) ?_ ?_
    · rcases Md.bool_or ((decide ((a0.toNat : Int) ≥ 65))) with q3 | q3
      · skip
        refine y_mv q3 ?_
        refine y_cm q3 ?_
        refine aops_yes rfl rfl rfl rfl q2 (st_pick_yes rfl (by first | rfl | exact q3) rfl rfl) (aops_nil ?_)
        exact wq q3
      iterate 2 refine np q3 ?_
      refine aops_yes rfl rfl rfl rfl q2 (st_pick_no rfl (by first | rfl | exact q3) rfl rfl) (aops_nil ?_)
      exact wq q3
    change AOps _ _ _ (⟨21, [], [(0, .one (.val (.int .u8 (a0.toNat : Int)))), (2, vB false), (9, vB ((decide ((a0.toNat : Int) ≥ 97)) && (decide ((a0.toNat : Int) ≤ 122)))), (15, vB ((decide ((a0.toNat : Int) ≥ 65)) && (decide ((a0.toNat : Int) ≤ 90))))], []⟩ : ASt) _
    refine s_pn q2 ?_
    refine aops_nil ?_
    exact wq q2
  refine s_mv ?_
  refine aops_mid 3 (⟨21, [], [(2, vB false), (20, vB ((((decide ((a0.toNat : Int) ≥ 97)) && (decide ((a0.toNat : Int) ≤ 122))) || ((decide ((a0.toNat : Int) ≥ 65)) && (decide ((a0.toNat : Int) ≤ 90)))) || ((a0.toNat : Int) == 95)))], []⟩ : ASt) ?_ ?_
  · rcases Md.bool_or ((((decide ((a0.toNat : Int) ≥ 97)) && (decide ((a0.toNat : Int) ≤ 122))) || ((decide ((a0.toNat : Int) ≥ 65)) && (decide ((a0.toNat : Int) ≤ 90))))) with q4 | q4
    · skip
      iterate 2 refine np q4 ?_
      refine s_py q4 ?_
      refine aops_nil ?_
      exact wq q4
    refine y_mv q4 ?_
    refine y_cm q4 ?_
    refine s_pn q4 ?_
    refine aops_nil ?_
    exact wq q4
  refine s_sa ?_
  refine aops_nil ?_
  cases Option.some.inj h
  exact aw_ret ⟨rfl, rv r1⟩
set_option maxHeartbeats 2000000 in
theorem lexer_digit_fn (k : Nat) (a0 : UInt8) (r : Bool) (h : lexer_digit k a0 = some r) : FnC Tryd.prog 68 [.one (.val (.int .u8 (a0.toNat : Int)))] [] (Det (vB r) []) := by
  unfold lexer_digit at h
  refine fn_intro' 9 Tryd.func68 rfl rfl rfl (aw_seq (aw_region (s_sa ?_)))
  refine aops_nil (aw_seq (aw_region (s_mv ?_)))
  refine s_cm ?_
  refine s_mv ?_
  refine aops_mid 3 (⟨9, [], [(2, vB false), (8, vB ((decide ((a0.toNat : Int) ≥ 48)) && (decide ((a0.toNat : Int) ≤ 57))))], []⟩ : ASt) ?_ ?_
  · rcases Md.bool_or ((decide ((a0.toNat : Int) ≥ 48))) with q1 | q1
    · skip
      refine y_mv q1 ?_
      refine y_cm q1 ?_
      refine s_py q1 ?_
      refine aops_nil ?_
      exact wq q1
    iterate 2 refine np q1 ?_
    refine s_pn q1 ?_
    refine aops_nil ?_
    exact wq q1
  refine s_sa ?_
  refine aops_nil ?_
  cases Option.some.inj h
  exact aw_ret ⟨rfl, rv r1⟩
set_option maxHeartbeats 2000000 in
theorem lexer_plain_fn (k : Nat) (a0 : UInt8) (r : Bool) (h : lexer_plain k a0 = some r) : FnC Tryd.prog 57 [.one (.val (.int .u8 (a0.toNat : Int)))] [] (Det (vB r) []) := by
  unfold lexer_plain at h
  refine fn_intro' 17 Tryd.func57 rfl rfl rfl (aw_seq (aw_region (s_sa ?_)))
  refine aops_nil (aw_seq (aw_region (s_mv ?_)))
  refine s_cm ?_
  refine s_mv ?_
  refine aops_mid 3 (⟨17, [], [(0, .one (.val (.int .u8 (a0.toNat : Int)))), (2, vB false), (8, vB ((decide ((a0.toNat : Int) ≥ 32)) && (decide ((a0.toNat : Int) ≤ 126))))], []⟩ : ASt) ?_ ?_
  · rcases Md.bool_or ((decide ((a0.toNat : Int) ≥ 32))) with q1 | q1
    · skip
      refine y_mv q1 ?_
      refine y_cm q1 ?_
      refine s_py q1 ?_
      refine aops_nil ?_
      exact wq q1
    iterate 2 refine np q1 ?_
    refine s_pn q1 ?_
    refine aops_nil ?_
    exact wq q1
  refine s_mv ?_
  refine aops_mid 3 (⟨17, [], [(0, .one (.val (.int .u8 (a0.toNat : Int)))), (2, vB false), (12, vB (((decide ((a0.toNat : Int) ≥ 32)) && (decide ((a0.toNat : Int) ≤ 126))) && ((a0.toNat : Int) != 34)))], []⟩ : ASt) ?_ ?_
  · rcases Md.bool_or (((decide ((a0.toNat : Int) ≥ 32)) && (decide ((a0.toNat : Int) ≤ 126)))) with q2 | q2
    · skip
      refine y_mv q2 ?_
      refine y_cm q2 ?_
      refine s_py q2 ?_
      refine aops_nil ?_
      exact wq q2
    iterate 2 refine np q2 ?_
    refine s_pn q2 ?_
    refine aops_nil ?_
    exact wq q2
  refine s_mv ?_
  refine aops_mid 3 (⟨17, [], [(2, vB false), (16, vB ((((decide ((a0.toNat : Int) ≥ 32)) && (decide ((a0.toNat : Int) ≤ 126))) && ((a0.toNat : Int) != 34)) && ((a0.toNat : Int) != 92)))], []⟩ : ASt) ?_ ?_
  · rcases Md.bool_or ((((decide ((a0.toNat : Int) ≥ 32)) && (decide ((a0.toNat : Int) ≤ 126))) && ((a0.toNat : Int) != 34))) with q3 | q3
    · skip
      refine y_mv q3 ?_
      refine y_cm q3 ?_
      refine s_py q3 ?_
      refine aops_nil ?_
      exact wq q3
    iterate 2 refine np q3 ?_
    refine s_pn q3 ?_
    refine aops_nil ?_
    exact wq q3
  refine s_sa ?_
  refine aops_nil ?_
  cases Option.some.inj h
  exact aw_ret ⟨rfl, rv r1⟩
set_option maxHeartbeats 2000000 in
theorem lexer_skip_1_fn (k : Nat) (a0 : UInt8) (r : Bool) (h : lexer_skip_1 k a0 = some r) : FnC Tryd.prog 67 [.one (.val (.int .u8 (a0.toNat : Int)))] [] (Det (vB r) []) := by
  unfold lexer_skip_1 at h
  refine fn_intro' 5 Tryd.func67 rfl rfl rfl (aw_seq (aw_region (s_sa ?_)))
  refine aops_nil (aw_seq (aw_region (s_mv ?_)))
  refine s_cm ?_
  refine s_sa ?_
  refine aops_nil ?_
  cases Option.some.inj h
  exact aw_ret ⟨rfl, rv r1⟩
set_option maxHeartbeats 2000000 in
theorem lexer_word_1_fn (k : Nat) (a0 : UInt8) (r : Bool) (h : lexer_word_1 k a0 = some r) : FnC Tryd.prog 77 [.one (.val (.int .u8 (a0.toNat : Int)))] [] (Det (vB r) []) := by
  unfold lexer_word_1 at h
  refine fn_intro' 9 Tryd.func77 rfl rfl rfl (aw_seq (aw_region (s_sa ?_)))
  refine aops_nil (aw_seq (aw_region (s_mv ?_)))
  obtain ⟨x1, hx1, h⟩ := Md.bind_s h
  refine aops_step1 rfl (ev_call_v (lexer_letter_fn k a0 x1 hx1) rfl [] ai rfl rfl rfl (.inl rfl) rfl) (s_mv ?_)
  obtain ⟨o2, j2, h⟩ := Md.bind_s h
  refine aops_cut 3 (ε := Bool) (fun x2 => (⟨9, [], [(2, vB false), (8, vB x2)], []⟩ : ASt)) (fun x2 => x2 = o2) ?_ ?_
  · intro x2 hI2
    subst hI2
    change AOps _ _ _ (⟨9, [], [(2, vB false), (8, vB x2)], []⟩ : ASt) _
    refine s_sa ?_
    refine aops_nil ?_
    cases Option.some.inj h
    exact aw_ret ⟨rfl, rv r1⟩
  rcases Md.bool_or (x1) with q2 | q2
  · replace j2 := Md.cond_t j2 q2
    iterate 2 refine np q2 ?_
    refine s_py q2 ?_
    refine aops_nil ?_
    show ∃ _x : Bool, _ = _ ∧ Weak _ _
    exact ⟨true, Option.some.inj j2, wk⟩
  replace j2 := Md.cond_f j2 q2
  refine y_mv q2 ?_
  obtain ⟨x3, hx3, j2⟩ := Md.bind_s j2
  refine aops_yes rfl rfl rfl rfl q2 (ev_call_v (lexer_digit_fn k a0 x3 hx3) rfl [] ai rfl rfl rfl (.inl rfl) rfl) (s_pn q2 ?_)
  refine aops_nil ?_
  show ∃ _x : Bool, _ = _ ∧ Weak _ _
  exact ⟨x3, Option.some.inj j2, wk⟩
set_option maxHeartbeats 2000000 in
theorem lexer_run__lexer_skip_1_fn (k : Nat) (a0 : List UInt8) (r : Int) (h : lexer_run__lexer_skip_1 k a0 = some r) : FnC Tryd.prog 66 [.one (.val (Sv a0)), .one (.fn 67 [])] [] (Det (vI r) []) := by
  unfold lexer_run__lexer_skip_1 at h
  refine fn_intro' 20 Tryd.func66 rfl rfl rfl (aw_seq (aw_region (s_sa ?_)))
  refine aops_nil (aw_seq (aw_region (s_sa ?_)))
  refine aops_nil (aw_seq (aw_block ?_))
  obtain ⟨o1, ho1, h⟩ := Md.bind_s h
  refine aw_loop_x (ι := {p : Nat × Nat // lexer_run__lexer_skip_1_loop1 k a0 p.1 p.2 = some o1}) (fun p => (⟨20, [], [(0, .one (.val (Sv a0))), (1, .one (.fn 67 [])), (5, vI ((p.1.2 : Nat) : Int))], []⟩ : ASt)) (fun p => p.1.1) ⟨(k, 0), ho1⟩ wk 0 (ε := Nat) (fun x => (⟨20, [], [(5, vI ((x : Nat) : Int))], []⟩ : ASt)) (fun x => x = o1) (fun _ _ w h => aw_weak w h) ?_ ?_
  · intro x1_0 hI1
    subst hI1
    change AW _ _ (⟨20, [], [(5, vI ((x1_0 : Nat) : Int))], []⟩ : ASt) _
    refine aw_seq (aw_region (s_mv ?_))
    refine s_sa ?_
    refine aops_nil ?_
    cases Option.some.inj h
    exact aw_ret ⟨rfl, rv r1⟩
  intro p1
  obtain ⟨⟨n1, s1_0⟩, l1⟩ := p1
  change AW _ _ (⟨20, [], [(0, .one (.val (Sv a0))), (1, .one (.fn 67 [])), (5, vI ((s1_0 : Nat) : Int))], []⟩ : ASt) _
  replace l1 : lexer_run__lexer_skip_1_loop1 k a0 n1 s1_0 = some o1 := l1
  rcases n1 with _ | n1
  · exact absurd (show none = some o1 from l1) nofun
  rw [lexer_run__lexer_skip_1_loop1] at l1
  refine aw_seq (aw_seq (aw_region ?_))
  iterate 2 refine s_mv ?_
  refine aops_step1 rfl (st_len_str rfl rfl) (s_cm ?_)
  refine s_mv ?_
  obtain ⟨o2, j2, l1⟩ := Md.bind_s l1
  refine aops_cut 6 (ε := Bool) (fun x2 => (⟨20, [], [(0, .one (.val (Sv a0))), (1, .one (.fn 67 [])), (5, vI ((s1_0 : Nat) : Int)), (16, vB x2)], []⟩ : ASt)) (fun x2 => x2 = o2) ?_ ?_
  · intro x2 hI2
    subst hI2
    change AOps _ _ _ (⟨20, [], [(0, .one (.val (Sv a0))), (1, .one (.fn 67 [])), (5, vI ((s1_0 : Nat) : Int)), (16, vB x2)], []⟩ : ASt) _
    refine aops_nil ?_
    refine aw_cond rfl (fun c3 => ?_) (fun c3 => ?_)
    · replace l1 := Md.cond_t l1 c3
      refine aw_skip (aw_block (aw_region (s_mv ?_)))
      obtain ⟨g4, l1⟩ := Md.ifp_s l1
      refine aops_step1 rfl (ev_add rfl rfl rfl (Md.nat_add g4)) (s_sa ?_)
      refine aops_nil ?_
      exact ⟨⟨(n1, (s1_0 + 1)), l1⟩, Nat.lt_succ_self _, wk⟩
    replace l1 := Md.cond_f l1 c3
    refine aw_exit ?_
    show ∃ _x : Nat, _ = _ ∧ Weak _ _
    exact ⟨s1_0, Option.some.inj l1, wk⟩
  rcases Md.bool_or ((decide (((s1_0 : Nat) : Int) < ((a0.length : Nat) : Int)))) with q2 | q2
  · replace j2 := Md.cond_t j2 q2
    iterate 3 refine y_mv q2 ?_
    obtain ⟨g5, j2⟩ := Md.ifp_s j2
    refine aops_yes rfl rfl rfl rfl q2 (st_index_str rfl rfl rfl g5 rfl) ?_
    obtain ⟨x6, hx6, j2⟩ := Md.bind_s j2
    refine aops_yes rfl rfl rfl rfl q2 (ev_callee rfl (ev_call_v (lexer_skip_1_fn k (a0.getD s1_0 0) x6 hx6) rfl [] ai rfl rfl rfl (.inl rfl) rfl)) (s_py q2 ?_)
    refine aops_nil ?_
    show ∃ _x : Bool, _ = _ ∧ Weak _ _
    exact ⟨x6, Option.some.inj j2, wk⟩
  replace j2 := Md.cond_f j2 q2
  iterate 5 refine np q2 ?_
  refine s_pn q2 ?_
  refine aops_nil ?_
  show ∃ _x : Bool, _ = _ ∧ Weak _ _
  exact ⟨false, Option.some.inj j2, wk⟩
set_option maxHeartbeats 2000000 in
theorem lexer_run__lexer_word_1_fn (k : Nat) (a0 : List UInt8) (r : Int) (h : lexer_run__lexer_word_1 k a0 = some r) : FnC Tryd.prog 66 [.one (.val (Sv a0)), .one (.fn 77 [])] [] (Det (vI r) []) := by
  unfold lexer_run__lexer_word_1 at h
  refine fn_intro' 20 Tryd.func66 rfl rfl rfl (aw_seq (aw_region (s_sa ?_)))
  refine aops_nil (aw_seq (aw_region (s_sa ?_)))
  refine aops_nil (aw_seq (aw_block ?_))
  obtain ⟨o1, ho1, h⟩ := Md.bind_s h
  refine aw_loop_x (ι := {p : Nat × Nat // lexer_run__lexer_word_1_loop1 k a0 p.1 p.2 = some o1}) (fun p => (⟨20, [], [(0, .one (.val (Sv a0))), (1, .one (.fn 77 [])), (5, vI ((p.1.2 : Nat) : Int))], []⟩ : ASt)) (fun p => p.1.1) ⟨(k, 0), ho1⟩ wk 0 (ε := Nat) (fun x => (⟨20, [], [(5, vI ((x : Nat) : Int))], []⟩ : ASt)) (fun x => x = o1) (fun _ _ w h => aw_weak w h) ?_ ?_
  · intro x1_0 hI1
    subst hI1
    change AW _ _ (⟨20, [], [(5, vI ((x1_0 : Nat) : Int))], []⟩ : ASt) _
    refine aw_seq (aw_region (s_mv ?_))
    refine s_sa ?_
    refine aops_nil ?_
    cases Option.some.inj h
    exact aw_ret ⟨rfl, rv r1⟩
  intro p1
  obtain ⟨⟨n1, s1_0⟩, l1⟩ := p1
  change AW _ _ (⟨20, [], [(0, .one (.val (Sv a0))), (1, .one (.fn 77 [])), (5, vI ((s1_0 : Nat) : Int))], []⟩ : ASt) _
  replace l1 : lexer_run__lexer_word_1_loop1 k a0 n1 s1_0 = some o1 := l1
  rcases n1 with _ | n1
  · exact absurd (show none = some o1 from l1) nofun
  rw [lexer_run__lexer_word_1_loop1] at l1
  refine aw_seq (aw_seq (aw_region ?_))
  iterate 2 refine s_mv ?_
  refine aops_step1 rfl (st_len_str rfl rfl) (s_cm ?_)
  refine s_mv ?_
  obtain ⟨o2, j2, l1⟩ := Md.bind_s l1
  refine aops_cut 6 (ε := Bool) (fun x2 => (⟨20, [], [(0, .one (.val (Sv a0))), (1, .one (.fn 77 [])), (5, vI ((s1_0 : Nat) : Int)), (16, vB x2)], []⟩ : ASt)) (fun x2 => x2 = o2) ?_ ?_
  · intro x2 hI2
    subst hI2
    change AOps _ _ _ (⟨20, [], [(0, .one (.val (Sv a0))), (1, .one (.fn 77 [])), (5, vI ((s1_0 : Nat) : Int)), (16, vB x2)], []⟩ : ASt) _
    refine aops_nil ?_
    refine aw_cond rfl (fun c3 => ?_) (fun c3 => ?_)
    · replace l1 := Md.cond_t l1 c3
      refine aw_skip (aw_block (aw_region (s_mv ?_)))
      obtain ⟨g4, l1⟩ := Md.ifp_s l1
      refine aops_step1 rfl (ev_add rfl rfl rfl (Md.nat_add g4)) (s_sa ?_)
      refine aops_nil ?_
      exact ⟨⟨(n1, (s1_0 + 1)), l1⟩, Nat.lt_succ_self _, wk⟩
    replace l1 := Md.cond_f l1 c3
    refine aw_exit ?_
    show ∃ _x : Nat, _ = _ ∧ Weak _ _
    exact ⟨s1_0, Option.some.inj l1, wk⟩
  rcases Md.bool_or ((decide (((s1_0 : Nat) : Int) < ((a0.length : Nat) : Int)))) with q2 | q2
  · replace j2 := Md.cond_t j2 q2
    iterate 3 refine y_mv q2 ?_
    obtain ⟨g5, j2⟩ := Md.ifp_s j2
    refine aops_yes rfl rfl rfl rfl q2 (st_index_str rfl rfl rfl g5 rfl) ?_
    obtain ⟨x6, hx6, j2⟩ := Md.bind_s j2
    refine aops_yes rfl rfl rfl rfl q2 (ev_callee rfl (ev_call_v (lexer_word_1_fn k (a0.getD s1_0 0) x6 hx6) rfl [] ai rfl rfl rfl (.inl rfl) rfl)) (s_py q2 ?_)
    refine aops_nil ?_
    show ∃ _x : Bool, _ = _ ∧ Weak _ _
    exact ⟨x6, Option.some.inj j2, wk⟩
  replace j2 := Md.cond_f j2 q2
  iterate 5 refine np q2 ?_
  refine s_pn q2 ?_
  refine aops_nil ?_
  show ∃ _x : Bool, _ = _ ∧ Weak _ _
  exact ⟨false, Option.some.inj j2, wk⟩
set_option maxHeartbeats 2000000 in
theorem lexer_run__lexer_digit_fn (k : Nat) (a0 : List UInt8) (r : Int) (h : lexer_run__lexer_digit k a0 = some r) : FnC Tryd.prog 66 [.one (.val (Sv a0)), .one (.fn 68 [])] [] (Det (vI r) []) := by
  unfold lexer_run__lexer_digit at h
  refine fn_intro' 20 Tryd.func66 rfl rfl rfl (aw_seq (aw_region (s_sa ?_)))
  refine aops_nil (aw_seq (aw_region (s_sa ?_)))
  refine aops_nil (aw_seq (aw_block ?_))
  obtain ⟨o1, ho1, h⟩ := Md.bind_s h
  refine aw_loop_x (ι := {p : Nat × Nat // lexer_run__lexer_digit_loop1 k a0 p.1 p.2 = some o1}) (fun p => (⟨20, [], [(0, .one (.val (Sv a0))), (1, .one (.fn 68 [])), (5, vI ((p.1.2 : Nat) : Int))], []⟩ : ASt)) (fun p => p.1.1) ⟨(k, 0), ho1⟩ wk 0 (ε := Nat) (fun x => (⟨20, [], [(5, vI ((x : Nat) : Int))], []⟩ : ASt)) (fun x => x = o1) (fun _ _ w h => aw_weak w h) ?_ ?_
  · intro x1_0 hI1
    subst hI1
    change AW _ _ (⟨20, [], [(5, vI ((x1_0 : Nat) : Int))], []⟩ : ASt) _
    refine aw_seq (aw_region (s_mv ?_))
    refine s_sa ?_
    refine aops_nil ?_
    cases Option.some.inj h
    exact aw_ret ⟨rfl, rv r1⟩
  intro p1
  obtain ⟨⟨n1, s1_0⟩, l1⟩ := p1
  change AW _ _ (⟨20, [], [(0, .one (.val (Sv a0))), (1, .one (.fn 68 [])), (5, vI ((s1_0 : Nat) : Int))], []⟩ : ASt) _
  replace l1 : lexer_run__lexer_digit_loop1 k a0 n1 s1_0 = some o1 := l1
  rcases n1 with _ | n1
  · exact absurd (show none = some o1 from l1) nofun
  rw [lexer_run__lexer_digit_loop1] at l1
  refine aw_seq (aw_seq (aw_region ?_))
  iterate 2 refine s_mv ?_
  refine aops_step1 rfl (st_len_str rfl rfl) (s_cm ?_)
  refine s_mv ?_
  obtain ⟨o2, j2, l1⟩ := Md.bind_s l1
  refine aops_cut 6 (ε := Bool) (fun x2 => (⟨20, [], [(0, .one (.val (Sv a0))), (1, .one (.fn 68 [])), (5, vI ((s1_0 : Nat) : Int)), (16, vB x2)], []⟩ : ASt)) (fun x2 => x2 = o2) ?_ ?_
  · intro x2 hI2
    subst hI2
    change AOps _ _ _ (⟨20, [], [(0, .one (.val (Sv a0))), (1, .one (.fn 68 [])), (5, vI ((s1_0 : Nat) : Int)), (16, vB x2)], []⟩ : ASt) _
    refine aops_nil ?_
    refine aw_cond rfl (fun c3 => ?_) (fun c3 => ?_)
    · replace l1 := Md.cond_t l1 c3
      refine aw_skip (aw_block (aw_region (s_mv ?_)))
      obtain ⟨g4, l1⟩ := Md.ifp_s l1
      refine aops_step1 rfl (ev_add rfl rfl rfl (Md.nat_add g4)) (s_sa ?_)
      refine aops_nil ?_
      exact ⟨⟨(n1, (s1_0 + 1)), l1⟩, Nat.lt_succ_self _, wk⟩
    replace l1 := Md.cond_f l1 c3
    refine aw_exit ?_
    show ∃ _x : Nat, _ = _ ∧ Weak _ _
    exact ⟨s1_0, Option.some.inj l1, wk⟩
  rcases Md.bool_or ((decide (((s1_0 : Nat) : Int) < ((a0.length : Nat) : Int)))) with q2 | q2
  · replace j2 := Md.cond_t j2 q2
    iterate 3 refine y_mv q2 ?_
    obtain ⟨g5, j2⟩ := Md.ifp_s j2
    refine aops_yes rfl rfl rfl rfl q2 (st_index_str rfl rfl rfl g5 rfl) ?_
    obtain ⟨x6, hx6, j2⟩ := Md.bind_s j2
    refine aops_yes rfl rfl rfl rfl q2 (ev_callee rfl (ev_call_v (lexer_digit_fn k (a0.getD s1_0 0) x6 hx6) rfl [] ai rfl rfl rfl (.inl rfl) rfl)) (s_py q2 ?_)
    refine aops_nil ?_
    show ∃ _x : Bool, _ = _ ∧ Weak _ _
    exact ⟨x6, Option.some.inj j2, wk⟩
  replace j2 := Md.cond_f j2 q2
  iterate 5 refine np q2 ?_
  refine s_pn q2 ?_
  refine aops_nil ?_
  show ∃ _x : Bool, _ = _ ∧ Weak _ _
  exact ⟨false, Option.some.inj j2, wk⟩
set_option maxHeartbeats 2000000 in
theorem lexer_skip_fn (k : Nat) (a0 : List UInt8) (r : Int) (h : lexer_skip k a0 = some r) : FnC Tryd.prog 51 [.one (.val (Sv a0))] [] (Det (vI r) []) := by
  unfold lexer_skip at h
  refine fn_intro' 29 Tryd.func51 rfl rfl rfl (aw_seq (aw_region (s_sa ?_)))
  refine aops_nil (aw_seq (aw_region (s_sa ?_)))
  refine aops_nil (aw_seq (aw_block ?_))
  obtain ⟨o1, ho1, h⟩ := Md.bind_s h
  refine aw_loop_x (ι := {p : Nat × Int // lexer_skip_loop1 k a0 p.1 p.2 = some o1}) (fun p => (⟨29, [], [(0, .one (.val (Sv a0))), (3, vI p.1.2)], []⟩ : ASt)) (fun p => p.1.1) ⟨(k, 0), ho1⟩ wk 0 (ε := Int) (fun x => (⟨29, [], [(3, vI x)], []⟩ : ASt)) (fun x => Sum.inl x = o1) (fun _ _ w h => aw_weak w h) ?_ ?_
  · intro x1_0 hI1
    subst hI1
    replace h := Md.onS_l h
    change AW _ _ (⟨29, [], [(3, vI x1_0)], []⟩ : ASt) _
    refine aw_seq (aw_region (s_mv ?_))
    refine s_sa ?_
    refine aops_nil ?_
    cases Option.some.inj h
    exact aw_ret ⟨rfl, rv r1⟩
  intro p1
  obtain ⟨⟨n1, s1_0⟩, l1⟩ := p1
  change AW _ _ (⟨29, [], [(0, .one (.val (Sv a0))), (3, vI s1_0)], []⟩ : ASt) _
  replace l1 : lexer_skip_loop1 k a0 n1 s1_0 = some o1 := l1
  rcases n1 with _ | n1
  · exact absurd (show none = some o1 from l1) nofun
  rw [lexer_skip_loop1] at l1
  refine aw_seq (aw_seq (aw_region ?_))
  iterate 2 refine s_mv ?_
  refine aops_step1 rfl (st_len_str rfl rfl) (s_cm ?_)
  refine aops_nil ?_
  refine aw_cond rfl (fun c2 => ?_) (fun c2 => ?_)
  · replace l1 := Md.cond_t l1 c2
    refine aw_skip (aw_block (aw_block (aw_seq (aw_region ?_))))
    iterate 2 refine s_mv ?_
    obtain ⟨g3, l1⟩ := Md.ifp_s l1
    refine aops_step1 rfl (st_index_str rfl rfl (Md.idx_eq g3) (Md.idx_lt g3) rfl) ?_
    obtain ⟨x4, hx4, l1⟩ := Md.bind_s l1
    refine aops_step1 rfl (ev_call_v (strings_IndexByte_fn k ([32, 9, 10, 13] : List UInt8) (a0.getD ((s1_0).toNat) 0) x4 hx4) rfl [] ai rfl rfl rfl (.inl rfl) rfl) (s_cm ?_)
    refine s_sa ?_
    refine aops_nil ?_
    refine aw_cond rfl (fun c5 => ?_) (fun c5 => ?_)
    · replace l1 := Md.cond_t l1 c5
      refine aw_region (s_mv ?_)
      refine aops_step1 rfl (ev_add rfl rfl rfl (Md.wrap_W _)) (s_sa ?_)
      refine aops_nil ?_
      exact ⟨⟨(n1, (Md.W (s1_0 + 1))), l1⟩, Nat.lt_succ_self _, wk⟩
    replace l1 := Md.cond_f l1 c5
    refine aw_seq (aw_region ?_)
    iterate 2 refine s_mv ?_
    obtain ⟨g6, l1⟩ := Md.ifp_s l1
    obtain ⟨g7, l1⟩ := Md.ifp_s l1
    refine aops_step1 rfl (st_cut_lo_s rfl ⟨_, _, rfl, (Md.nn_eq g6)⟩ g7 rfl) ?_
    obtain ⟨x8, hx8, l1⟩ := Md.bind_s l1
    refine aops_step1 rfl (ev_call_v (strings_HasPrefix_fn k (a0.drop ((s1_0).toNat)) ([47, 47] : List UInt8) x8 hx8) rfl [] ai rfl rfl rfl (.inl rfl) rfl) (s_sa ?_)
    refine aops_nil ?_
    refine aw_cond rfl (fun c9 => ?_) (fun c9 => ?_)
    · replace l1 := Md.cond_t l1 c9
      refine aw_region ?_
      iterate 3 refine s_mv ?_
      obtain ⟨g10, l1⟩ := Md.ifp_s l1
      obtain ⟨g11, l1⟩ := Md.ifp_s l1
      refine aops_step1 rfl (st_cut_lo_s rfl ⟨_, _, rfl, (Md.nn_eq g10)⟩ g11 rfl) ?_
      obtain ⟨x12, hx12, l1⟩ := Md.bind_s l1
      refine aops_step1 rfl (ev_call_v (lexer_run__lexer_skip_1_fn k (a0.drop ((s1_0).toNat)) x12 hx12) rfl [] ai rfl rfl rfl (.inl rfl) rfl) ?_
      refine aops_step1 rfl (ev_add rfl rfl rfl (Md.wrap_W _)) (s_sa ?_)
      refine aops_nil ?_
      exact ⟨⟨(n1, (Md.W (s1_0 + x12))), l1⟩, Nat.lt_succ_self _, wk⟩
    replace l1 := Md.cond_f l1 c9
    refine aw_seq (aw_region (s_mv ?_))
    refine s_sa ?_
    refine aops_nil ?_
    cases Option.some.inj l1
    replace h := Md.onS_r h
    cases Option.some.inj h
    exact aw_ret ⟨rfl, rv r1⟩
  replace l1 := Md.cond_f l1 c2
  refine aw_exit ?_
  show ∃ _x : Int, _ = _ ∧ Weak _ _
  exact ⟨s1_0, Option.some.inj l1, wk⟩
set_option maxHeartbeats 2000000 in
theorem lexer_word_fn (k : Nat) (a0 : List UInt8) (r : Int) (h : lexer_word k a0 = some r) : FnC Tryd.prog 54 [.one (.val (Sv a0))] [] (Det (vI r) []) := by
  unfold lexer_word at h
  refine fn_intro' 13 Tryd.func54 rfl rfl rfl (aw_seq (aw_region (s_sa ?_)))
  refine aops_nil (aw_seq (aw_seq (aw_region (s_mv ?_))))
  refine aops_step1 rfl (st_str_eq rfl rfl rfl) (s_mv ?_)
  obtain ⟨o1, j1, h⟩ := Md.bind_s h
  refine aops_cut 5 (ε := Bool) (fun x1 => (⟨13, [], [(0, .one (.val (Sv a0))), (10, vB x1)], []⟩ : ASt)) (fun x1 => x1 = o1) ?_ ?_
  · intro x1 hI1
    subst hI1
    change AOps _ _ _ (⟨13, [], [(0, .one (.val (Sv a0))), (10, vB x1)], []⟩ : ASt) _
    refine aops_nil ?_
    refine aw_cond rfl (fun c2 => ?_) (fun c2 => ?_)
    · replace h := Md.cond_t h c2
      refine aw_seq (aw_region (s_sa ?_))
      refine aops_nil ?_
      cases Option.some.inj h
      exact aw_ret ⟨rfl, rv r1⟩
    replace h := Md.cond_f h c2
    refine aw_skip (aw_seq (aw_region (s_mv ?_)))
    obtain ⟨x3, hx3, h⟩ := Md.bind_s h
    refine aops_step1 rfl (ev_call_v (lexer_run__lexer_word_1_fn k a0 x3 hx3) rfl [] ai rfl rfl rfl (.inl rfl) rfl) (s_sa ?_)
    refine aops_nil ?_
    cases Option.some.inj h
    exact aw_ret ⟨rfl, rv r1⟩
  rcases Md.bool_or ((decide (a0 = ([] : List UInt8)))) with q1 | q1
  · replace j1 := Md.cond_t j1 q1
    iterate 4 refine np q1 ?_
    refine s_py q1 ?_
    refine aops_nil ?_
    show ∃ _x : Bool, _ = _ ∧ Weak _ _
    exact ⟨true, Option.some.inj j1, wk⟩
  replace j1 := Md.cond_f j1 q1
  refine y_mv q1 ?_
  obtain ⟨g4, j1⟩ := Md.ifp_s j1
  refine aops_yes rfl rfl rfl rfl q1 (st_index_str rfl rfl rfl g4 rfl) ?_
  obtain ⟨x5, hx5, j1⟩ := Md.bind_s j1
  refine aops_yes rfl rfl rfl rfl q1 (ev_call_v (lexer_letter_fn k (a0.getD 0 0) x5 hx5) rfl [] ai rfl rfl rfl (.inl rfl) rfl) (y_nt q1 ?_)
  refine s_pn q1 ?_
  refine aops_nil ?_
  show ∃ _x : Bool, _ = _ ∧ Weak _ _
  exact ⟨(!x5), Option.some.inj j1, wk⟩
set_option maxHeartbeats 2000000 in
theorem lexer_IsKeyword_fn (k : Nat) (a0 : List UInt8) (r : Bool) (h : lexer_IsKeyword k a0 = some r) : FnC Tryd.prog 34 [.one (.val (Sv a0))] [] (Det (vB r) []) := by
  unfold lexer_IsKeyword at h
  refine fn_intro' 26 Tryd.func34 rfl rfl rfl (aw_seq (aw_region (s_sa ?_)))
  refine aops_nil (aw_seq (aw_seq (aw_region (s_mv ?_))))
  refine aops_nil (aw_block (aw_seq (aw_seq (aw_region (aops_step1 rfl (st_str_eq rfl rfl rfl) (s_sa ?_))))))
  refine aops_nil ?_
  refine aw_cond rfl (fun c1 => ?_) (fun c1 => ?_)
  · replace h := Md.cond_t h c1
    refine aw_skip (aw_yes rfl (c1) (aw_seq (aw_region (s_sa ?_))))
    refine aops_nil ?_
    cases Option.some.inj h
    exact aw_ret ⟨rfl, rv r1⟩
  replace h := Md.cond_f h c1
  refine aw_seq (aw_region (aops_step1 rfl (st_str_eq rfl rfl rfl) (s_sa ?_)))
  refine aops_nil ?_
  refine aw_cond rfl (fun c2 => ?_) (fun c2 => ?_)
  · replace h := Md.cond_t h c2
    refine aw_skip (aw_yes rfl (c2) (aw_seq (aw_region (s_sa ?_))))
    refine aops_nil ?_
    cases Option.some.inj h
    exact aw_ret ⟨rfl, rv r1⟩
  replace h := Md.cond_f h c2
  refine aw_seq (aw_region (aops_step1 rfl (st_str_eq rfl rfl rfl) (s_sa ?_)))
  refine aops_nil ?_
  refine aw_cond rfl (fun c3 => ?_) (fun c3 => ?_)
  · replace h := Md.cond_t h c3
    refine aw_skip (aw_yes rfl (c3) (aw_seq (aw_region (s_sa ?_))))
    refine aops_nil ?_
    cases Option.some.inj h
    exact aw_ret ⟨rfl, rv r1⟩
  replace h := Md.cond_f h c3
  refine aw_seq (aw_region (aops_step1 rfl (st_str_eq rfl rfl rfl) (s_sa ?_)))
  refine aops_nil ?_
  refine aw_cond rfl (fun c4 => ?_) (fun c4 => ?_)
  · replace h := Md.cond_t h c4
    refine aw_skip (aw_yes rfl (c4) (aw_seq (aw_region (s_sa ?_))))
    refine aops_nil ?_
    cases Option.some.inj h
    exact aw_ret ⟨rfl, rv r1⟩
  replace h := Md.cond_f h c4
  refine aw_seq (aw_region (aops_step1 rfl (st_str_eq rfl rfl rfl) (s_sa ?_)))
  refine aops_nil ?_
  refine aw_cond rfl (fun c5 => ?_) (fun c5 => ?_)
  · replace h := Md.cond_t h c5
    refine aw_skip (aw_yes rfl (c5) (aw_seq (aw_region (s_sa ?_))))
    refine aops_nil ?_
    cases Option.some.inj h
    exact aw_ret ⟨rfl, rv r1⟩
  replace h := Md.cond_f h c5
  refine aw_seq (aw_region (aops_step1 rfl (st_str_eq rfl rfl rfl) (s_sa ?_)))
  refine aops_nil ?_
  refine aw_cond rfl (fun c6 => ?_) (fun c6 => ?_)
  · replace h := Md.cond_t h c6
    refine aw_skip (aw_yes rfl (c6) (aw_seq (aw_region (s_sa ?_))))
    refine aops_nil ?_
    cases Option.some.inj h
    exact aw_ret ⟨rfl, rv r1⟩
  replace h := Md.cond_f h c6
  refine aw_seq (aw_region (aops_step1 rfl (st_str_eq rfl rfl rfl) (s_sa ?_)))
  refine aops_nil ?_
  refine aw_cond rfl (fun c7 => ?_) (fun c7 => ?_)
  · replace h := Md.cond_t h c7
    refine aw_skip (aw_yes rfl (c7) (aw_seq (aw_region (s_sa ?_))))
    refine aops_nil ?_
    cases Option.some.inj h
    exact aw_ret ⟨rfl, rv r1⟩
  replace h := Md.cond_f h c7
  refine aw_seq (aw_region (aops_step1 rfl (st_str_eq rfl rfl rfl) (s_sa ?_)))
  refine aops_nil ?_
  refine aw_cond rfl (fun c8 => ?_) (fun c8 => ?_)
  · replace h := Md.cond_t h c8
    refine aw_skip (aw_yes rfl (c8) (aw_seq (aw_region (s_sa ?_))))
    refine aops_nil ?_
    cases Option.some.inj h
    exact aw_ret ⟨rfl, rv r1⟩
  replace h := Md.cond_f h c8
  refine aw_seq (aw_region (aops_step1 rfl (st_str_eq rfl rfl rfl) (s_sa ?_)))
  refine aops_nil ?_
  refine aw_cond rfl (fun c9 => ?_) (fun c9 => ?_)
  · replace h := Md.cond_t h c9
    refine aw_skip (aw_yes rfl (c9) (aw_seq (aw_region (s_sa ?_))))
    refine aops_nil ?_
    cases Option.some.inj h
    exact aw_ret ⟨rfl, rv r1⟩
  replace h := Md.cond_f h c9
  refine aw_seq (aw_region (aops_step1 rfl (st_str_eq rfl rfl rfl) (s_sa ?_)))
  refine aops_nil ?_
  refine aw_cond rfl (fun c10 => ?_) (fun c10 => ?_)
  · replace h := Md.cond_t h c10
    refine aw_skip (aw_yes rfl (c10) (aw_seq (aw_region (s_sa ?_))))
    refine aops_nil ?_
    cases Option.some.inj h
    exact aw_ret ⟨rfl, rv r1⟩
  replace h := Md.cond_f h c10
  refine aw_seq (aw_region (aops_step1 rfl (st_str_eq rfl rfl rfl) (s_sa ?_)))
  refine aops_nil ?_
  refine aw_cond rfl (fun c11 => ?_) (fun c11 => ?_)
  · replace h := Md.cond_t h c11
    refine aw_skip (aw_yes rfl (c11) (aw_seq (aw_region (s_sa ?_))))
    refine aops_nil ?_
    cases Option.some.inj h
    exact aw_ret ⟨rfl, rv r1⟩
  replace h := Md.cond_f h c11
  refine aw_seq (aw_region (aops_step1 rfl (st_str_eq rfl rfl rfl) (s_sa ?_)))
  refine aops_nil ?_
  refine aw_cond rfl (fun c12 => ?_) (fun c12 => ?_)
  · replace h := Md.cond_t h c12
    refine aw_skip (aw_yes rfl (c12) (aw_seq (aw_region (s_sa ?_))))
    refine aops_nil ?_
    cases Option.some.inj h
    exact aw_ret ⟨rfl, rv r1⟩
  replace h := Md.cond_f h c12
  refine aw_seq (aw_region (aops_step1 rfl (st_str_eq rfl rfl rfl) (s_sa ?_)))
  refine aops_nil ?_
  refine aw_cond rfl (fun c13 => ?_) (fun c13 => ?_)
  · replace h := Md.cond_t h c13
    refine aw_skip (aw_yes rfl (c13) (aw_seq (aw_region (s_sa ?_))))
    refine aops_nil ?_
    cases Option.some.inj h
    exact aw_ret ⟨rfl, rv r1⟩
  replace h := Md.cond_f h c13
  refine aw_seq (aw_region (aops_step1 rfl (st_str_eq rfl rfl rfl) (s_sa ?_)))
  refine aops_nil ?_
  refine aw_cond rfl (fun c14 => ?_) (fun c14 => ?_)
  · replace h := Md.cond_t h c14
    refine aw_skip (aw_yes rfl (c14) (aw_seq (aw_region (s_sa ?_))))
    refine aops_nil ?_
    cases Option.some.inj h
    exact aw_ret ⟨rfl, rv r1⟩
  replace h := Md.cond_f h c14
  refine aw_seq (aw_region (aops_step1 rfl (st_str_eq rfl rfl rfl) (s_sa ?_)))
  refine aops_nil ?_
  refine aw_cond rfl (fun c15 => ?_) (fun c15 => ?_)
  · replace h := Md.cond_t h c15
    refine aw_skip (aw_yes rfl (c15) (aw_seq (aw_region (s_sa ?_))))
    refine aops_nil ?_
    cases Option.some.inj h
    exact aw_ret ⟨rfl, rv r1⟩
  replace h := Md.cond_f h c15
  refine aw_seq (aw_region (aops_step1 rfl (st_str_eq rfl rfl rfl) (s_sa ?_)))
  refine aops_nil ?_
  refine aw_cond rfl (fun c16 => ?_) (fun c16 => ?_)
  · replace h := Md.cond_t h c16
    refine aw_skip (aw_yes rfl (c16) (aw_seq (aw_region (s_sa ?_))))
    refine aops_nil ?_
    cases Option.some.inj h
    exact aw_ret ⟨rfl, rv r1⟩
  replace h := Md.cond_f h c16
  refine aw_seq (aw_region (aops_step1 rfl (st_str_eq rfl rfl rfl) (s_sa ?_)))
  refine aops_nil ?_
  refine aw_cond rfl (fun c17 => ?_) (fun c17 => ?_)
  · replace h := Md.cond_t h c17
    refine aw_skip (aw_yes rfl (c17) (aw_seq (aw_region (s_sa ?_))))
    refine aops_nil ?_
    cases Option.some.inj h
    exact aw_ret ⟨rfl, rv r1⟩
  replace h := Md.cond_f h c17
  refine aw_seq (aw_region (aops_step1 rfl (st_str_eq rfl rfl rfl) (s_sa ?_)))
  refine aops_nil ?_
  refine aw_cond rfl (fun c18 => ?_) (fun c18 => ?_)
  · replace h := Md.cond_t h c18
    refine aw_skip (aw_yes rfl (c18) (aw_seq (aw_region (s_sa ?_))))
    refine aops_nil ?_
    cases Option.some.inj h
    exact aw_ret ⟨rfl, rv r1⟩
  replace h := Md.cond_f h c18
  refine aw_seq (aw_region (aops_step1 rfl (st_str_eq rfl rfl rfl) (s_sa ?_)))
  refine aops_nil ?_
  refine aw_cond rfl (fun c19 => ?_) (fun c19 => ?_)
  · replace h := Md.cond_t h c19
    refine aw_skip (aw_yes rfl (c19) (aw_seq (aw_region (s_sa ?_))))
    refine aops_nil ?_
    cases Option.some.inj h
    exact aw_ret ⟨rfl, rv r1⟩
  replace h := Md.cond_f h c19
  refine aw_seq (aw_region (aops_step1 rfl (st_str_eq rfl rfl rfl) (s_sa ?_)))
  refine aops_nil ?_
  refine aw_cond rfl (fun c20 => ?_) (fun c20 => ?_)
  · replace h := Md.cond_t h c20
    refine aw_skip (aw_yes rfl (c20) (aw_seq (aw_region (s_sa ?_))))
    refine aops_nil ?_
    cases Option.some.inj h
    exact aw_ret ⟨rfl, rv r1⟩
  replace h := Md.cond_f h c20
  refine aw_region (aops_step1 rfl (st_str_eq rfl rfl rfl) (s_sa ?_))
  refine aops_nil ?_
  refine aw_cond rfl (fun c21 => ?_) (fun c21 => ?_)
  · replace h := Md.cond_t h c21
    refine aw_seq (aw_region (s_sa ?_))
    refine aops_nil ?_
    cases Option.some.inj h
    exact aw_ret ⟨rfl, rv r1⟩
  replace h := Md.cond_f h c21
  refine aw_skip (aw_seq (aw_region (s_sa ?_)))
  refine aops_nil ?_
  cases Option.some.inj h
  exact aw_ret ⟨rfl, rv r1⟩
end Md
end Go.Proofs.YtjpiiejdaiaocaaDoor
