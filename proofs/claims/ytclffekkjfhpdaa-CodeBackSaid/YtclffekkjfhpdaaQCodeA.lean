import Derived.Test.YtclffekkjfhpdaaQMo
import Derived.Test.YtclffekkjfhpdaaQTy
import Derived.Test.YtclffekkjfhpdaaQAbsS
import Derived.Test.YtclffekkjfhpdaaQAbsF
namespace Go.Proofs.Ytclffekkjfhpdaa
open Go.ChangeShapes Go.WideShapes Go.RowKit
open Abs
set_option linter.unusedVariables false
set_option linter.unusedSimpArgs false
set_option maxRecDepth 10000
namespace Md
def c_Int (x : Int) : List CV := [cI x]
def c_Str (x : List UInt8) : List CV := [.val (Sv x)]
def c_Field (x : Field) : List CV := [.val (Sv x.Name), cI x.Kind, cI x.Init.Kind, cI x.Init.N, .val (Sv x.Init.S), CV.ls c_Int x.Init.I, CV.ls c_Str x.Init.L]
def c_Instr (x : Instr) : List CV := [cI x.Op, cI x.A, cI x.B, cI x.Value.Kind, cI x.Value.N, .val (Sv x.Value.S), CV.ls c_Int x.Value.I, CV.ls c_Str x.Value.L]
def c_CodeMethod (x : CodeMethod) : List CV := [.val (Sv x.Name), CV.ls c_Int x.Params, cI x.Result, CV.ls c_Int x.Locals, CV.ls c_Instr x.Code]
def c_CodeType (x : CodeType) : List CV := [.val (Sv x.Name), CV.ls c_Field x.Fields, CV.ls c_CodeMethod x.Methods]
set_option maxHeartbeats 2000000 in
theorem lexer_letter_fn (k : Nat) (a0 : UInt8) (r : Bool) (h : lexer_letter k a0 = some r) : FnC Try.prog 92 [.one (.val (.int .u8 (a0.toNat : Int)))] [] (Det (vB r) []) := by
  unfold lexer_letter at h
  refine fn_intro' 21 Try.func92 rfl rfl rfl (aw_seq (aw_region (s_sa ?_)))
  refine aops_nil (aw_seq (aw_region (s_mv ?_)))
  refine s_cm ?_
  refine s_mv ?_
  refine aops_mid 3 (⟨21, [], [(0, .one (.val (.int .u8 (a0.toNat : Int)))), (2, vB false), (8, vB ((decide ((a0.toNat : Int) ≥ 97)) && (decide ((a0.toNat : Int) ≤ 122))))], []⟩ : ASt) ?_ ?_
  · rcases Md.bool_or ((decide ((a0.toNat : Int) ≥ 97))) with q1 | q1
    · skip
      refine y_mv q1 ?_
      refine y_cm q1 ?_
      refine s_py q1 ?_
      refine aops_nil ?_
      exact wq q1
    iterate 2 refine np q1 ?_
    refine s_pn q1 ?_
    refine aops_nil ?_
    exact wq q1
  refine s_mv ?_
  refine aops_mid 7 (⟨21, [], [(0, .one (.val (.int .u8 (a0.toNat : Int)))), (2, vB false), (16, vB (((decide ((a0.toNat : Int) ≥ 97)) && (decide ((a0.toNat : Int) ≤ 122))) || ((decide ((a0.toNat : Int) ≥ 65)) && (decide ((a0.toNat : Int) ≤ 90)))))], []⟩ : ASt) ?_ ?_
  · rcases Md.bool_or (((decide ((a0.toNat : Int) ≥ 97)) && (decide ((a0.toNat : Int) ≤ 122)))) with q2 | q2
    · skip
      iterate 3 refine np q2 ?_
      refine aops_und rfl rfl rfl rfl rfl (aops_und rfl rfl rfl rfl rfl (np q2 ?_))
      refine s_py q2 ?_
      refine aops_nil ?_
      exact wq q2
    refine y_mv q2 ?_
    refine y_cm q2 ?_
    refine y_mv q2 ?_
    refine aops_mid 3 (⟨21, [], [(0, .one (.val (.int .u8 (a0.toNat : Int)))), (2, vB false), (9, vB ((decide ((a0.toNat : Int) ≥ 97)) && (decide ((a0.toNat : Int) ≤ 122)))), (15, vB ((decide ((a0.toNat : Int) ≥ 65)) && (decide ((a0.toNat : Int) ≤ 90))))], []⟩ : ASt) ?_ ?_
    · rcases Md.bool_or ((decide ((a0.toNat : Int) ≥ 65))) with q3 | q3
      · skip
        refine y_mv q3 ?_
        refine y_cm q3 ?_
        refine aops_yes rfl rfl rfl rfl q2 (st_pick_yes rfl (by first | rfl | exact q3) rfl rfl) (aops_nil ?_)
        exact wq q3
      iterate 2 refine np q3 ?_
      refine aops_yes rfl rfl rfl rfl q2 (st_pick_no rfl (by first | rfl | exact q3) rfl rfl) (aops_nil ?_)
      exact wq q3
    change AOps _ _ _ (⟨21, [], [(0, .one (.val (.int .u8 (a0.toNat : Int)))), (2, vB false), (9, vB ((decide ((a0.toNat : Int) ≥ 97)) && (decide ((a0.toNat : Int) ≤ 122)))), (15, vB ((decide ((a0.toNat : Int) ≥ 65)) && (decide ((a0.toNat : Int) ≤ 90))))], []⟩ : ASt) _
    refine s_pn q2 ?_
    refine aops_nil ?_
    exact wq q2
  refine s_mv ?_
  refine aops_mid 3 (⟨21, [], [(2, vB false), (20, vB ((((decide ((a0.toNat : Int) ≥ 97)) && (decide ((a0.toNat : Int) ≤ 122))) || ((decide ((a0.toNat : Int) ≥ 65)) && (decide ((a0.toNat : Int) ≤ 90)))) || ((a0.toNat : Int) == 95)))], []⟩ : ASt) ?_ ?_
  · rcases Md.bool_or ((((decide ((a0.toNat : Int) ≥ 97)) && (decide ((a0.toNat : Int) ≤ 122))) || ((decide ((a0.toNat : Int) ≥ 65)) && (decide ((a0.toNat : Int) ≤ 90))))) with q4 | q4
    · skip
      iterate 2 refine np q4 ?_
      refine s_py q4 ?_
      refine aops_nil ?_
      exact wq q4
    refine y_mv q4 ?_
    refine y_cm q4 ?_
    refine s_pn q4 ?_
    refine aops_nil ?_
    exact wq q4
  refine s_sa ?_
  refine aops_nil ?_
  cases Option.some.inj h
  exact aw_ret ⟨rfl, rv r1⟩
set_option maxHeartbeats 2000000 in
theorem lexer_digit_fn (k : Nat) (a0 : UInt8) (r : Bool) (h : lexer_digit k a0 = some r) : FnC Try.prog 95 [.one (.val (.int .u8 (a0.toNat : Int)))] [] (Det (vB r) []) := by
  unfold lexer_digit at h
  refine fn_intro' 9 Try.func95 rfl rfl rfl (aw_seq (aw_region (s_sa ?_)))
  refine aops_nil (aw_seq (aw_region (s_mv ?_)))
  refine s_cm ?_
  refine s_mv ?_
  refine aops_mid 3 (⟨9, [], [(2, vB false), (8, vB ((decide ((a0.toNat : Int) ≥ 48)) && (decide ((a0.toNat : Int) ≤ 57))))], []⟩ : ASt) ?_ ?_
  · rcases Md.bool_or ((decide ((a0.toNat : Int) ≥ 48))) with q1 | q1
    · skip
      refine y_mv q1 ?_
      refine y_cm q1 ?_
      refine s_py q1 ?_
      refine aops_nil ?_
      exact wq q1
    iterate 2 refine np q1 ?_
    refine s_pn q1 ?_
    refine aops_nil ?_
    exact wq q1
  refine s_sa ?_
  refine aops_nil ?_
  cases Option.some.inj h
  exact aw_ret ⟨rfl, rv r1⟩
set_option maxHeartbeats 2000000 in
theorem lexer_word_1_fn (k : Nat) (a0 : UInt8) (r : Bool) (h : lexer_word_1 k a0 = some r) : FnC Try.prog 94 [.one (.val (.int .u8 (a0.toNat : Int)))] [] (Det (vB r) []) := by
  unfold lexer_word_1 at h
  refine fn_intro' 9 Try.func94 rfl rfl rfl (aw_seq (aw_region (s_sa ?_)))
  refine aops_nil (aw_seq (aw_region (s_mv ?_)))
  obtain ⟨x1, hx1, h⟩ := Md.bind_s h
  refine aops_step1 rfl (ev_call_v (lexer_letter_fn k a0 x1 hx1) rfl [] ai rfl rfl rfl (.inl rfl) rfl) (s_mv ?_)
  obtain ⟨o2, j2, h⟩ := Md.bind_s h
  refine aops_cut 3 (ε := Bool) (fun x2 => (⟨9, [], [(2, vB false), (8, vB x2)], []⟩ : ASt)) (fun x2 => x2 = o2) ?_ ?_
  · intro x2 hI2
    subst hI2
    change AOps _ _ _ (⟨9, [], [(2, vB false), (8, vB x2)], []⟩ : ASt) _
    refine s_sa ?_
    refine aops_nil ?_
    cases Option.some.inj h
    exact aw_ret ⟨rfl, rv r1⟩
  rcases Md.bool_or (x1) with q2 | q2
  · replace j2 := Md.cond_t j2 q2
    iterate 2 refine np q2 ?_
    refine s_py q2 ?_
    refine aops_nil ?_
    show ∃ _x : Bool, _ = _ ∧ Weak _ _
    exact ⟨true, Option.some.inj j2, wk⟩
  replace j2 := Md.cond_f j2 q2
  refine y_mv q2 ?_
  obtain ⟨x3, hx3, j2⟩ := Md.bind_s j2
  refine aops_yes rfl rfl rfl rfl q2 (ev_call_v (lexer_digit_fn k a0 x3 hx3) rfl [] ai rfl rfl rfl (.inl rfl) rfl) (s_pn q2 ?_)
  refine aops_nil ?_
  show ∃ _x : Bool, _ = _ ∧ Weak _ _
  exact ⟨x3, Option.some.inj j2, wk⟩
set_option maxHeartbeats 2000000 in
theorem lexer_run__lexer_word_1_fn (k : Nat) (a0 : List UInt8) (r : Int) (h : lexer_run__lexer_word_1 k a0 = some r) : FnC Try.prog 93 [.one (.val (Sv a0)), .one (.fn 94 [])] [] (Det (vI r) []) := by
  unfold lexer_run__lexer_word_1 at h
  refine fn_intro' 20 Try.func93 rfl rfl rfl (aw_seq (aw_region (s_sa ?_)))
  refine aops_nil (aw_seq (aw_region (s_sa ?_)))
  refine aops_nil ?_
  obtain ⟨o1, j1, h⟩ := Md.bind_s h
  refine aw_cut (ε := Nat) (fun x => (⟨20, [], [(5, vI ((x : Nat) : Int))], []⟩ : ASt)) (fun x => x = o1) ?_ ?_
  · intro x1_0 hI1
    subst hI1
    change AW _ _ (⟨20, [], [(5, vI ((x1_0 : Nat) : Int))], []⟩ : ASt) _
    refine aw_seq (aw_region (s_mv ?_))
    refine s_sa ?_
    refine aops_nil ?_
    cases Option.some.inj h
    exact aw_ret ⟨rfl, rv r1⟩
  refine aw_block ?_
  obtain ⟨o2, ho2, j1⟩ := Md.bind_s j1
  refine aw_loop (ι := {p : Nat × Nat // zqan k a0 p.1 p.2 = some o2}) (fun p => (⟨20, [], [(0, .one (.val (Sv a0))), (1, .one (.fn 94 [])), (5, vI ((p.1.2 : Nat) : Int))], []⟩ : ASt)) (fun p => p.1.1) ⟨(k, 0), ho2⟩ wk ?_
  intro p2
  obtain ⟨⟨n2, s2_0⟩, l2⟩ := p2
  change AW _ _ (⟨20, [], [(0, .one (.val (Sv a0))), (1, .one (.fn 94 [])), (5, vI ((s2_0 : Nat) : Int))], []⟩ : ASt) _
  replace l2 : zqan k a0 n2 s2_0 = some o2 := l2
  rcases n2 with _ | n2
  · exact absurd (show none = some o2 from l2) nofun
  rw [zqan] at l2
  refine aw_seq (aw_seq (aw_region ?_))
  iterate 2 refine s_mv ?_
  refine aops_step1 rfl (st_len_str rfl rfl) (s_cm ?_)
  refine s_mv ?_
  obtain ⟨o3, j3, l2⟩ := Md.bind_s l2
  refine aops_cut 6 (ε := Bool) (fun x3 => (⟨20, [], [(0, .one (.val (Sv a0))), (1, .one (.fn 94 [])), (5, vI ((s2_0 : Nat) : Int)), (16, vB x3)], []⟩ : ASt)) (fun x3 => x3 = o3) ?_ ?_
  · intro x3 hI3
    subst hI3
    change AOps _ _ _ (⟨20, [], [(0, .one (.val (Sv a0))), (1, .one (.fn 94 [])), (5, vI ((s2_0 : Nat) : Int)), (16, vB x3)], []⟩ : ASt) _
    refine aops_nil ?_
    refine aw_cond rfl (fun c4 => ?_) (fun c4 => ?_)
    · replace l2 := Md.cond_t l2 c4
      refine aw_skip (aw_block (aw_region (s_mv ?_)))
      obtain ⟨g5, l2⟩ := Md.ifp_s l2
      refine aops_step1 rfl (ev_add rfl rfl rfl (Md.nat_add g5)) (s_sa ?_)
      refine aops_nil ?_
      exact ⟨⟨(n2, (s2_0 + 1)), l2⟩, Nat.lt_succ_self _, wk⟩
    replace l2 := Md.cond_f l2 c4
    refine aw_exit ?_
    have e2 := Option.some.inj l2
    subst e2
    show ∃ _x : Nat, _ = _ ∧ Weak _ _
    exact ⟨s2_0, Option.some.inj j1, wk⟩
  rcases Md.bool_or ((decide (((s2_0 : Nat) : Int) < ((a0.length : Nat) : Int)))) with q3 | q3
  · replace j3 := Md.cond_t j3 q3
    iterate 3 refine y_mv q3 ?_
    obtain ⟨g6, j3⟩ := Md.ifp_s j3
    refine aops_yes rfl rfl rfl rfl q3 (st_index_str rfl rfl rfl g6 rfl) ?_
    obtain ⟨x7, hx7, j3⟩ := Md.bind_s j3
    refine aops_yes rfl rfl rfl rfl q3 (ev_callee rfl (ev_call_v (lexer_word_1_fn k (a0.getD s2_0 0) x7 hx7) rfl [] ai rfl rfl rfl (.inl rfl) rfl)) (s_py q3 ?_)
    refine aops_nil ?_
    show ∃ _x : Bool, _ = _ ∧ Weak _ _
    exact ⟨x7, Option.some.inj j3, wk⟩
  replace j3 := Md.cond_f j3 q3
  iterate 5 refine np q3 ?_
  refine s_pn q3 ?_
  refine aops_nil ?_
  show ∃ _x : Bool, _ = _ ∧ Weak _ _
  exact ⟨false, Option.some.inj j3, wk⟩
set_option maxHeartbeats 2000000 in
theorem lexer_word_fn (k : Nat) (a0 : List UInt8) (r : Int) (h : lexer_word k a0 = some r) : FnC Try.prog 76 [.one (.val (Sv a0))] [] (Det (vI r) []) := by
  unfold lexer_word at h
  refine fn_intro' 13 Try.func76 rfl rfl rfl (aw_seq (aw_region (s_sa ?_)))
  refine aops_nil (aw_seq (aw_seq (aw_region (s_mv ?_))))
  refine aops_step1 rfl (st_str_eq rfl rfl rfl) (s_mv ?_)
  obtain ⟨o1, j1, h⟩ := Md.bind_s h
  refine aops_cut 5 (ε := Bool) (fun x1 => (⟨13, [], [(0, .one (.val (Sv a0))), (10, vB x1)], []⟩ : ASt)) (fun x1 => x1 = o1) ?_ ?_
  · intro x1 hI1
    subst hI1
    change AOps _ _ _ (⟨13, [], [(0, .one (.val (Sv a0))), (10, vB x1)], []⟩ : ASt) _
    refine aops_nil ?_
    refine aw_cond rfl (fun c2 => ?_) (fun c2 => ?_)
    · replace h := Md.cond_t h c2
      refine aw_seq (aw_region (s_sa ?_))
      refine aops_nil ?_
      cases Option.some.inj h
      exact aw_ret ⟨rfl, rv r1⟩
    replace h := Md.cond_f h c2
    refine aw_skip (aw_seq (aw_region (s_mv ?_)))
    obtain ⟨x3, hx3, h⟩ := Md.bind_s h
    refine aops_step1 rfl (ev_call_v (lexer_run__lexer_word_1_fn k a0 x3 hx3) rfl [] ai rfl rfl rfl (.inl rfl) rfl) (s_sa ?_)
    refine aops_nil ?_
    cases Option.some.inj h
    exact aw_ret ⟨rfl, rv r1⟩
  rcases Md.bool_or ((decide (a0 = ([] : List UInt8)))) with q1 | q1
  · replace j1 := Md.cond_t j1 q1
    iterate 4 refine np q1 ?_
    refine s_py q1 ?_
    refine aops_nil ?_
    show ∃ _x : Bool, _ = _ ∧ Weak _ _
    exact ⟨true, Option.some.inj j1, wk⟩
  replace j1 := Md.cond_f j1 q1
  refine y_mv q1 ?_
  obtain ⟨g4, j1⟩ := Md.ifp_s j1
  refine aops_yes rfl rfl rfl rfl q1 (st_index_str rfl rfl rfl g4 rfl) ?_
  obtain ⟨x5, hx5, j1⟩ := Md.bind_s j1
  refine aops_yes rfl rfl rfl rfl q1 (ev_call_v (lexer_letter_fn k (a0.getD 0 0) x5 hx5) rfl [] ai rfl rfl rfl (.inl rfl) rfl) (y_nt q1 ?_)
  refine s_pn q1 ?_
  refine aops_nil ?_
  show ∃ _x : Bool, _ = _ ∧ Weak _ _
  exact ⟨(!x5), Option.some.inj j1, wk⟩
set_option maxHeartbeats 2000000 in
theorem lexer_IsKeyword_fn (k : Nat) (a0 : List UInt8) (r : Bool) (h : lexer_IsKeyword k a0 = some r) : FnC Try.prog 77 [.one (.val (Sv a0))] [] (Det (vB r) []) := by
  unfold lexer_IsKeyword at h
  refine fn_intro' 26 Try.func77 rfl rfl rfl (aw_seq (aw_region (s_sa ?_)))
  refine aops_nil (aw_seq (aw_seq (aw_region (s_mv ?_))))
  refine aops_nil (aw_block (aw_seq (aw_seq (aw_region (aops_step1 rfl (st_str_eq rfl rfl rfl) (s_sa ?_))))))
  refine aops_nil ?_
  refine aw_cond rfl (fun c1 => ?_) (fun c1 => ?_)
  · replace h := Md.cond_t h c1
    refine aw_skip (aw_yes rfl (c1) (aw_seq (aw_region (s_sa ?_))))
    refine aops_nil ?_
    cases Option.some.inj h
    exact aw_ret ⟨rfl, rv r1⟩
  replace h := Md.cond_f h c1
  refine aw_seq (aw_region (aops_step1 rfl (st_str_eq rfl rfl rfl) (s_sa ?_)))
  refine aops_nil ?_
  refine aw_cond rfl (fun c2 => ?_) (fun c2 => ?_)
  · replace h := Md.cond_t h c2
    refine aw_skip (aw_yes rfl (c2) (aw_seq (aw_region (s_sa ?_))))
    refine aops_nil ?_
    cases Option.some.inj h
    exact aw_ret ⟨rfl, rv r1⟩
  replace h := Md.cond_f h c2
  refine aw_seq (aw_region (aops_step1 rfl (st_str_eq rfl rfl rfl) (s_sa ?_)))
  refine aops_nil ?_
  refine aw_cond rfl (fun c3 => ?_) (fun c3 => ?_)
  · replace h := Md.cond_t h c3
    refine aw_skip (aw_yes rfl (c3) (aw_seq (aw_region (s_sa ?_))))
    refine aops_nil ?_
    cases Option.some.inj h
    exact aw_ret ⟨rfl, rv r1⟩
  replace h := Md.cond_f h c3
  refine aw_seq (aw_region (aops_step1 rfl (st_str_eq rfl rfl rfl) (s_sa ?_)))
  refine aops_nil ?_
  refine aw_cond rfl (fun c4 => ?_) (fun c4 => ?_)
  · replace h := Md.cond_t h c4
    refine aw_skip (aw_yes rfl (c4) (aw_seq (aw_region (s_sa ?_))))
    refine aops_nil ?_
    cases Option.some.inj h
    exact aw_ret ⟨rfl, rv r1⟩
  replace h := Md.cond_f h c4
  refine aw_seq (aw_region (aops_step1 rfl (st_str_eq rfl rfl rfl) (s_sa ?_)))
  refine aops_nil ?_
  refine aw_cond rfl (fun c5 => ?_) (fun c5 => ?_)
  · replace h := Md.cond_t h c5
    refine aw_skip (aw_yes rfl (c5) (aw_seq (aw_region (s_sa ?_))))
    refine aops_nil ?_
    cases Option.some.inj h
    exact aw_ret ⟨rfl, rv r1⟩
  replace h := Md.cond_f h c5
  refine aw_seq (aw_region (aops_step1 rfl (st_str_eq rfl rfl rfl) (s_sa ?_)))
  refine aops_nil ?_
  refine aw_cond rfl (fun c6 => ?_) (fun c6 => ?_)
  · replace h := Md.cond_t h c6
    refine aw_skip (aw_yes rfl (c6) (aw_seq (aw_region (s_sa ?_))))
    refine aops_nil ?_
    cases Option.some.inj h
    exact aw_ret ⟨rfl, rv r1⟩
  replace h := Md.cond_f h c6
  refine aw_seq (aw_region (aops_step1 rfl (st_str_eq rfl rfl rfl) (s_sa ?_)))
  refine aops_nil ?_
  refine aw_cond rfl (fun c7 => ?_) (fun c7 => ?_)
  · replace h := Md.cond_t h c7
    refine aw_skip (aw_yes rfl (c7) (aw_seq (aw_region (s_sa ?_))))
    refine aops_nil ?_
    cases Option.some.inj h
    exact aw_ret ⟨rfl, rv r1⟩
  replace h := Md.cond_f h c7
  refine aw_seq (aw_region (aops_step1 rfl (st_str_eq rfl rfl rfl) (s_sa ?_)))
  refine aops_nil ?_
  refine aw_cond rfl (fun c8 => ?_) (fun c8 => ?_)
  · replace h := Md.cond_t h c8
    refine aw_skip (aw_yes rfl (c8) (aw_seq (aw_region (s_sa ?_))))
    refine aops_nil ?_
    cases Option.some.inj h
    exact aw_ret ⟨rfl, rv r1⟩
  replace h := Md.cond_f h c8
  refine aw_seq (aw_region (aops_step1 rfl (st_str_eq rfl rfl rfl) (s_sa ?_)))
  refine aops_nil ?_
  refine aw_cond rfl (fun c9 => ?_) (fun c9 => ?_)
  · replace h := Md.cond_t h c9
    refine aw_skip (aw_yes rfl (c9) (aw_seq (aw_region (s_sa ?_))))
    refine aops_nil ?_
    cases Option.some.inj h
    exact aw_ret ⟨rfl, rv r1⟩
  replace h := Md.cond_f h c9
  refine aw_seq (aw_region (aops_step1 rfl (st_str_eq rfl rfl rfl) (s_sa ?_)))
  refine aops_nil ?_
  refine aw_cond rfl (fun c10 => ?_) (fun c10 => ?_)
  · replace h := Md.cond_t h c10
    refine aw_skip (aw_yes rfl (c10) (aw_seq (aw_region (s_sa ?_))))
    refine aops_nil ?_
    cases Option.some.inj h
    exact aw_ret ⟨rfl, rv r1⟩
  replace h := Md.cond_f h c10
  refine aw_seq (aw_region (aops_step1 rfl (st_str_eq rfl rfl rfl) (s_sa ?_)))
  refine aops_nil ?_
  refine aw_cond rfl (fun c11 => ?_) (fun c11 => ?_)
  · replace h := Md.cond_t h c11
    refine aw_skip (aw_yes rfl (c11) (aw_seq (aw_region (s_sa ?_))))
    refine aops_nil ?_
    cases Option.some.inj h
    exact aw_ret ⟨rfl, rv r1⟩
  replace h := Md.cond_f h c11
  refine aw_seq (aw_region (aops_step1 rfl (st_str_eq rfl rfl rfl) (s_sa ?_)))
  refine aops_nil ?_
  refine aw_cond rfl (fun c12 => ?_) (fun c12 => ?_)
  · replace h := Md.cond_t h c12
    refine aw_skip (aw_yes rfl (c12) (aw_seq (aw_region (s_sa ?_))))
    refine aops_nil ?_
    cases Option.some.inj h
    exact aw_ret ⟨rfl, rv r1⟩
  replace h := Md.cond_f h c12
  refine aw_seq (aw_region (aops_step1 rfl (st_str_eq rfl rfl rfl) (s_sa ?_)))
  refine aops_nil ?_
  refine aw_cond rfl (fun c13 => ?_) (fun c13 => ?_)
  · replace h := Md.cond_t h c13
    refine aw_skip (aw_yes rfl (c13) (aw_seq (aw_region (s_sa ?_))))
    refine aops_nil ?_
    cases Option.some.inj h
    exact aw_ret ⟨rfl, rv r1⟩
  replace h := Md.cond_f h c13
  refine aw_seq (aw_region (aops_step1 rfl (st_str_eq rfl rfl rfl) (s_sa ?_)))
  refine aops_nil ?_
  refine aw_cond rfl (fun c14 => ?_) (fun c14 => ?_)
  · replace h := Md.cond_t h c14
    refine aw_skip (aw_yes rfl (c14) (aw_seq (aw_region (s_sa ?_))))
    refine aops_nil ?_
    cases Option.some.inj h
    exact aw_ret ⟨rfl, rv r1⟩
  replace h := Md.cond_f h c14
  refine aw_seq (aw_region (aops_step1 rfl (st_str_eq rfl rfl rfl) (s_sa ?_)))
  refine aops_nil ?_
  refine aw_cond rfl (fun c15 => ?_) (fun c15 => ?_)
  · replace h := Md.cond_t h c15
    refine aw_skip (aw_yes rfl (c15) (aw_seq (aw_region (s_sa ?_))))
    refine aops_nil ?_
    cases Option.some.inj h
    exact aw_ret ⟨rfl, rv r1⟩
  replace h := Md.cond_f h c15
  refine aw_seq (aw_region (aops_step1 rfl (st_str_eq rfl rfl rfl) (s_sa ?_)))
  refine aops_nil ?_
  refine aw_cond rfl (fun c16 => ?_) (fun c16 => ?_)
  · replace h := Md.cond_t h c16
    refine aw_skip (aw_yes rfl (c16) (aw_seq (aw_region (s_sa ?_))))
    refine aops_nil ?_
    cases Option.some.inj h
    exact aw_ret ⟨rfl, rv r1⟩
  replace h := Md.cond_f h c16
  refine aw_seq (aw_region (aops_step1 rfl (st_str_eq rfl rfl rfl) (s_sa ?_)))
  refine aops_nil ?_
  refine aw_cond rfl (fun c17 => ?_) (fun c17 => ?_)
  · replace h := Md.cond_t h c17
    refine aw_skip (aw_yes rfl (c17) (aw_seq (aw_region (s_sa ?_))))
    refine aops_nil ?_
    cases Option.some.inj h
    exact aw_ret ⟨rfl, rv r1⟩
  replace h := Md.cond_f h c17
  refine aw_seq (aw_region (aops_step1 rfl (st_str_eq rfl rfl rfl) (s_sa ?_)))
  refine aops_nil ?_
  refine aw_cond rfl (fun c18 => ?_) (fun c18 => ?_)
  · replace h := Md.cond_t h c18
    refine aw_skip (aw_yes rfl (c18) (aw_seq (aw_region (s_sa ?_))))
    refine aops_nil ?_
    cases Option.some.inj h
    exact aw_ret ⟨rfl, rv r1⟩
  replace h := Md.cond_f h c18
  refine aw_seq (aw_region (aops_step1 rfl (st_str_eq rfl rfl rfl) (s_sa ?_)))
  refine aops_nil ?_
  refine aw_cond rfl (fun c19 => ?_) (fun c19 => ?_)
  · replace h := Md.cond_t h c19
    refine aw_skip (aw_yes rfl (c19) (aw_seq (aw_region (s_sa ?_))))
    refine aops_nil ?_
    cases Option.some.inj h
    exact aw_ret ⟨rfl, rv r1⟩
  replace h := Md.cond_f h c19
  refine aw_seq (aw_region (aops_step1 rfl (st_str_eq rfl rfl rfl) (s_sa ?_)))
  refine aops_nil ?_
  refine aw_cond rfl (fun c20 => ?_) (fun c20 => ?_)
  · replace h := Md.cond_t h c20
    refine aw_skip (aw_yes rfl (c20) (aw_seq (aw_region (s_sa ?_))))
    refine aops_nil ?_
    cases Option.some.inj h
    exact aw_ret ⟨rfl, rv r1⟩
  replace h := Md.cond_f h c20
  refine aw_region (aops_step1 rfl (st_str_eq rfl rfl rfl) (s_sa ?_))
  refine aops_nil ?_
  refine aw_cond rfl (fun c21 => ?_) (fun c21 => ?_)
  · replace h := Md.cond_t h c21
    refine aw_seq (aw_region (s_sa ?_))
    refine aops_nil ?_
    cases Option.some.inj h
    exact aw_ret ⟨rfl, rv r1⟩
  replace h := Md.cond_f h c21
  refine aw_skip (aw_seq (aw_region (s_sa ?_)))
  refine aops_nil ?_
  cases Option.some.inj h
  exact aw_ret ⟨rfl, rv r1⟩
set_option maxHeartbeats 2000000 in
theorem lexer_IsName_fn (k : Nat) (a0 : List UInt8) (r : Bool) (h : lexer_IsName k a0 = some r) : FnC Try.prog 61 [.one (.val (Sv a0))] [] (Det (vB r) []) := by
  unfold lexer_IsName at h
  refine fn_intro' 22 Try.func61 rfl rfl rfl (aw_seq (aw_region (s_sa ?_)))
  refine aops_nil (aw_seq (aw_region (s_mv ?_)))
  refine aops_step1 rfl (st_str_ne rfl rfl rfl) (s_mv ?_)
  refine aops_mid 4 (⟨22, [], [(0, .one (.val (Sv a0))), (2, vB false), (9, vB ((!(decide (a0 = ([] : List UInt8)))) && (decide (((a0.length : Nat) : Int) ≤ 32))))], []⟩ : ASt) ?_ ?_
  · rcases Md.bool_or ((!(decide (a0 = ([] : List UInt8))))) with q1 | q1
    · skip
      refine y_mv q1 ?_
      refine aops_yes rfl rfl rfl rfl q1 (st_len_str rfl rfl) (y_cm q1 ?_)
      refine s_py q1 ?_
      refine aops_nil ?_
      exact wq q1
    iterate 3 refine np q1 ?_
    refine s_pn q1 ?_
    refine aops_nil ?_
    exact wq q1
  refine s_mv ?_
  obtain ⟨o2, j2, h⟩ := Md.bind_s h
  refine aops_cut 6 (ε := Bool) (fun x2 => (⟨22, [], [(0, .one (.val (Sv a0))), (2, vB false), (16, vB x2)], []⟩ : ASt)) (fun x2 => x2 = o2) ?_ ?_
  · intro x2 hI2
    subst hI2
    change AOps _ _ _ (⟨22, [], [(0, .one (.val (Sv a0))), (2, vB false), (16, vB x2)], []⟩ : ASt) _
    refine s_mv ?_
    obtain ⟨o3, j3, h⟩ := Md.bind_s h
    refine aops_cut 4 (ε := Bool) (fun x3 => (⟨22, [], [(2, vB false), (21, vB x3)], []⟩ : ASt)) (fun x3 => x3 = o3) ?_ ?_
    · intro x3 hI3
      subst hI3
      change AOps _ _ _ (⟨22, [], [(2, vB false), (21, vB x3)], []⟩ : ASt) _
      refine s_sa ?_
      refine aops_nil ?_
      cases Option.some.inj h
      exact aw_ret ⟨rfl, rv r1⟩
    rcases Md.bool_or (x2) with q3 | q3
    · replace j3 := Md.cond_t j3 q3
      refine y_mv q3 ?_
      obtain ⟨x4, hx4, j3⟩ := Md.bind_s j3
      refine aops_yes rfl rfl rfl rfl q3 (ev_call_v (lexer_IsKeyword_fn k a0 x4 hx4) rfl [] ai rfl rfl rfl (.inl rfl) rfl) (y_nt q3 ?_)
      refine s_py q3 ?_
      refine aops_nil ?_
      show ∃ _x : Bool, _ = _ ∧ Weak _ _
      exact ⟨(!x4), Option.some.inj j3, wk⟩
    replace j3 := Md.cond_f j3 q3
    iterate 3 refine np q3 ?_
    refine s_pn q3 ?_
    refine aops_nil ?_
    show ∃ _x : Bool, _ = _ ∧ Weak _ _
    exact ⟨false, Option.some.inj j3, wk⟩
  rcases Md.bool_or (((!(decide (a0 = ([] : List UInt8)))) && (decide (((a0.length : Nat) : Int) ≤ 32)))) with q2 | q2
  · replace j2 := Md.cond_t j2 q2
    refine y_mv q2 ?_
    obtain ⟨x5, hx5, j2⟩ := Md.bind_s j2
    refine aops_yes rfl rfl rfl rfl q2 (ev_call_v (lexer_word_fn k a0 x5 hx5) rfl [] ai rfl rfl rfl (.inl rfl) rfl) (y_mv q2 ?_)
    refine aops_yes rfl rfl rfl rfl q2 (st_len_str rfl rfl) (y_cm q2 ?_)
    refine s_py q2 ?_
    refine aops_nil ?_
    show ∃ _x : Bool, _ = _ ∧ Weak _ _
    exact ⟨(x5 == ((a0.length : Nat) : Int)), Option.some.inj j2, wk⟩
  replace j2 := Md.cond_f j2 q2
  iterate 5 refine np q2 ?_
  refine s_pn q2 ?_
  refine aops_nil ?_
  show ∃ _x : Bool, _ = _ ∧ Weak _ _
  exact ⟨false, Option.some.inj j2, wk⟩
set_option maxHeartbeats 2000000 in
theorem bytecode_kindOf_fn (k : Nat) (a0 : Int) (r : Bool) (h : bytecode_kindOf k a0 = some r) : FnC Try.prog 66 [vI a0] [] (Det (vB r) []) := by
  unfold bytecode_kindOf at h
  refine fn_intro' 9 Try.func66 rfl rfl rfl (aw_seq (aw_region (s_sa ?_)))
  refine aops_nil (aw_seq (aw_region (s_mv ?_)))
  refine s_cm ?_
  refine s_mv ?_
  refine aops_mid 3 (⟨9, [], [(2, vB false), (8, vB ((decide (a0 ≥ 1)) && (decide (a0 ≤ 5))))], []⟩ : ASt) ?_ ?_
  · rcases Md.bool_or ((decide (a0 ≥ 1))) with q1 | q1
    · skip
      refine y_mv q1 ?_
      refine y_cm q1 ?_
      refine s_py q1 ?_
      refine aops_nil ?_
      exact wq q1
    iterate 2 refine np q1 ?_
    refine s_pn q1 ?_
    refine aops_nil ?_
    exact wq q1
  refine s_sa ?_
  refine aops_nil ?_
  cases Option.some.inj h
  exact aw_ret ⟨rfl, rv r1⟩
set_option maxHeartbeats 2000000 in
theorem bytecode_validType_1_fn (k : Nat) (a0 : Int) (c0 : CodeType) (r : (List UInt8)) (h : bytecode_validType_1 k a0 c0 = some r) : FnC Try.prog 62 [vI a0, .one (.cptr [.val (Sv c0.Name), CV.ls c_Field c0.Fields, CV.ls c_CodeMethod c0.Methods])] [] (Det (.one (.val (Sv r))) []) := by
  unfold bytecode_validType_1 at h
  refine fn_intro' 10 Try.func62 rfl rfl rfl (aw_seq (aw_region (s_sa ?_)))
  refine aops_nil (aw_seq (aw_region (aops_step1 rfl (ev_field_in rfl rfl rfl) (aops_step1 rfl (ev_load_in rfl rfl rfl) (s_mv ?_)))))
  obtain ⟨g1, h⟩ := Md.ifp_s h
  refine aops_step1 rfl (ev_index_in rfl rfl (Md.idx_eq g1) (Md.idx_lt g1) rfl rfl) (aops_step1 rfl (ev_field_in rfl rfl rfl) ?_)
  refine aops_step1 rfl (ev_load_in rfl rfl rfl) (s_sa ?_)
  refine aops_nil ?_
  cases Option.some.inj h
  exact aw_ret ⟨rfl, rv r1⟩
set_option maxHeartbeats 2000000 in
theorem bytecode_validType_2_fn (k : Nat) (a0 : Int) (c0 : CodeType) (r : (List UInt8)) (h : bytecode_validType_2 k a0 c0 = some r) : FnC Try.prog 63 [vI a0, .one (.cptr [.val (Sv c0.Name), CV.ls c_Field c0.Fields, CV.ls c_CodeMethod c0.Methods])] [] (Det (.one (.val (Sv r))) []) := by
  unfold bytecode_validType_2 at h
  refine fn_intro' 10 Try.func63 rfl rfl rfl (aw_seq (aw_region (s_sa ?_)))
  refine aops_nil (aw_seq (aw_region (aops_step1 rfl (ev_field_in rfl rfl rfl) (aops_step1 rfl (ev_load_in rfl rfl rfl) (s_mv ?_)))))
  obtain ⟨g1, h⟩ := Md.ifp_s h
  refine aops_step1 rfl (ev_index_in rfl rfl (Md.idx_eq g1) (Md.idx_lt g1) rfl rfl) (aops_step1 rfl (ev_field_in rfl rfl rfl) ?_)
  refine aops_step1 rfl (ev_load_in rfl rfl rfl) (s_sa ?_)
  refine aops_nil ?_
  cases Option.some.inj h
  exact aw_ret ⟨rfl, rv r1⟩
set_option maxHeartbeats 2000000 in
theorem bytecode_rightForm_1_fn (k : Nat) (a0 : Int) (c0 : Code) (r : (List UInt8)) (h : bytecode_rightForm_1 k a0 c0 = some r) : FnC Try.prog 38 [vI a0, .one (.cptr [CV.ls c_CodeType c0.Types])] [] (Det (.one (.val (Sv r))) []) := by
  unfold bytecode_rightForm_1 at h
  refine fn_intro' 10 Try.func38 rfl rfl rfl (aw_seq (aw_region (s_sa ?_)))
  refine aops_nil (aw_seq (aw_region (aops_step1 rfl (ev_field_in rfl rfl rfl) (aops_step1 rfl (ev_load_in rfl rfl rfl) (s_mv ?_)))))
  obtain ⟨g1, h⟩ := Md.ifp_s h
  refine aops_step1 rfl (ev_index_in rfl rfl (Md.idx_eq g1) (Md.idx_lt g1) rfl rfl) (aops_step1 rfl (ev_field_in rfl rfl rfl) ?_)
  refine aops_step1 rfl (ev_load_in rfl rfl rfl) (s_sa ?_)
  refine aops_nil ?_
  cases Option.some.inj h
  exact aw_ret ⟨rfl, rv r1⟩
set_option maxHeartbeats 2000000 in
theorem bytecode_kindsOf_1_fn (k : Nat) (a0 : Int) (r : Bool) (h : bytecode_kindsOf_1 k a0 = some r) : FnC Try.prog 80 [vI a0] [] (Det (vB r) []) := by
  unfold bytecode_kindsOf_1 at h
  refine fn_intro' 6 Try.func80 rfl rfl rfl (aw_seq (aw_region (s_sa ?_)))
  refine aops_nil (aw_seq (aw_region (s_mv ?_)))
  obtain ⟨x1, hx1, h⟩ := Md.bind_s h
  refine aops_step1 rfl (ev_call_v (bytecode_kindOf_fn k a0 x1 hx1) rfl [] ai rfl rfl rfl (.inl rfl) rfl) (s_nt ?_)
  refine s_sa ?_
  refine aops_nil ?_
  cases Option.some.inj h
  exact aw_ret ⟨rfl, rv r1⟩
set_option maxHeartbeats 2000000 in
theorem zqbv (k : Nat) (a0 : List Int) (r : Int) (h : zqbu k a0 = some r) : FnC Try.prog 96 [.one (CV.ls c_Int a0), .one (.fn 80 [])] [] (Det (vI r) []) := by
  unfold zqbu at h
  refine fn_intro' 19 Try.func96 rfl rfl rfl (aw_seq (aw_region (s_sa ?_)))
  refine aops_nil (aw_seq (aw_seq (aw_region (s_mv ?_))))
  refine s_ln ?_
  refine s_mv ?_
  refine aops_nil (aw_block ?_)
  obtain ⟨o1, ho1, h⟩ := Md.bind_s h
  refine aw_loop_x (ι := {p : Nat × Nat // zqbw k a0 p.1 p.2 = some o1}) (fun p => (⟨19, [], [(0, .one (CV.ls c_Int a0)), (1, .one (.fn 80 [])), (7, vI ((a0.length : Nat) : Int)), (8, vI ((p.1.2 : Nat) : Int))], []⟩ : ASt)) (fun p => p.1.1) ⟨(k, 0), ho1⟩ wk 0 (ε := Unit) (fun x => (⟨19, [], [], []⟩ : ASt)) (fun x => Sum.inl x = o1) (fun _ _ w h => aw_weak w h) ?_ ?_
  · intro x1_0 hI1
    subst hI1
    replace h := Md.onS_l h
    change AW _ _ (⟨19, [], [], []⟩ : ASt) _
    refine aw_seq (aw_region (s_sa ?_))
    refine aops_nil ?_
    cases Option.some.inj h
    exact aw_ret ⟨rfl, rv r1⟩
  intro p1
  obtain ⟨⟨n1, s1_0⟩, l1⟩ := p1
  change AW _ _ (⟨19, [], [(0, .one (CV.ls c_Int a0)), (1, .one (.fn 80 [])), (7, vI ((a0.length : Nat) : Int)), (8, vI ((s1_0 : Nat) : Int))], []⟩ : ASt) _
  replace l1 : zqbw k a0 n1 s1_0 = some o1 := l1
  rcases n1 with _ | n1
  · exact absurd (show none = some o1 from l1) nofun
  rw [zqbw] at l1
  refine aw_seq (aw_region (s_cm ?_))
  refine aops_nil (aw_seq ?_)
  refine aw_cond rfl (fun c2 => ?_) (fun c2 => ?_)
  · replace l1 := Md.cond_t l1 c2
    refine aw_skip (aw_seq (aw_block (aw_seq (aw_region (s_mv ?_)))))
    refine s_sa ?_
    refine aops_nil (aw_seq (aw_region ?_))
    iterate 3 refine s_mv ?_
    obtain ⟨g3, l1⟩ := Md.ifp_s l1
    refine aops_step1 rfl (ev_index_in rfl rfl rfl g3 rfl rfl) (aops_step1 rfl (ev_load_in rfl rfl rfl) ?_)
    obtain ⟨x4, hx4, l1⟩ := Md.bind_s l1
    refine aops_step1 rfl (ev_callee rfl (ev_call_v (bytecode_kindsOf_1_fn k (a0.getD s1_0 default) x4 hx4) rfl [] ai rfl rfl rfl (.inl rfl) rfl)) (aops_nil ?_)
    refine aw_cond rfl (fun c5 => ?_) (fun c5 => ?_)
    · replace l1 := Md.cond_t l1 c5
      refine aw_seq (aw_region (s_mv ?_))
      refine s_sa ?_
      refine aops_nil ?_
      cases Option.some.inj l1
      replace h := Md.onS_r h
      cases Option.some.inj h
      exact aw_ret ⟨rfl, rv r1⟩
    replace l1 := Md.cond_f l1 c5
    refine aw_skip (aw_region ?_)
    obtain ⟨g6, l1⟩ := Md.ifp_s l1
    refine aops_step1 rfl (ev_add rfl rfl rfl (Md.nat_add g6)) (s_mv ?_)
    refine aops_nil ?_
    exact ⟨⟨(n1, (s1_0 + 1)), l1⟩, Nat.lt_succ_self _, wk⟩
  replace l1 := Md.cond_f l1 c2
  refine aw_exit ?_
  show ∃ _x : Unit, _ = _ ∧ Weak _ _
  exact ⟨(), Option.some.inj l1, wk⟩
set_option maxHeartbeats 2000000 in
theorem zqav (k : Nat) (a0 : List Int) (r : Bool) (h : zqau k a0 = some r) : FnC Try.prog 79 [.one (CV.ls c_Int a0), .one (.fn 80 [])] [] (Det (vB r) []) := by
  unfold zqau at h
  refine fn_intro' 9 Try.func79 rfl rfl rfl (aw_seq (aw_region (s_sa ?_)))
  refine aops_nil (aw_seq (aw_region ?_))
  iterate 2 refine s_mv ?_
  obtain ⟨x1, hx1, h⟩ := Md.bind_s h
  refine aops_step1 rfl (ev_call_v (zqbv k a0 x1 hx1) rfl [] ai rfl rfl rfl (.inl rfl) rfl) (s_cm ?_)
  refine s_sa ?_
  refine aops_nil ?_
  cases Option.some.inj h
  exact aw_ret ⟨rfl, rv r1⟩
set_option maxHeartbeats 2000000 in
theorem bytecode_kindsOf_fn (k : Nat) (a0 : List Int) (r : Bool) (h : bytecode_kindsOf k a0 = some r) : FnC Try.prog 67 [.one (CV.ls c_Int a0)] [] (Det (vB r) []) := by
  unfold bytecode_kindsOf at h
  refine fn_intro' 6 Try.func67 rfl rfl rfl (aw_seq (aw_region (s_sa ?_)))
  refine aops_nil (aw_seq (aw_region (s_mv ?_)))
  obtain ⟨x1, hx1, h⟩ := Md.bind_s h
  refine aops_step1 rfl (ev_call_v (zqav k a0 x1 hx1) rfl [] ai rfl rfl rfl (.inl rfl) rfl) (s_nt ?_)
  refine s_sa ?_
  refine aops_nil ?_
  cases Option.some.inj h
  exact aw_ret ⟨rfl, rv r1⟩
set_option maxHeartbeats 2000000 in
theorem bytecode_FindType_1_fn (k : Nat) (a0 : CodeType) (c0 : List UInt8) (r : Bool) (h : bytecode_FindType_1 k a0 c0 = some r) : FnC Try.prog 35 [.agg (c_CodeType a0), .one (.cptr [.val (Sv c0)])] [] (Det (vB r) []) := by
  unfold bytecode_FindType_1 at h
  refine fn_intro' 8 Try.func35 rfl rfl rfl (aw_seq (aw_region (aops_step1 rfl (st_box 0 rfl rfl rfl rfl) (s_sa ?_))))
  refine aops_nil (aw_seq (aw_region (s_fd ?_)))
  refine s_ld ?_
  refine aops_step1 rfl (ev_load_in rfl rfl rfl) (aops_step1 rfl (st_str_eq rfl rfl rfl) (s_sa ?_))
  refine aops_nil ?_
  cases Option.some.inj h
  exact aw_ret ⟨rfl, rv r1⟩
set_option maxHeartbeats 2000000 in
theorem zqbj (k : Nat) (a0 : List CodeType) (c1_0 : List UInt8) (r : Int) (h : zqbi k a0 c1_0 = some r) : FnC Try.prog 60 [.one (CV.ls c_CodeType a0), .one (.fn 35 [.cptr [.val (Sv c1_0)]])] [] (Det (vI r) []) := by
  unfold zqbi at h
  refine fn_intro' 19 Try.func60 rfl rfl rfl (aw_seq (aw_region (s_sa ?_)))
  refine aops_nil (aw_seq (aw_seq (aw_region (s_mv ?_))))
  refine s_ln ?_
  refine s_mv ?_
  refine aops_nil (aw_block ?_)
  obtain ⟨o1, ho1, h⟩ := Md.bind_s h
  refine aw_loop_x (ι := {p : Nat × Nat // zqbk k a0 c1_0 p.1 p.2 = some o1}) (fun p => (⟨19, [], [(0, .one (CV.ls c_CodeType a0)), (1, .one (.fn 35 [.cptr [.val (Sv c1_0)]])), (7, vI ((a0.length : Nat) : Int)), (8, vI ((p.1.2 : Nat) : Int))], []⟩ : ASt)) (fun p => p.1.1) ⟨(k, 0), ho1⟩ wk 0 (ε := Unit) (fun x => (⟨19, [], [], []⟩ : ASt)) (fun x => Sum.inl x = o1) (fun _ _ w h => aw_weak w h) ?_ ?_
  · intro x1_0 hI1
    subst hI1
    replace h := Md.onS_l h
    change AW _ _ (⟨19, [], [], []⟩ : ASt) _
    refine aw_seq (aw_region (s_sa ?_))
    refine aops_nil ?_
    cases Option.some.inj h
    exact aw_ret ⟨rfl, rv r1⟩
  intro p1
  obtain ⟨⟨n1, s1_0⟩, l1⟩ := p1
  change AW _ _ (⟨19, [], [(0, .one (CV.ls c_CodeType a0)), (1, .one (.fn 35 [.cptr [.val (Sv c1_0)]])), (7, vI ((a0.length : Nat) : Int)), (8, vI ((s1_0 : Nat) : Int))], []⟩ : ASt) _
  replace l1 : zqbk k a0 c1_0 n1 s1_0 = some o1 := l1
  rcases n1 with _ | n1
  · exact absurd (show none = some o1 from l1) nofun
  rw [zqbk] at l1
  refine aw_seq (aw_region (s_cm ?_))
  refine aops_nil (aw_seq ?_)
  refine aw_cond rfl (fun c2 => ?_) (fun c2 => ?_)
  · replace l1 := Md.cond_t l1 c2
    refine aw_skip (aw_seq (aw_block (aw_seq (aw_region (s_mv ?_)))))
    refine s_sa ?_
    refine aops_nil (aw_seq (aw_region ?_))
    iterate 3 refine s_mv ?_
    obtain ⟨g3, l1⟩ := Md.ifp_s l1
    refine aops_step1 rfl (ev_index_in rfl rfl rfl g3 rfl rfl) (aops_step1 rfl (ev_loads_in (ds := [_, _, _]) rfl rfl rfl rfl) ?_)
    obtain ⟨x4, hx4, l1⟩ := Md.bind_s l1
    refine aops_step1 rfl (ev_call_cap_v (bytecode_FindType_1_fn k (a0.getD s1_0 default) c1_0 x4 hx4) rfl rfl [] ai rfl rfl rfl (.inl rfl) rfl) (aops_nil ?_)
    refine aw_cond rfl (fun c5 => ?_) (fun c5 => ?_)
    · replace l1 := Md.cond_t l1 c5
      refine aw_seq (aw_region (s_mv ?_))
      refine s_sa ?_
      refine aops_nil ?_
      cases Option.some.inj l1
      replace h := Md.onS_r h
      cases Option.some.inj h
      exact aw_ret ⟨rfl, rv r1⟩
    replace l1 := Md.cond_f l1 c5
    refine aw_skip (aw_region ?_)
    obtain ⟨g6, l1⟩ := Md.ifp_s l1
    refine aops_step1 rfl (ev_add rfl rfl rfl (Md.nat_add g6)) (s_mv ?_)
    refine aops_nil ?_
    exact ⟨⟨(n1, (s1_0 + 1)), l1⟩, Nat.lt_succ_self _, wk⟩
  replace l1 := Md.cond_f l1 c2
  refine aw_exit ?_
  show ∃ _x : Unit, _ = _ ∧ Weak _ _
  exact ⟨(), Option.some.inj l1, wk⟩
set_option maxHeartbeats 2000000 in
theorem zqak (k : Nat) (a0 : List CodeType) (c1_0 : List UInt8) (r : Int × Bool) (h : zqaj k a0 c1_0 = some r) : FnC Try.prog 34 [.one (CV.ls c_CodeType a0), .one (.fn 35 [.cptr [.val (Sv c1_0)]])] [] (Det (.tup [vI r.1, vB r.2]) []) := by
  unfold zqaj at h
  refine fn_intro' 14 Try.func34 rfl rfl rfl (aw_seq (aw_region ?_))
  iterate 2 refine s_sa ?_
  refine aops_nil (aw_seq (aw_region ?_))
  iterate 2 refine s_mv ?_
  obtain ⟨x1, hx1, h⟩ := Md.bind_s h
  refine aops_step1 rfl (ev_call_v (zqbj k a0 c1_0 x1 hx1) rfl [] ai rfl rfl rfl (.inl rfl) rfl) (s_sa ?_)
  refine aops_nil (aw_seq (aw_region (s_mv ?_)))
  refine aops_step1 rfl (ev_max rfl rfl rfl (Md.int_max _ _)) (s_mv ?_)
  refine s_cm ?_
  iterate 2 refine s_sa ?_
  refine aops_nil ?_
  cases Option.some.inj h
  exact aw_ret ⟨rfl, rv (rn (.cons o1 (.cons o1 .nil)))⟩
set_option maxHeartbeats 2000000 in
theorem bytecode_FindType_fn (k : Nat) (a0 : Code) (a1 : List UInt8) (r : Int × Bool) (h : bytecode_FindType k a0 a1 = some r) : FnC Try.prog 12 [.agg [CV.ls c_CodeType a0.Types], .one (.val (Sv a1))] [] (Det (.tup [vI r.1, vB r.2]) []) := by
  unfold bytecode_FindType at h
  refine fn_intro' 12 Try.func12 rfl rfl rfl (aw_seq (aw_region (aops_step1 rfl (st_box 0 rfl rfl rfl rfl) (aops_step1 rfl (st_box 1 rfl rfl rfl rfl) ?_))))
  iterate 2 refine s_sa ?_
  refine aops_nil (aw_frbox 1 rfl (aw_seq (aw_region (s_fd ?_))))
  refine s_ld ?_
  refine aops_step1 rfl (ev_makeFunc [.cptr [.val (Sv a1)]] rfl rfl rfl) ?_
  obtain ⟨x1, hx1, h⟩ := Md.bind_s h
  refine aops_step1 rfl (ev_call_v (zqak k a0.Types a1 x1 hx1) rfl [] ai rfl rfl rfl (.inl rfl) rfl) ?_
  iterate 2 refine s_ex ?_
  iterate 2 refine s_sa ?_
  refine aops_nil ?_
  cases Option.some.inj h
  exact aw_ret ⟨rfl, rv (rn (.cons o1 (.cons o1 .nil)))⟩
end Md
end Go.Proofs.Ytclffekkjfhpdaa
