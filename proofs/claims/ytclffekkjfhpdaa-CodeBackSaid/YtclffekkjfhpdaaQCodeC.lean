import Derived.Test.YtclffekkjfhpdaaQMo
import Derived.Test.YtclffekkjfhpdaaQTy
import Derived.Test.YtclffekkjfhpdaaQAbsU
import Derived.Test.YtclffekkjfhpdaaQAbsF
import Derived.Test.YtclffekkjfhpdaaQAbsM
import Derived.Test.YtclffekkjfhpdaaQCodeB
namespace Go.Proofs.Ytclffekkjfhpdaa
open Go.ChangeShapes Go.WideShapes Go.RowKit
open Abs
set_option linter.unusedVariables false
set_option linter.unusedSimpArgs false
set_option maxRecDepth 10000
namespace Md
set_option maxHeartbeats 2000000 in
theorem zqab (k : Nat) (a0 : Int) (c1_0 : Code) (r : Bool) (h : zqaa k a0 c1_0 = some r) : FnC Try.prog 37 [vI a0, .one (.fn 38 [.cptr [CV.ls c_CodeType c1_0.Types]])] [] (Det (vB r) []) := by
  unfold zqaa at h
  refine fn_intro' 27 Try.func37 rfl rfl rfl (aw_seq (aw_region (s_sa ?_)))
  refine aops_nil (aw_seq (aw_region (aops_step1 rfl (ev_makeSet 0 rfl rfl) (s_sa ?_))))
  refine aops_nil (aw_seq (aw_seq (aw_region ?_)))
  iterate 2 refine s_mv ?_
  refine aops_nil (aw_block ?_)
  obtain ⟨o1, ho1, h⟩ := Md.bind_s h
  refine aw_loop_x (ι := {p : Nat × Nat × (List (List UInt8)) // zqac k a0 c1_0 p.1 p.2.1 p.2.2 = some o1}) (fun p => (⟨27, [], [(1, .one (.fn 38 [.cptr [CV.ls c_CodeType c1_0.Types]])), (5, .one (.itp 0)), (9, vI a0), (10, vI ((p.1.2.1 : Nat) : Int))], [(0, some (setB p.1.2.2))]⟩ : ASt)) (fun p => p.1.1) ⟨(k, 0, ([] : List (List UInt8))), ho1⟩ wk 0 (ε := Unit) (fun x => (⟨27, [], [], []⟩ : ASt)) (fun x => Sum.inl x = o1) (fun _ _ w h => aw_weak w h) ?_ ?_
  · intro x1_0 hI1
    subst hI1
    replace h := Md.onS_l h
    change AW _ _ (⟨27, [], [], []⟩ : ASt) _
    refine aw_seq (aw_region (s_sa ?_))
    refine aops_nil ?_
    cases Option.some.inj h
    exact aw_ret ⟨rfl, rv r1⟩
  intro p1
  obtain ⟨⟨n1, s1_0, s1_1⟩, l1⟩ := p1
  change AW _ _ (⟨27, [], [(1, .one (.fn 38 [.cptr [CV.ls c_CodeType c1_0.Types]])), (5, .one (.itp 0)), (9, vI a0), (10, vI ((s1_0 : Nat) : Int))], [(0, some (setB s1_1))]⟩ : ASt) _
  replace l1 : zqac k a0 c1_0 n1 s1_0 s1_1 = some o1 := l1
  rcases n1 with _ | n1
  · exact absurd (show none = some o1 from l1) nofun
  rw [zqac] at l1
  refine aw_seq (aw_region (s_cm ?_))
  refine aops_nil (aw_seq ?_)
  refine aw_cond rfl (fun c2 => ?_) (fun c2 => ?_)
  · replace l1 := Md.cond_t l1 c2
    refine aw_skip (aw_seq (aw_block (aw_seq (aw_region (s_mv ?_)))))
    refine s_sa ?_
    refine aops_nil (aw_seq (aw_region ?_))
    iterate 2 refine s_mv ?_
    obtain ⟨x3, hx3, l1⟩ := Md.bind_s l1
    refine aops_step1 rfl (ev_call_cap_v (bytecode_rightForm_1_fn k ((s1_0 : Nat) : Int) c1_0 x3 hx3) rfl rfl [] ai rfl rfl rfl (.inl rfl) rfl) (s_sa ?_)
    refine aops_nil (aw_seq (aw_seq (aw_region (s_mv ?_))))
    obtain ⟨x4, hx4, l1⟩ := Md.bind_s l1
    refine aops_step1 rfl (ev_call_v (lexer_IsName_fn k x3 x4 hx4) rfl [] ai rfl rfl rfl (.inl rfl) rfl) (s_nt ?_)
    refine s_mv ?_
    refine aops_mid 4 (⟨27, [], [(1, .one (.fn 38 [.cptr [CV.ls c_CodeType c1_0.Types]])), (5, .one (.itp 0)), (7, .one (.val (Sv x3))), (9, vI a0), (10, vI ((s1_0 : Nat) : Int)), (23, vB ((!x4) || (decide (x3 ∈ s1_1))))], [(0, some (setB s1_1))]⟩ : ASt) ?_ ?_
    · rcases Md.bool_or ((!x4)) with q5 | q5
      · skip
        iterate 3 refine np q5 ?_
        refine s_py q5 ?_
        refine aops_nil ?_
        exact wq q5
      iterate 2 refine y_mv q5 ?_
      refine aops_yes rfl rfl rfl rfl q5 (ev_lookSet rfl rfl rfl Try.underlying110 Try.underlying9 rfl) (s_pn q5 ?_)
      refine aops_nil ?_
      exact wq q5
    refine aops_nil ?_
    refine aw_cond rfl (fun c6 => ?_) (fun c6 => ?_)
    · replace l1 := Md.cond_t l1 c6
      refine aw_seq (aw_region (s_sa ?_))
      refine aops_nil ?_
      cases Option.some.inj l1
      replace h := Md.onS_r h
      cases Option.some.inj h
      exact aw_ret ⟨rfl, rv r1⟩
    replace l1 := Md.cond_f l1 c6
    refine aw_skip (aw_region ?_)
    iterate 2 refine s_mv ?_
    obtain ⟨g7, l1⟩ := Md.ifp_s l1
    refine aops_step1 rfl (ev_putSet rfl rfl rfl rfl g7 Try.underlying110 Try.underlying9 rfl) (aops_nil (aw_region ?_))
    obtain ⟨g8, l1⟩ := Md.ifp_s l1
    refine aops_step1 rfl (ev_add rfl rfl rfl (Md.nat_add g8)) (s_mv ?_)
    refine aops_nil ?_
    exact ⟨⟨(n1, (s1_0 + 1), (s1_1 ++ [x3])), l1⟩, Nat.lt_succ_self _, wk⟩
  replace l1 := Md.cond_f l1 c2
  refine aw_exit ?_
  show ∃ _x : Unit, _ = _ ∧ Weak _ _
  exact ⟨(), Option.some.inj l1, wk⟩
set_option maxHeartbeats 2000000 in
theorem zqae (k : Nat) (a0 : Int) (c1_0 : CodeType) (r : Bool) (h : zqad k a0 c1_0 = some r) : FnC Try.prog 37 [vI a0, .one (.fn 62 [.cptr [.val (Sv c1_0.Name), CV.ls c_Field c1_0.Fields, CV.ls c_CodeMethod c1_0.Methods]])] [] (Det (vB r) []) := by
  unfold zqad at h
  refine fn_intro' 27 Try.func37 rfl rfl rfl (aw_seq (aw_region (s_sa ?_)))
  refine aops_nil (aw_seq (aw_region (aops_step1 rfl (ev_makeSet 0 rfl rfl) (s_sa ?_))))
  refine aops_nil (aw_seq (aw_seq (aw_region ?_)))
  iterate 2 refine s_mv ?_
  refine aops_nil (aw_block ?_)
  obtain ⟨o1, ho1, h⟩ := Md.bind_s h
  refine aw_loop_x (ι := {p : Nat × Nat × (List (List UInt8)) // zqaf k a0 c1_0 p.1 p.2.1 p.2.2 = some o1}) (fun p => (⟨27, [], [(1, .one (.fn 62 [.cptr [.val (Sv c1_0.Name), CV.ls c_Field c1_0.Fields, CV.ls c_CodeMethod c1_0.Methods]])), (5, .one (.itp 0)), (9, vI a0), (10, vI ((p.1.2.1 : Nat) : Int))], [(0, some (setB p.1.2.2))]⟩ : ASt)) (fun p => p.1.1) ⟨(k, 0, ([] : List (List UInt8))), ho1⟩ wk 0 (ε := Unit) (fun x => (⟨27, [], [], []⟩ : ASt)) (fun x => Sum.inl x = o1) (fun _ _ w h => aw_weak w h) ?_ ?_
  · intro x1_0 hI1
    subst hI1
    replace h := Md.onS_l h
    change AW _ _ (⟨27, [], [], []⟩ : ASt) _
    refine aw_seq (aw_region (s_sa ?_))
    refine aops_nil ?_
    cases Option.some.inj h
    exact aw_ret ⟨rfl, rv r1⟩
  intro p1
  obtain ⟨⟨n1, s1_0, s1_1⟩, l1⟩ := p1
  change AW _ _ (⟨27, [], [(1, .one (.fn 62 [.cptr [.val (Sv c1_0.Name), CV.ls c_Field c1_0.Fields, CV.ls c_CodeMethod c1_0.Methods]])), (5, .one (.itp 0)), (9, vI a0), (10, vI ((s1_0 : Nat) : Int))], [(0, some (setB s1_1))]⟩ : ASt) _
  replace l1 : zqaf k a0 c1_0 n1 s1_0 s1_1 = some o1 := l1
  rcases n1 with _ | n1
  · exact absurd (show none = some o1 from l1) nofun
  rw [zqaf] at l1
  refine aw_seq (aw_region (s_cm ?_))
  refine aops_nil (aw_seq ?_)
  refine aw_cond rfl (fun c2 => ?_) (fun c2 => ?_)
  · replace l1 := Md.cond_t l1 c2
    refine aw_skip (aw_seq (aw_block (aw_seq (aw_region (s_mv ?_)))))
    refine s_sa ?_
    refine aops_nil (aw_seq (aw_region ?_))
    iterate 2 refine s_mv ?_
    obtain ⟨x3, hx3, l1⟩ := Md.bind_s l1
    refine aops_step1 rfl (ev_call_cap_v (bytecode_validType_1_fn k ((s1_0 : Nat) : Int) c1_0 x3 hx3) rfl rfl [] ai rfl rfl rfl (.inl rfl) rfl) (s_sa ?_)
    refine aops_nil (aw_seq (aw_seq (aw_region (s_mv ?_))))
    obtain ⟨x4, hx4, l1⟩ := Md.bind_s l1
    refine aops_step1 rfl (ev_call_v (lexer_IsName_fn k x3 x4 hx4) rfl [] ai rfl rfl rfl (.inl rfl) rfl) (s_nt ?_)
    refine s_mv ?_
    refine aops_mid 4 (⟨27, [], [(1, .one (.fn 62 [.cptr [.val (Sv c1_0.Name), CV.ls c_Field c1_0.Fields, CV.ls c_CodeMethod c1_0.Methods]])), (5, .one (.itp 0)), (7, .one (.val (Sv x3))), (9, vI a0), (10, vI ((s1_0 : Nat) : Int)), (23, vB ((!x4) || (decide (x3 ∈ s1_1))))], [(0, some (setB s1_1))]⟩ : ASt) ?_ ?_
    · rcases Md.bool_or ((!x4)) with q5 | q5
      · skip
        iterate 3 refine np q5 ?_
        refine s_py q5 ?_
        refine aops_nil ?_
        exact wq q5
      iterate 2 refine y_mv q5 ?_
      refine aops_yes rfl rfl rfl rfl q5 (ev_lookSet rfl rfl rfl Try.underlying110 Try.underlying9 rfl) (s_pn q5 ?_)
      refine aops_nil ?_
      exact wq q5
    refine aops_nil ?_
    refine aw_cond rfl (fun c6 => ?_) (fun c6 => ?_)
    · replace l1 := Md.cond_t l1 c6
      refine aw_seq (aw_region (s_sa ?_))
      refine aops_nil ?_
      cases Option.some.inj l1
      replace h := Md.onS_r h
      cases Option.some.inj h
      exact aw_ret ⟨rfl, rv r1⟩
    replace l1 := Md.cond_f l1 c6
    refine aw_skip (aw_region ?_)
    iterate 2 refine s_mv ?_
    obtain ⟨g7, l1⟩ := Md.ifp_s l1
    refine aops_step1 rfl (ev_putSet rfl rfl rfl rfl g7 Try.underlying110 Try.underlying9 rfl) (aops_nil (aw_region ?_))
    obtain ⟨g8, l1⟩ := Md.ifp_s l1
    refine aops_step1 rfl (ev_add rfl rfl rfl (Md.nat_add g8)) (s_mv ?_)
    refine aops_nil ?_
    exact ⟨⟨(n1, (s1_0 + 1), (s1_1 ++ [x3])), l1⟩, Nat.lt_succ_self _, wk⟩
  replace l1 := Md.cond_f l1 c2
  refine aw_exit ?_
  show ∃ _x : Unit, _ = _ ∧ Weak _ _
  exact ⟨(), Option.some.inj l1, wk⟩
set_option maxHeartbeats 2000000 in
theorem zqah (k : Nat) (a0 : Int) (c1_0 : CodeType) (r : Bool) (h : zqag k a0 c1_0 = some r) : FnC Try.prog 37 [vI a0, .one (.fn 63 [.cptr [.val (Sv c1_0.Name), CV.ls c_Field c1_0.Fields, CV.ls c_CodeMethod c1_0.Methods]])] [] (Det (vB r) []) := by
  unfold zqag at h
  refine fn_intro' 27 Try.func37 rfl rfl rfl (aw_seq (aw_region (s_sa ?_)))
  refine aops_nil (aw_seq (aw_region (aops_step1 rfl (ev_makeSet 0 rfl rfl) (s_sa ?_))))
  refine aops_nil (aw_seq (aw_seq (aw_region ?_)))
  iterate 2 refine s_mv ?_
  refine aops_nil (aw_block ?_)
  obtain ⟨o1, ho1, h⟩ := Md.bind_s h
  refine aw_loop_x (ι := {p : Nat × Nat × (List (List UInt8)) // zqai k a0 c1_0 p.1 p.2.1 p.2.2 = some o1}) (fun p => (⟨27, [], [(1, .one (.fn 63 [.cptr [.val (Sv c1_0.Name), CV.ls c_Field c1_0.Fields, CV.ls c_CodeMethod c1_0.Methods]])), (5, .one (.itp 0)), (9, vI a0), (10, vI ((p.1.2.1 : Nat) : Int))], [(0, some (setB p.1.2.2))]⟩ : ASt)) (fun p => p.1.1) ⟨(k, 0, ([] : List (List UInt8))), ho1⟩ wk 0 (ε := Unit) (fun x => (⟨27, [], [], []⟩ : ASt)) (fun x => Sum.inl x = o1) (fun _ _ w h => aw_weak w h) ?_ ?_
  · intro x1_0 hI1
    subst hI1
    replace h := Md.onS_l h
    change AW _ _ (⟨27, [], [], []⟩ : ASt) _
    refine aw_seq (aw_region (s_sa ?_))
    refine aops_nil ?_
    cases Option.some.inj h
    exact aw_ret ⟨rfl, rv r1⟩
  intro p1
  obtain ⟨⟨n1, s1_0, s1_1⟩, l1⟩ := p1
  change AW _ _ (⟨27, [], [(1, .one (.fn 63 [.cptr [.val (Sv c1_0.Name), CV.ls c_Field c1_0.Fields, CV.ls c_CodeMethod c1_0.Methods]])), (5, .one (.itp 0)), (9, vI a0), (10, vI ((s1_0 : Nat) : Int))], [(0, some (setB s1_1))]⟩ : ASt) _
  replace l1 : zqai k a0 c1_0 n1 s1_0 s1_1 = some o1 := l1
  rcases n1 with _ | n1
  · exact absurd (show none = some o1 from l1) nofun
  rw [zqai] at l1
  refine aw_seq (aw_region (s_cm ?_))
  refine aops_nil (aw_seq ?_)
  refine aw_cond rfl (fun c2 => ?_) (fun c2 => ?_)
  · replace l1 := Md.cond_t l1 c2
    refine aw_skip (aw_seq (aw_block (aw_seq (aw_region (s_mv ?_)))))
    refine s_sa ?_
    refine aops_nil (aw_seq (aw_region ?_))
    iterate 2 refine s_mv ?_
    obtain ⟨x3, hx3, l1⟩ := Md.bind_s l1
    refine aops_step1 rfl (ev_call_cap_v (bytecode_validType_2_fn k ((s1_0 : Nat) : Int) c1_0 x3 hx3) rfl rfl [] ai rfl rfl rfl (.inl rfl) rfl) (s_sa ?_)
    refine aops_nil (aw_seq (aw_seq (aw_region (s_mv ?_))))
    obtain ⟨x4, hx4, l1⟩ := Md.bind_s l1
    refine aops_step1 rfl (ev_call_v (lexer_IsName_fn k x3 x4 hx4) rfl [] ai rfl rfl rfl (.inl rfl) rfl) (s_nt ?_)
    refine s_mv ?_
    refine aops_mid 4 (⟨27, [], [(1, .one (.fn 63 [.cptr [.val (Sv c1_0.Name), CV.ls c_Field c1_0.Fields, CV.ls c_CodeMethod c1_0.Methods]])), (5, .one (.itp 0)), (7, .one (.val (Sv x3))), (9, vI a0), (10, vI ((s1_0 : Nat) : Int)), (23, vB ((!x4) || (decide (x3 ∈ s1_1))))], [(0, some (setB s1_1))]⟩ : ASt) ?_ ?_
    · rcases Md.bool_or ((!x4)) with q5 | q5
      · skip
        iterate 3 refine np q5 ?_
        refine s_py q5 ?_
        refine aops_nil ?_
        exact wq q5
      iterate 2 refine y_mv q5 ?_
      refine aops_yes rfl rfl rfl rfl q5 (ev_lookSet rfl rfl rfl Try.underlying110 Try.underlying9 rfl) (s_pn q5 ?_)
      refine aops_nil ?_
      exact wq q5
    refine aops_nil ?_
    refine aw_cond rfl (fun c6 => ?_) (fun c6 => ?_)
    · replace l1 := Md.cond_t l1 c6
      refine aw_seq (aw_region (s_sa ?_))
      refine aops_nil ?_
      cases Option.some.inj l1
      replace h := Md.onS_r h
      cases Option.some.inj h
      exact aw_ret ⟨rfl, rv r1⟩
    replace l1 := Md.cond_f l1 c6
    refine aw_skip (aw_region ?_)
    iterate 2 refine s_mv ?_
    obtain ⟨g7, l1⟩ := Md.ifp_s l1
    refine aops_step1 rfl (ev_putSet rfl rfl rfl rfl g7 Try.underlying110 Try.underlying9 rfl) (aops_nil (aw_region ?_))
    obtain ⟨g8, l1⟩ := Md.ifp_s l1
    refine aops_step1 rfl (ev_add rfl rfl rfl (Md.nat_add g8)) (s_mv ?_)
    refine aops_nil ?_
    exact ⟨⟨(n1, (s1_0 + 1), (s1_1 ++ [x3])), l1⟩, Nat.lt_succ_self _, wk⟩
  replace l1 := Md.cond_f l1 c2
  refine aw_exit ?_
  show ∃ _x : Unit, _ = _ ∧ Weak _ _
  exact ⟨(), Option.some.inj l1, wk⟩
set_option maxHeartbeats 2000000 in
theorem bytecode_validType_fn (k : Nat) (a0 : CodeType) (r : Bool) (h : bytecode_validType k a0 = some r) : FnC Try.prog 41 [.agg (c_CodeType a0)] [] (Det (vB r) []) := by
  unfold bytecode_validType at h
  refine fn_intro' 31 Try.func41 rfl rfl rfl (aw_seq (aw_region (aops_step1 rfl (st_box 0 rfl rfl rfl rfl) (s_sa ?_))))
  refine aops_nil (aw_seq (aw_frbox 0 rfl (aw_seq (aw_region (aops_step1 rfl (ev_field_in rfl rfl rfl) (aops_step1 rfl (ev_load_in rfl rfl rfl) (s_ln ?_)))))))
  refine s_cm ?_
  refine s_mv ?_
  refine aops_mid 5 (⟨31, [], [(1, .one (.cptr [.val (Sv a0.Name), CV.ls c_Field a0.Fields, CV.ls c_CodeMethod a0.Methods])), (12, vB ((decide (((a0.Fields.length : Nat) : Int) > 8)) || (decide (((a0.Methods.length : Nat) : Int) > 16))))], []⟩ : ASt) ?_ ?_
  · rcases Md.bool_or ((decide (((a0.Fields.length : Nat) : Int) > 8))) with q1 | q1
    · skip
      iterate 4 refine np q1 ?_
      refine s_py q1 ?_
      refine aops_nil ?_
      exact wq q1
    refine aops_yes rfl rfl rfl rfl q1 (ev_field_in rfl rfl rfl) (aops_yes rfl rfl rfl rfl q1 (ev_load_in rfl rfl rfl) (y_ln q1 ?_))
    refine y_cm q1 ?_
    refine s_pn q1 ?_
    refine aops_nil ?_
    exact wq q1
  refine aops_nil ?_
  refine aw_cond rfl (fun c2 => ?_) (fun c2 => ?_)
  · replace h := Md.cond_t h c2
    refine aw_seq (aw_region (s_sa ?_))
    refine aops_nil ?_
    cases Option.some.inj h
    exact aw_ret ⟨rfl, rv r1⟩
  replace h := Md.cond_f h c2
  refine aw_skip (aw_seq (aw_seq (aw_region (aops_step1 rfl (ev_field_in rfl rfl rfl) (aops_step1 rfl (ev_load_in rfl rfl rfl) (s_ln ?_))))))
  refine aops_step1 rfl (ev_makeFunc [.cptr [.val (Sv a0.Name), CV.ls c_Field a0.Fields, CV.ls c_CodeMethod a0.Methods]] rfl rfl rfl) ?_
  obtain ⟨x3, hx3, h⟩ := Md.bind_s h
  refine aops_step1 rfl (ev_call_v (zqae k ((a0.Fields.length : Nat) : Int) a0 x3 hx3) rfl [] ai rfl rfl rfl (.inl rfl) rfl) (s_nt ?_)
  refine s_mv ?_
  obtain ⟨o4, j4, h⟩ := Md.bind_s h
  refine aops_cut 7 (ε := Bool) (fun x4 => (⟨31, [], [(1, .one (.cptr [.val (Sv a0.Name), CV.ls c_Field a0.Fields, CV.ls c_CodeMethod a0.Methods])), (26, vB x4)], []⟩ : ASt)) (fun x4 => x4 = o4) ?_ ?_
  · intro x4 hI4
    subst hI4
    change AOps _ _ _ (⟨31, [], [(1, .one (.cptr [.val (Sv a0.Name), CV.ls c_Field a0.Fields, CV.ls c_CodeMethod a0.Methods])), (26, vB x4)], []⟩ : ASt) _
    refine aops_nil ?_
    refine aw_cond rfl (fun c5 => ?_) (fun c5 => ?_)
    · replace h := Md.cond_t h c5
      refine aw_seq (aw_region (s_sa ?_))
      refine aops_nil ?_
      cases Option.some.inj h
      exact aw_ret ⟨rfl, rv r1⟩
    replace h := Md.cond_f h c5
    refine aw_skip (aw_seq (aw_region (aops_step1 rfl (ev_field_in rfl rfl rfl) (aops_step1 rfl (ev_load_in rfl rfl rfl) ?_))))
    obtain ⟨x6, hx6, h⟩ := Md.bind_s h
    refine aops_step1 rfl (ev_call_v (zqar k a0.Fields x6 hx6) rfl [] ai rfl rfl rfl (.inl rfl) rfl) (s_nt ?_)
    refine s_sa ?_
    refine aops_nil ?_
    cases Option.some.inj h
    exact aw_ret ⟨rfl, rv r1⟩
  rcases Md.bool_or ((!x3)) with q4 | q4
  · replace j4 := Md.cond_t j4 q4
    iterate 6 refine np q4 ?_
    refine s_py q4 ?_
    refine aops_nil ?_
    show ∃ _x : Bool, _ = _ ∧ Weak _ _
    exact ⟨true, Option.some.inj j4, wk⟩
  replace j4 := Md.cond_f j4 q4
  refine aops_yes rfl rfl rfl rfl q4 (ev_field_in rfl rfl rfl) (aops_yes rfl rfl rfl rfl q4 (ev_load_in rfl rfl rfl) (y_ln q4 ?_))
  refine aops_yes rfl rfl rfl rfl q4 (ev_makeFunc [.cptr [.val (Sv a0.Name), CV.ls c_Field a0.Fields, CV.ls c_CodeMethod a0.Methods]] rfl rfl rfl) ?_
  obtain ⟨x7, hx7, j4⟩ := Md.bind_s j4
  refine aops_yes rfl rfl rfl rfl q4 (ev_call_v (zqah k ((a0.Methods.length : Nat) : Int) a0 x7 hx7) rfl [] ai rfl rfl rfl (.inl rfl) rfl) (y_nt q4 ?_)
  refine s_pn q4 ?_
  refine aops_nil ?_
  show ∃ _x : Bool, _ = _ ∧ Weak _ _
  exact ⟨(!x7), Option.some.inj j4, wk⟩
set_option maxHeartbeats 2000000 in
theorem bytecode_rightForm_2_fn (k : Nat) (a0 : CodeType) (r : Bool) (h : bytecode_rightForm_2 k a0 = some r) : FnC Try.prog 40 [.agg (c_CodeType a0)] [] (Det (vB r) []) := by
  unfold bytecode_rightForm_2 at h
  refine fn_intro' 6 Try.func40 rfl rfl rfl (aw_seq (aw_region (aops_step1 rfl (st_box 0 rfl rfl rfl rfl) (s_sa ?_))))
  refine aops_nil (aw_seq (aw_region (s_ls [_, _, _] ?_)))
  obtain ⟨x1, hx1, h⟩ := Md.bind_s h
  refine aops_step1 rfl (ev_call_v (bytecode_validType_fn k a0 x1 hx1) rfl [] ai rfl rfl rfl (.inl rfl) rfl) (s_nt ?_)
  refine s_sa ?_
  refine aops_nil ?_
  cases Option.some.inj h
  exact aw_ret ⟨rfl, rv r1⟩
set_option maxHeartbeats 2000000 in
theorem zqbm (k : Nat) (a0 : List CodeType) (r : Int) (h : zqbl k a0 = some r) : FnC Try.prog 60 [.one (CV.ls c_CodeType a0), .one (.fn 40 [])] [] (Det (vI r) []) := by
  unfold zqbl at h
  refine fn_intro' 19 Try.func60 rfl rfl rfl (aw_seq (aw_region (s_sa ?_)))
  refine aops_nil (aw_seq (aw_seq (aw_region (s_mv ?_))))
  refine s_ln ?_
  refine s_mv ?_
  refine aops_nil (aw_block ?_)
  obtain ⟨o1, ho1, h⟩ := Md.bind_s h
  refine aw_loop_x (ι := {p : Nat × Nat // zqbn k a0 p.1 p.2 = some o1}) (fun p => (⟨19, [], [(0, .one (CV.ls c_CodeType a0)), (1, .one (.fn 40 [])), (7, vI ((a0.length : Nat) : Int)), (8, vI ((p.1.2 : Nat) : Int))], []⟩ : ASt)) (fun p => p.1.1) ⟨(k, 0), ho1⟩ wk 0 (ε := Unit) (fun x => (⟨19, [], [], []⟩ : ASt)) (fun x => Sum.inl x = o1) (fun _ _ w h => aw_weak w h) ?_ ?_
  · intro x1_0 hI1
    subst hI1
    replace h := Md.onS_l h
    change AW _ _ (⟨19, [], [], []⟩ : ASt) _
    refine aw_seq (aw_region (s_sa ?_))
    refine aops_nil ?_
    cases Option.some.inj h
    exact aw_ret ⟨rfl, rv r1⟩
  intro p1
  obtain ⟨⟨n1, s1_0⟩, l1⟩ := p1
  change AW _ _ (⟨19, [], [(0, .one (CV.ls c_CodeType a0)), (1, .one (.fn 40 [])), (7, vI ((a0.length : Nat) : Int)), (8, vI ((s1_0 : Nat) : Int))], []⟩ : ASt) _
  replace l1 : zqbn k a0 n1 s1_0 = some o1 := l1
  rcases n1 with _ | n1
  · exact absurd (show none = some o1 from l1) nofun
  rw [zqbn] at l1
  refine aw_seq (aw_region (s_cm ?_))
  refine aops_nil (aw_seq ?_)
  refine aw_cond rfl (fun c2 => ?_) (fun c2 => ?_)
  · replace l1 := Md.cond_t l1 c2
    refine aw_skip (aw_seq (aw_block (aw_seq (aw_region (s_mv ?_)))))
    refine s_sa ?_
    refine aops_nil (aw_seq (aw_region ?_))
    iterate 3 refine s_mv ?_
    obtain ⟨g3, l1⟩ := Md.ifp_s l1
    refine aops_step1 rfl (ev_index_in rfl rfl rfl g3 rfl rfl) (aops_step1 rfl (ev_loads_in (ds := [_, _, _]) rfl rfl rfl rfl) ?_)
    obtain ⟨x4, hx4, l1⟩ := Md.bind_s l1
    refine aops_step1 rfl (ev_callee rfl (ev_call_v (bytecode_rightForm_2_fn k (a0.getD s1_0 default) x4 hx4) rfl [] ai rfl rfl rfl (.inl rfl) rfl)) (aops_nil ?_)
    refine aw_cond rfl (fun c5 => ?_) (fun c5 => ?_)
    · replace l1 := Md.cond_t l1 c5
      refine aw_seq (aw_region (s_mv ?_))
      refine s_sa ?_
      refine aops_nil ?_
      cases Option.some.inj l1
      replace h := Md.onS_r h
      cases Option.some.inj h
      exact aw_ret ⟨rfl, rv r1⟩
    replace l1 := Md.cond_f l1 c5
    refine aw_skip (aw_region ?_)
    obtain ⟨g6, l1⟩ := Md.ifp_s l1
    refine aops_step1 rfl (ev_add rfl rfl rfl (Md.nat_add g6)) (s_mv ?_)
    refine aops_nil ?_
    exact ⟨⟨(n1, (s1_0 + 1)), l1⟩, Nat.lt_succ_self _, wk⟩
  replace l1 := Md.cond_f l1 c2
  refine aw_exit ?_
  show ∃ _x : Unit, _ = _ ∧ Weak _ _
  exact ⟨(), Option.some.inj l1, wk⟩
set_option maxHeartbeats 2000000 in
theorem zqap (k : Nat) (a0 : List CodeType) (r : Bool) (h : zqao k a0 = some r) : FnC Try.prog 39 [.one (CV.ls c_CodeType a0), .one (.fn 40 [])] [] (Det (vB r) []) := by
  unfold zqao at h
  refine fn_intro' 9 Try.func39 rfl rfl rfl (aw_seq (aw_region (s_sa ?_)))
  refine aops_nil (aw_seq (aw_region ?_))
  iterate 2 refine s_mv ?_
  obtain ⟨x1, hx1, h⟩ := Md.bind_s h
  refine aops_step1 rfl (ev_call_v (zqbm k a0 x1 hx1) rfl [] ai rfl rfl rfl (.inl rfl) rfl) (s_cm ?_)
  refine s_sa ?_
  refine aops_nil ?_
  cases Option.some.inj h
  exact aw_ret ⟨rfl, rv r1⟩
set_option maxHeartbeats 2000000 in
theorem bytecode_rightForm_fn (k : Nat) (a0 : Code) (r : Bool) (h : bytecode_rightForm k a0 = some r) : FnC Try.prog 16 [.agg [CV.ls c_CodeType a0.Types]] [] (Det (vB r) []) := by
  unfold bytecode_rightForm at h
  refine fn_intro' 55 Try.func16 rfl rfl rfl (aw_seq (aw_region (aops_step1 rfl (st_box 0 rfl rfl rfl rfl) (s_sa ?_))))
  refine aops_nil (aw_seq (aw_frbox 0 rfl (aw_seq (aw_region (aops_step1 rfl (ev_field_in rfl rfl rfl) (aops_step1 rfl (ev_load_in rfl rfl rfl) (s_ln ?_)))))))
  refine s_cm ?_
  refine s_mv ?_
  obtain ⟨o1, j1, h⟩ := Md.bind_s h
  refine aops_cut 7 (ε := Bool) (fun x1 => (⟨55, [], [(1, .one (.cptr [CV.ls c_CodeType a0.Types])), (19, vB x1)], []⟩ : ASt)) (fun x1 => x1 = o1) ?_ ?_
  · intro x1 hI1
    subst hI1
    change AOps _ _ _ (⟨55, [], [(1, .one (.cptr [CV.ls c_CodeType a0.Types])), (19, vB x1)], []⟩ : ASt) _
    refine s_mv ?_
    obtain ⟨o2, j2, h⟩ := Md.bind_s h
    refine aops_cut 4 (ε := Bool) (fun x2 => (⟨55, [], [(1, .one (.cptr [CV.ls c_CodeType a0.Types])), (24, vB x2)], []⟩ : ASt)) (fun x2 => x2 = o2) ?_ ?_
    · intro x2 hI2
      subst hI2
      change AOps _ _ _ (⟨55, [], [(1, .one (.cptr [CV.ls c_CodeType a0.Types])), (24, vB x2)], []⟩ : ASt) _
      refine aops_nil ?_
      refine aw_cond rfl (fun c3 => ?_) (fun c3 => ?_)
      · replace h := Md.cond_t h c3
        refine aw_seq (aw_region (s_sa ?_))
        refine aops_nil ?_
        cases Option.some.inj h
        exact aw_ret ⟨rfl, rv r1⟩
      replace h := Md.cond_f h c3
      refine aw_skip (aw_seq (aw_region (s_sa ?_)))
      refine aops_nil (aw_seq (aw_seq (aw_region (aops_step1 rfl (ev_field_in rfl rfl rfl) (aops_step1 rfl (ev_load_in rfl rfl rfl) (s_ln ?_))))))
      refine s_mv ?_
      refine aops_nil (aw_block ?_)
      obtain ⟨o4, ho4, h⟩ := Md.bind_s h
      refine aw_loop_x (ι := {p : Nat × Nat × Nat // bytecode_rightForm_loop1 k a0 p.1 p.2.1 p.2.2 = some o4}) (fun p => (⟨55, [], [(1, .one (.cptr [CV.ls c_CodeType a0.Types])), (3, vI ((p.1.2.1 : Nat) : Int)), (26, .one (CV.ls c_CodeType a0.Types)), (27, vI ((a0.Types.length : Nat) : Int)), (28, vI ((p.1.2.2 : Nat) : Int))], []⟩ : ASt)) (fun p => p.1.1) ⟨(k, 0, 0), ho4⟩ wk 0 (ε := Unit) (fun x => (⟨55, [], [], []⟩ : ASt)) (fun x => Sum.inl x = o4) (fun _ _ w h => aw_weak w h) ?_ ?_
      · intro x4_0 hI4
        subst hI4
        replace h := Md.onS_l h
        change AW _ _ (⟨55, [], [], []⟩ : ASt) _
        refine aw_seq (aw_region (s_sa ?_))
        refine aops_nil ?_
        cases Option.some.inj h
        exact aw_ret ⟨rfl, rv r1⟩
      intro p4
      obtain ⟨⟨n4, s4_0, s4_1⟩, l4⟩ := p4
      change AW _ _ (⟨55, [], [(1, .one (.cptr [CV.ls c_CodeType a0.Types])), (3, vI ((s4_0 : Nat) : Int)), (26, .one (CV.ls c_CodeType a0.Types)), (27, vI ((a0.Types.length : Nat) : Int)), (28, vI ((s4_1 : Nat) : Int))], []⟩ : ASt) _
      replace l4 : bytecode_rightForm_loop1 k a0 n4 s4_0 s4_1 = some o4 := l4
      rcases n4 with _ | n4
      · exact absurd (show none = some o4 from l4) nofun
      rw [bytecode_rightForm_loop1] at l4
      refine aw_seq (aw_region (s_cm ?_))
      refine aops_nil (aw_seq ?_)
      refine aw_cond rfl (fun c5 => ?_) (fun c5 => ?_)
      · replace l4 := Md.cond_t l4 c5
        refine aw_skip ?_
        obtain ⟨o6, j6, l4⟩ := Md.bind_s l4
        refine aw_cut (ε := Nat) (fun x => (⟨55, [], [(1, .one (.cptr [CV.ls c_CodeType a0.Types])), (3, vI ((x : Nat) : Int)), (26, .one (CV.ls c_CodeType a0.Types)), (27, vI ((a0.Types.length : Nat) : Int)), (28, vI ((s4_1 : Nat) : Int))], []⟩ : ASt)) (fun x => Sum.inl x = o6) ?_ ?_
        · intro x6_0 hI6
          subst hI6
          replace l4 := Md.onS_l l4
          change AW _ _ (⟨55, [], [(1, .one (.cptr [CV.ls c_CodeType a0.Types])), (3, vI ((x6_0 : Nat) : Int)), (26, .one (CV.ls c_CodeType a0.Types)), (27, vI ((a0.Types.length : Nat) : Int)), (28, vI ((s4_1 : Nat) : Int))], []⟩ : ASt) _
          refine aw_region ?_
          obtain ⟨g7, l4⟩ := Md.ifp_s l4
          refine aops_step1 rfl (ev_add rfl rfl rfl (Md.nat_add g7)) (s_mv ?_)
          refine aops_nil ?_
          exact ⟨⟨(n4, x6_0, (s4_1 + 1)), l4⟩, Nat.lt_succ_self _, wk⟩
        refine aw_block (aw_seq (aw_region ?_))
        obtain ⟨g8, j6⟩ := Md.ifp_s j6
        refine aops_step1 rfl (ev_index_in rfl rfl rfl g8 rfl rfl) (aops_step1 rfl (ev_loads_in (ds := [_, _, _]) rfl rfl rfl rfl) ?_)
        refine aops_step1 rfl (st_alloc (cs := [.val (Sv []), .val (.slice none 0 0), .val (.slice none 0 0)]) 1 rfl rfl rfl rfl rfl) (s_st [_, _, _] ?_)
        refine aops_nil (aw_seq (aw_region (s_fd ?_)))
        refine s_ld ?_
        refine s_ln ?_
        refine s_mv ?_
        refine aops_nil (aw_block ?_)
        obtain ⟨o9, ho9, j6⟩ := Md.bind_s j6
        refine aw_loop (ι := {p : Nat × Nat × Nat // bytecode_rightForm_loop2 k a0 s4_1 p.1 p.2.1 p.2.2 = some o9}) (fun p => (⟨55, [], [(1, .one (.cptr [CV.ls c_CodeType a0.Types])), (3, vI ((p.1.2.1 : Nat) : Int)), (5, .one (.ptr 1 0)), (26, .one (CV.ls c_CodeType a0.Types)), (27, vI ((a0.Types.length : Nat) : Int)), (28, vI ((s4_1 : Nat) : Int)), (33, .one (CV.ls c_CodeMethod ((a0.Types.getD s4_1 default).Methods))), (34, vI ((((a0.Types.getD s4_1 default).Methods).length : Nat) : Int)), (35, vI ((p.1.2.2 : Nat) : Int))], [(1, some (.box (c_CodeType (a0.Types.getD s4_1 default))))]⟩ : ASt)) (fun p => p.1.1) ⟨(k, s4_0, 0), ho9⟩ wk ?_
        intro p9
        obtain ⟨⟨n9, s9_0, s9_1⟩, l9⟩ := p9
        change AW _ _ (⟨55, [], [(1, .one (.cptr [CV.ls c_CodeType a0.Types])), (3, vI ((s9_0 : Nat) : Int)), (5, .one (.ptr 1 0)), (26, .one (CV.ls c_CodeType a0.Types)), (27, vI ((a0.Types.length : Nat) : Int)), (28, vI ((s4_1 : Nat) : Int)), (33, .one (CV.ls c_CodeMethod ((a0.Types.getD s4_1 default).Methods))), (34, vI ((((a0.Types.getD s4_1 default).Methods).length : Nat) : Int)), (35, vI ((s9_1 : Nat) : Int))], [(1, some (.box (c_CodeType (a0.Types.getD s4_1 default))))]⟩ : ASt) _
        replace l9 : bytecode_rightForm_loop2 k a0 s4_1 n9 s9_0 s9_1 = some o9 := l9
        rcases n9 with _ | n9
        · exact absurd (show none = some o9 from l9) nofun
        rw [bytecode_rightForm_loop2] at l9
        refine aw_seq (aw_region (s_cm ?_))
        refine aops_nil (aw_seq ?_)
        refine aw_cond rfl (fun c10 => ?_) (fun c10 => ?_)
        · replace l9 := Md.cond_t l9 c10
          refine aw_skip (aw_seq (aw_block (aw_seq (aw_region ?_))))
          obtain ⟨g11, l9⟩ := Md.ifp_s l9
          refine aops_step1 rfl (ev_index_in rfl rfl rfl g11 rfl rfl) (aops_step1 rfl (ev_loads_in (ds := [_, _, _, _, _]) rfl rfl rfl rfl) ?_)
          refine aops_step1 rfl (st_alloc (cs := [.val (Sv []), .val (.slice none 0 0), cI 0, .val (.slice none 0 0), .val (.slice none 0 0)]) 2 rfl rfl rfl rfl rfl) (s_st [_, _, _, _, _] ?_)
          refine aops_nil (aw_seq (aw_region (s_mv ?_)))
          refine s_fd ?_
          refine s_ld ?_
          refine s_ln ?_
          obtain ⟨g12, l9⟩ := Md.ifp_s l9
          refine aops_step1 rfl (ev_add rfl rfl rfl (Md.nat_add g12)) (s_sa ?_)
          refine aops_nil (aw_seq (aw_region (s_mv ?_)))
          refine s_cm ?_
          refine s_mv ?_
          obtain ⟨o13, j13, l9⟩ := Md.bind_s l9
          refine aops_cut 6 (ε := Bool) (fun x13 => (⟨55, [], [(1, .one (.cptr [CV.ls c_CodeType a0.Types])), (3, vI (((s9_0 + (((((a0.Types.getD s4_1 default).Methods).getD s9_1 default).Code).length)) : Nat) : Int)), (5, .one (.ptr 1 0)), (26, .one (CV.ls c_CodeType a0.Types)), (27, vI ((a0.Types.length : Nat) : Int)), (28, vI ((s4_1 : Nat) : Int)), (33, .one (CV.ls c_CodeMethod ((a0.Types.getD s4_1 default).Methods))), (34, vI ((((a0.Types.getD s4_1 default).Methods).length : Nat) : Int)), (35, vI ((s9_1 : Nat) : Int)), (52, vB x13)], [(1, some (.box (c_CodeType (a0.Types.getD s4_1 default))))]⟩ : ASt)) (fun x13 => x13 = o13) ?_ ?_
          · intro x13 hI13
            subst hI13
            change AOps _ _ _ (⟨55, [], [(1, .one (.cptr [CV.ls c_CodeType a0.Types])), (3, vI (((s9_0 + (((((a0.Types.getD s4_1 default).Methods).getD s9_1 default).Code).length)) : Nat) : Int)), (5, .one (.ptr 1 0)), (26, .one (CV.ls c_CodeType a0.Types)), (27, vI ((a0.Types.length : Nat) : Int)), (28, vI ((s4_1 : Nat) : Int)), (33, .one (CV.ls c_CodeMethod ((a0.Types.getD s4_1 default).Methods))), (34, vI ((((a0.Types.getD s4_1 default).Methods).length : Nat) : Int)), (35, vI ((s9_1 : Nat) : Int)), (52, vB x13)], [(1, some (.box (c_CodeType (a0.Types.getD s4_1 default))))]⟩ : ASt) _
            refine aops_nil ?_
            refine aw_cond rfl (fun c14 => ?_) (fun c14 => ?_)
            · replace l9 := Md.cond_t l9 c14
              refine aw_seq (aw_region (s_sa ?_))
              refine aops_nil ?_
              cases Option.some.inj l9
              replace j6 := Md.onS_r j6
              cases Option.some.inj j6
              replace l4 := Md.onS_r l4
              cases Option.some.inj l4
              replace h := Md.onS_r h
              cases Option.some.inj h
              exact aw_ret ⟨rfl, rv r1⟩
            replace l9 := Md.cond_f l9 c14
            refine aw_skip (aw_region ?_)
            obtain ⟨g15, l9⟩ := Md.ifp_s l9
            refine aops_step1 rfl (ev_add rfl rfl rfl (Md.nat_add g15)) (s_mv ?_)
            refine aops_nil ?_
            exact ⟨⟨(n9, (s9_0 + (((((a0.Types.getD s4_1 default).Methods).getD s9_1 default).Code).length)), (s9_1 + 1)), l9⟩, Nat.lt_succ_self _, wk⟩
          rcases Md.bool_or ((decide ((((s9_0 + (((((a0.Types.getD s4_1 default).Methods).getD s9_1 default).Code).length)) : Nat) : Int) > 3000))) with q13 | q13
          · replace j13 := Md.cond_t j13 q13
            iterate 5 refine np q13 ?_
            refine s_py q13 ?_
            refine aops_nil ?_
            show ∃ _x : Bool, _ = _ ∧ Weak _ _
            exact ⟨true, Option.some.inj j13, wk⟩
          replace j13 := Md.cond_f j13 q13
          refine aops_yes rfl rfl rfl rfl q13 (ev_loads_in (ds := [_]) rfl rfl rfl rfl) (aops_yes rfl rfl rfl rfl q13 (ev_loads (ds := [_, _, _]) rfl rfl rfl rfl rfl) ?_)
          refine aops_yes rfl rfl rfl rfl q13 (ev_loads (ds := [_, _, _, _, _]) rfl rfl rfl rfl rfl) ?_
          obtain ⟨x16, hx16, j13⟩ := Md.bind_s j13
          refine aops_yes rfl rfl rfl rfl q13 (ev_call_v (bytecode_validMethod_fn k a0 (a0.Types.getD s4_1 default) (((a0.Types.getD s4_1 default).Methods).getD s9_1 default) x16 hx16) rfl [] ai rfl rfl rfl (.inl rfl) rfl) (y_nt q13 ?_)
          refine s_pn q13 ?_
          refine aops_nil ?_
          show ∃ _x : Bool, _ = _ ∧ Weak _ _
          exact ⟨(!x16), Option.some.inj j13, wk⟩
        replace l9 := Md.cond_f l9 c10
        refine aw_exit ?_
        have e9 := Option.some.inj l9
        subst e9
        replace j6 := Md.onS_l j6
        show ∃ _x : Nat, _ = _ ∧ Weak _ _
        exact ⟨s9_0, Option.some.inj j6, wk⟩
      replace l4 := Md.cond_f l4 c5
      refine aw_exit ?_
      show ∃ _x : Unit, _ = _ ∧ Weak _ _
      exact ⟨(), Option.some.inj l4, wk⟩
    rcases Md.bool_or (x1) with q2 | q2
    · replace j2 := Md.cond_t j2 q2
      iterate 3 refine np q2 ?_
      refine s_py q2 ?_
      refine aops_nil ?_
      show ∃ _x : Bool, _ = _ ∧ Weak _ _
      exact ⟨true, Option.some.inj j2, wk⟩
    replace j2 := Md.cond_f j2 q2
    refine aops_yes rfl rfl rfl rfl q2 (ev_field_in rfl rfl rfl) (aops_yes rfl rfl rfl rfl q2 (ev_load_in rfl rfl rfl) ?_)
    obtain ⟨x17, hx17, j2⟩ := Md.bind_s j2
    refine aops_yes rfl rfl rfl rfl q2 (ev_call_v (zqap k a0.Types x17 hx17) rfl [] ai rfl rfl rfl (.inl rfl) rfl) (s_pn q2 ?_)
    refine aops_nil ?_
    show ∃ _x : Bool, _ = _ ∧ Weak _ _
    exact ⟨x17, Option.some.inj j2, wk⟩
  rcases Md.bool_or ((decide (((a0.Types.length : Nat) : Int) > 8))) with q1 | q1
  · replace j1 := Md.cond_t j1 q1
    iterate 6 refine np q1 ?_
    refine s_py q1 ?_
    refine aops_nil ?_
    show ∃ _x : Bool, _ = _ ∧ Weak _ _
    exact ⟨true, Option.some.inj j1, wk⟩
  replace j1 := Md.cond_f j1 q1
  refine aops_yes rfl rfl rfl rfl q1 (ev_field_in rfl rfl rfl) (aops_yes rfl rfl rfl rfl q1 (ev_load_in rfl rfl rfl) (y_ln q1 ?_))
  refine aops_yes rfl rfl rfl rfl q1 (ev_makeFunc [.cptr [CV.ls c_CodeType a0.Types]] rfl rfl rfl) ?_
  obtain ⟨x18, hx18, j1⟩ := Md.bind_s j1
  refine aops_yes rfl rfl rfl rfl q1 (ev_call_v (zqab k ((a0.Types.length : Nat) : Int) a0 x18 hx18) rfl [] ai rfl rfl rfl (.inl rfl) rfl) (y_nt q1 ?_)
  refine s_pn q1 ?_
  refine aops_nil ?_
  show ∃ _x : Bool, _ = _ ∧ Weak _ _
  exact ⟨(!x18), Option.some.inj j1, wk⟩
end Md
end Go.Proofs.Ytclffekkjfhpdaa
