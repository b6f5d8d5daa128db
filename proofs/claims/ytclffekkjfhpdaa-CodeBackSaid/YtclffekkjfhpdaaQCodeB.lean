import Derived.Test.YtclffekkjfhpdaaQMo
import Derived.Test.YtclffekkjfhpdaaQTy
import Derived.Test.YtclffekkjfhpdaaQAbsS
import Derived.Test.YtclffekkjfhpdaaQAbsF
import Derived.Test.YtclffekkjfhpdaaQCodeA
namespace Go.Proofs.Ytclffekkjfhpdaa
open Go.ChangeShapes Go.WideShapes Go.RowKit
open Abs
set_option linter.unusedVariables false
set_option linter.unusedSimpArgs false
set_option maxRecDepth 10000
namespace Md
def c_Value (x : Value) : List CV := [cI x.Kind, cI x.N, .val (Sv x.S), CV.ls c_Int x.I, CV.ls c_Str x.L]
set_option maxHeartbeats 2000000 in
theorem wire_ValidValue_fn (k : Nat) (a0 : Value) (r : Bool) (h : wire_ValidValue k a0 = some r) : FnC Try.prog 47 [.agg (c_Value a0)] [] (Det (vB r) []) := by
  unfold wire_ValidValue at h
  refine fn_intro' 86 Try.func47 rfl rfl rfl (aw_seq (aw_region (aops_step1 rfl (st_box 0 rfl rfl rfl rfl) (s_sa ?_))))
  refine aops_nil (aw_seq (aw_seq (aw_region (s_fd ?_))))
  refine s_ld ?_
  refine s_cm ?_
  refine s_mv ?_
  refine aops_mid 4 (⟨86, [], [(1, .one (.ptr 0 0)), (12, vB ((decide (a0.Kind < 0)) || (decide (a0.Kind > 5))))], [(0, some (.box (c_Value a0)))]⟩ : ASt) ?_ ?_
  · rcases Md.bool_or ((decide (a0.Kind < 0))) with q1 | q1
    · skip
      iterate 3 refine np q1 ?_
      refine s_py q1 ?_
      refine aops_nil ?_
      exact wq q1
    refine y_fd q1 ?_
    refine y_ld q1 ?_
    refine y_cm q1 ?_
    refine s_pn q1 ?_
    refine aops_nil ?_
    exact wq q1
  refine aops_nil ?_
  refine aw_cond rfl (fun c2 => ?_) (fun c2 => ?_)
  · replace h := Md.cond_t h c2
    refine aw_seq (aw_region (s_sa ?_))
    refine aops_nil ?_
    cases Option.some.inj h
    exact aw_ret ⟨rfl, rv r1⟩
  replace h := Md.cond_f h c2
  refine aw_skip (aw_seq (aw_block (aw_seq (aw_region (s_fd ?_)))))
  refine s_ld ?_
  refine s_cm ?_
  refine s_mv ?_
  refine aops_mid 4 (⟨86, [], [(1, .one (.ptr 0 0)), (21, vB ((a0.N != 0) && (a0.Kind != 1)))], [(0, some (.box (c_Value a0)))]⟩ : ASt) ?_ ?_
  · rcases Md.bool_or ((a0.N != 0)) with q3 | q3
    · skip
      refine y_fd q3 ?_
      refine y_ld q3 ?_
      refine y_cm q3 ?_
      refine s_py q3 ?_
      refine aops_nil ?_
      exact wq q3
    iterate 3 refine np q3 ?_
    refine s_pn q3 ?_
    refine aops_nil ?_
    exact wq q3
  refine s_mv ?_
  refine aops_mid 9 (⟨86, [], [(1, .one (.ptr 0 0)), (31, vB (((a0.N != 0) && (a0.Kind != 1)) && ((a0.Kind != 2) || (a0.N != 1))))], [(0, some (.box (c_Value a0)))]⟩ : ASt) ?_ ?_
  · rcases Md.bool_or (((a0.N != 0) && (a0.Kind != 1))) with q4 | q4
    · skip
      refine y_fd q4 ?_
      refine y_ld q4 ?_
      refine y_cm q4 ?_
      refine y_mv q4 ?_
      refine aops_mid 4 (⟨86, [], [(1, .one (.ptr 0 0)), (22, vB ((a0.N != 0) && (a0.Kind != 1))), (30, vB ((a0.Kind != 2) || (a0.N != 1)))], [(0, some (.box (c_Value a0)))]⟩ : ASt) ?_ ?_
      · rcases Md.bool_or ((a0.Kind != 2)) with q5 | q5
        · skip
          iterate 3 refine np q5 ?_
          refine aops_yes rfl rfl rfl rfl q4 (st_pick_yes rfl (by first | rfl | exact q5) rfl rfl) (aops_nil ?_)
          exact wq q5
        refine y_fd q5 ?_
        refine y_ld q5 ?_
        refine y_cm q5 ?_
        refine aops_yes rfl rfl rfl rfl q4 (st_pick_no rfl (by first | rfl | exact q5) rfl rfl) (aops_nil ?_)
        exact wq q5
      change AOps _ _ _ (⟨86, [], [(1, .one (.ptr 0 0)), (22, vB ((a0.N != 0) && (a0.Kind != 1))), (30, vB ((a0.Kind != 2) || (a0.N != 1)))], [(0, some (.box (c_Value a0)))]⟩ : ASt) _
      refine s_py q4 ?_
      refine aops_nil ?_
      exact wq q4
    iterate 4 refine np q4 ?_
    iterate 3 refine aops_und rfl rfl rfl rfl rfl ?_
    refine np q4 ?_
    refine s_pn q4 ?_
    refine aops_nil ?_
    exact wq q4
  refine s_sa ?_
  refine aops_nil ?_
  refine aw_cond rfl (fun c6 => ?_) (fun c6 => ?_)
  · replace h := Md.cond_t h c6
    refine aw_seq (aw_region (s_sa ?_))
    refine aops_nil ?_
    cases Option.some.inj h
    exact aw_ret ⟨rfl, rv r1⟩
  replace h := Md.cond_f h c6
  refine aw_seq (aw_seq (aw_region (s_fd ?_)))
  refine s_ld ?_
  refine aops_step1 rfl (st_str_ne rfl rfl rfl) (s_mv ?_)
  refine aops_mid 4 (⟨86, [], [(1, .one (.ptr 0 0)), (40, vB ((!(decide (a0.S = ([] : List UInt8)))) && (a0.Kind != 3)))], [(0, some (.box (c_Value a0)))]⟩ : ASt) ?_ ?_
  · rcases Md.bool_or ((!(decide (a0.S = ([] : List UInt8))))) with q7 | q7
    · skip
      refine y_fd q7 ?_
      refine y_ld q7 ?_
      refine y_cm q7 ?_
      refine s_py q7 ?_
      refine aops_nil ?_
      exact wq q7
    iterate 3 refine np q7 ?_
    refine s_pn q7 ?_
    refine aops_nil ?_
    exact wq q7
  refine s_sa ?_
  refine aops_nil ?_
  refine aw_cond rfl (fun c8 => ?_) (fun c8 => ?_)
  · replace h := Md.cond_t h c8
    refine aw_skip (aw_yes rfl (c8) (aw_seq (aw_region (s_sa ?_))))
    refine aops_nil ?_
    cases Option.some.inj h
    exact aw_ret ⟨rfl, rv r1⟩
  replace h := Md.cond_f h c8
  refine aw_seq (aw_region (s_fd ?_))
  refine s_ld ?_
  refine s_ln ?_
  refine s_cm ?_
  refine s_mv ?_
  refine aops_mid 4 (⟨86, [], [(1, .one (.ptr 0 0)), (32, vB ((!(decide (a0.S = ([] : List UInt8)))) && (a0.Kind != 3))), (49, vB ((decide (((a0.I.length : Nat) : Int) > 0)) && (a0.Kind != 4)))], [(0, some (.box (c_Value a0)))]⟩ : ASt) ?_ ?_
  · rcases Md.bool_or ((decide (((a0.I.length : Nat) : Int) > 0))) with q9 | q9
    · skip
      refine y_fd q9 ?_
      refine y_ld q9 ?_
      refine y_cm q9 ?_
      refine s_py q9 ?_
      refine aops_nil ?_
      exact wq q9
    iterate 3 refine np q9 ?_
    refine s_pn q9 ?_
    refine aops_nil ?_
    exact wq q9
  refine s_sa ?_
  refine aops_nil ?_
  refine aw_cond rfl (fun c10 => ?_) (fun c10 => ?_)
  · replace h := Md.cond_t h c10
    refine aw_skip (aw_yes rfl (c10) (aw_seq (aw_region (s_sa ?_))))
    refine aops_nil ?_
    cases Option.some.inj h
    exact aw_ret ⟨rfl, rv r1⟩
  replace h := Md.cond_f h c10
  refine aw_region (s_fd ?_)
  refine s_ld ?_
  refine s_ln ?_
  refine s_cm ?_
  refine s_mv ?_
  refine aops_mid 4 (⟨86, [], [(1, .one (.ptr 0 0)), (32, vB ((decide (((a0.I.length : Nat) : Int) > 0)) && (a0.Kind != 4))), (58, vB ((decide (((a0.L.length : Nat) : Int) > 0)) && (a0.Kind != 5)))], [(0, some (.box (c_Value a0)))]⟩ : ASt) ?_ ?_
  · rcases Md.bool_or ((decide (((a0.L.length : Nat) : Int) > 0))) with q11 | q11
    · skip
      refine y_fd q11 ?_
      refine y_ld q11 ?_
      refine y_cm q11 ?_
      refine s_py q11 ?_
      refine aops_nil ?_
      exact wq q11
    iterate 3 refine np q11 ?_
    refine s_pn q11 ?_
    refine aops_nil ?_
    exact wq q11
  refine s_sa ?_
  refine aops_nil ?_
  refine aw_cond rfl (fun c12 => ?_) (fun c12 => ?_)
  · replace h := Md.cond_t h c12
    refine aw_seq (aw_region (s_sa ?_))
    refine aops_nil ?_
    cases Option.some.inj h
    exact aw_ret ⟨rfl, rv r1⟩
  replace h := Md.cond_f h c12
  refine aw_skip (aw_seq (aw_seq (aw_region (s_fd ?_))))
  refine s_ld ?_
  refine aops_step1 rfl (st_len_str rfl rfl) (s_cm ?_)
  refine s_mv ?_
  refine aops_mid 5 (⟨86, [], [(1, .one (.ptr 0 0)), (68, vB ((decide (((a0.S.length : Nat) : Int) > 64)) || (decide (((a0.I.length : Nat) : Int) > 16))))], [(0, some (.box (c_Value a0)))]⟩ : ASt) ?_ ?_
  · rcases Md.bool_or ((decide (((a0.S.length : Nat) : Int) > 64))) with q13 | q13
    · skip
      iterate 4 refine np q13 ?_
      refine s_py q13 ?_
      refine aops_nil ?_
      exact wq q13
    refine y_fd q13 ?_
    refine y_ld q13 ?_
    refine y_ln q13 ?_
    refine y_cm q13 ?_
    refine s_pn q13 ?_
    refine aops_nil ?_
    exact wq q13
  refine s_mv ?_
  refine aops_mid 5 (⟨86, [], [(1, .one (.ptr 0 0)), (74, vB (((decide (((a0.S.length : Nat) : Int) > 64)) || (decide (((a0.I.length : Nat) : Int) > 16))) || (decide (((a0.L.length : Nat) : Int) > 16))))], [(0, some (.box (c_Value a0)))]⟩ : ASt) ?_ ?_
  · rcases Md.bool_or (((decide (((a0.S.length : Nat) : Int) > 64)) || (decide (((a0.I.length : Nat) : Int) > 16)))) with q14 | q14
    · skip
      iterate 4 refine np q14 ?_
      refine s_py q14 ?_
      refine aops_nil ?_
      exact wq q14
    refine y_fd q14 ?_
    refine y_ld q14 ?_
    refine y_ln q14 ?_
    refine y_cm q14 ?_
    refine s_pn q14 ?_
    refine aops_nil ?_
    exact wq q14
  refine aops_nil ?_
  refine aw_cond rfl (fun c15 => ?_) (fun c15 => ?_)
  · replace h := Md.cond_t h c15
    refine aw_seq (aw_region (s_sa ?_))
    refine aops_nil ?_
    cases Option.some.inj h
    exact aw_ret ⟨rfl, rv r1⟩
  replace h := Md.cond_f h c15
  refine aw_skip (aw_seq (aw_seq (aw_region (s_fd ?_))))
  refine s_ld ?_
  refine s_ln ?_
  refine s_mv ?_
  refine aops_nil (aw_block ?_)
  obtain ⟨o16, ho16, h⟩ := Md.bind_s h
  refine aw_loop_x (ι := {p : Nat × Nat // wire_ValidValue_loop1 k a0 p.1 p.2 = some o16}) (fun p => (⟨86, [], [(76, .one (CV.ls c_Str a0.L)), (77, vI ((a0.L.length : Nat) : Int)), (78, vI ((p.1.2 : Nat) : Int))], []⟩ : ASt)) (fun p => p.1.1) ⟨(k, 0), ho16⟩ wk 1 (ε := Unit) (fun x => (⟨86, [], [], []⟩ : ASt)) (fun x => Sum.inl x = o16) (fun _ _ w h => aw_weak w h) ?_ ?_
  · intro x16_0 hI16
    subst hI16
    replace h := Md.onS_l h
    change AW _ _ (⟨86, [], [], []⟩ : ASt) _
    refine aw_seq (aw_region (s_sa ?_))
    refine aops_nil ?_
    cases Option.some.inj h
    exact aw_ret ⟨rfl, rv r1⟩
  intro p16
  obtain ⟨⟨n16, s16_0⟩, l16⟩ := p16
  change AW _ _ (⟨86, [], [(76, .one (CV.ls c_Str a0.L)), (77, vI ((a0.L.length : Nat) : Int)), (78, vI ((s16_0 : Nat) : Int))], []⟩ : ASt) _
  replace l16 : wire_ValidValue_loop1 k a0 n16 s16_0 = some o16 := l16
  rcases n16 with _ | n16
  · exact absurd (show none = some o16 from l16) nofun
  rw [wire_ValidValue_loop1] at l16
  refine aw_seq (aw_region (s_cm ?_))
  refine aops_nil (aw_seq ?_)
  refine aw_cond rfl (fun c17 => ?_) (fun c17 => ?_)
  · replace l16 := Md.cond_t l16 c17
    refine aw_skip (aw_seq (aw_block (aw_seq (aw_region ?_))))
    obtain ⟨g18, l16⟩ := Md.ifp_s l16
    refine aops_step1 rfl (ev_index_in rfl rfl rfl g18 rfl rfl) (aops_step1 rfl (ev_load_in rfl rfl rfl) (s_sa ?_))
    refine aops_nil (aw_seq (aw_region (s_mv ?_)))
    refine aops_step1 rfl (st_len_str rfl rfl) (s_cm ?_)
    refine aops_nil ?_
    refine aw_cond rfl (fun c19 => ?_) (fun c19 => ?_)
    · replace l16 := Md.cond_t l16 c19
      refine aw_seq (aw_region (s_sa ?_))
      refine aops_nil ?_
      cases Option.some.inj l16
      replace h := Md.onS_r h
      cases Option.some.inj h
      exact aw_ret ⟨rfl, rv r1⟩
    replace l16 := Md.cond_f l16 c19
    refine aw_skip (aw_region ?_)
    obtain ⟨g20, l16⟩ := Md.ifp_s l16
    refine aops_step1 rfl (ev_add rfl rfl rfl (Md.nat_add g20)) (s_mv ?_)
    refine aops_nil ?_
    exact ⟨⟨(n16, (s16_0 + 1)), l16⟩, Nat.lt_succ_self _, wk⟩
  replace l16 := Md.cond_f l16 c17
  refine aw_exit ?_
  show ∃ _x : Unit, _ = _ ∧ Weak _ _
  exact ⟨(), Option.some.inj l16, wk⟩
set_option maxHeartbeats 2000000 in
theorem bytecode_validType_3_fn (k : Nat) (a0 : Field) (r : Bool) (h : bytecode_validType_3 k a0 = some r) : FnC Try.prog 65 [.agg (c_Field a0)] [] (Det (vB r) []) := by
  unfold bytecode_validType_3 at h
  refine fn_intro' 21 Try.func65 rfl rfl rfl (aw_seq (aw_region (aops_step1 rfl (st_box 0 rfl rfl rfl rfl) (s_sa ?_))))
  refine aops_nil (aw_seq (aw_region (s_fd ?_)))
  refine s_ld ?_
  obtain ⟨x1, hx1, h⟩ := Md.bind_s h
  refine aops_step1 rfl (ev_call_v (bytecode_kindOf_fn k a0.Kind x1 hx1) rfl [] ai rfl rfl rfl (.inl rfl) rfl) (s_nt ?_)
  refine s_mv ?_
  refine aops_mid 7 (⟨21, [], [(1, .one (.ptr 0 0)), (2, vB false), (14, vB ((!x1) || (a0.Init.Kind != a0.Kind)))], [(0, some (.box (c_Field a0)))]⟩ : ASt) ?_ ?_
  · rcases Md.bool_or ((!x1)) with q2 | q2
    · skip
      iterate 6 refine np q2 ?_
      refine s_py q2 ?_
      refine aops_nil ?_
      exact wq q2
    iterate 2 refine y_fd q2 ?_
    refine y_ld q2 ?_
    refine y_fd q2 ?_
    refine y_ld q2 ?_
    refine y_cm q2 ?_
    refine s_pn q2 ?_
    refine aops_nil ?_
    exact wq q2
  refine s_mv ?_
  obtain ⟨o3, j3, h⟩ := Md.bind_s h
  refine aops_cut 5 (ε := Bool) (fun x3 => (⟨21, [], [(2, vB false), (20, vB x3)], []⟩ : ASt)) (fun x3 => x3 = o3) ?_ ?_
  · intro x3 hI3
    subst hI3
    change AOps _ _ _ (⟨21, [], [(2, vB false), (20, vB x3)], []⟩ : ASt) _
    refine s_sa ?_
    refine aops_nil ?_
    cases Option.some.inj h
    exact aw_ret ⟨rfl, rv r1⟩
  rcases Md.bool_or (((!x1) || (a0.Init.Kind != a0.Kind))) with q3 | q3
  · replace j3 := Md.cond_t j3 q3
    iterate 4 refine np q3 ?_
    refine s_py q3 ?_
    refine aops_nil ?_
    show ∃ _x : Bool, _ = _ ∧ Weak _ _
    exact ⟨true, Option.some.inj j3, wk⟩
  replace j3 := Md.cond_f j3 q3
  refine y_fd q3 ?_
  refine aops_yes rfl rfl rfl rfl q3 (ev_loads (ds := [_, _, _, _, _]) rfl rfl rfl rfl rfl) ?_
  obtain ⟨x4, hx4, j3⟩ := Md.bind_s j3
  refine aops_yes rfl rfl rfl rfl q3 (ev_call_v (wire_ValidValue_fn k a0.Init x4 hx4) rfl [] ai rfl rfl rfl (.inl rfl) rfl) (y_nt q3 ?_)
  refine s_pn q3 ?_
  refine aops_nil ?_
  show ∃ _x : Bool, _ = _ ∧ Weak _ _
  exact ⟨(!x4), Option.some.inj j3, wk⟩
set_option maxHeartbeats 2000000 in
theorem zqbp (k : Nat) (a0 : List Field) (r : Int) (h : zqbo k a0 = some r) : FnC Try.prog 78 [.one (CV.ls c_Field a0), .one (.fn 65 [])] [] (Det (vI r) []) := by
  unfold zqbo at h
  refine fn_intro' 19 Try.func78 rfl rfl rfl (aw_seq (aw_region (s_sa ?_)))
  refine aops_nil (aw_seq (aw_seq (aw_region (s_mv ?_))))
  refine s_ln ?_
  refine s_mv ?_
  refine aops_nil (aw_block ?_)
  obtain ⟨o1, ho1, h⟩ := Md.bind_s h
  refine aw_loop_x (ι := {p : Nat × Nat // zqbq k a0 p.1 p.2 = some o1}) (fun p => (⟨19, [], [(0, .one (CV.ls c_Field a0)), (1, .one (.fn 65 [])), (7, vI ((a0.length : Nat) : Int)), (8, vI ((p.1.2 : Nat) : Int))], []⟩ : ASt)) (fun p => p.1.1) ⟨(k, 0), ho1⟩ wk 0 (ε := Unit) (fun x => (⟨19, [], [], []⟩ : ASt)) (fun x => Sum.inl x = o1) (fun _ _ w h => aw_weak w h) ?_ ?_
  · intro x1_0 hI1
    subst hI1
    replace h := Md.onS_l h
    change AW _ _ (⟨19, [], [], []⟩ : ASt) _
    refine aw_seq (aw_region (s_sa ?_))
    refine aops_nil ?_
    cases Option.some.inj h
    exact aw_ret ⟨rfl, rv r1⟩
  intro p1
  obtain ⟨⟨n1, s1_0⟩, l1⟩ := p1
  change AW _ _ (⟨19, [], [(0, .one (CV.ls c_Field a0)), (1, .one (.fn 65 [])), (7, vI ((a0.length : Nat) : Int)), (8, vI ((s1_0 : Nat) : Int))], []⟩ : ASt) _
  replace l1 : zqbq k a0 n1 s1_0 = some o1 := l1
  rcases n1 with _ | n1
  · exact absurd (show none = some o1 from l1) nofun
  rw [zqbq] at l1
  refine aw_seq (aw_region (s_cm ?_))
  refine aops_nil (aw_seq ?_)
  refine aw_cond rfl (fun c2 => ?_) (fun c2 => ?_)
  · replace l1 := Md.cond_t l1 c2
    refine aw_skip (aw_seq (aw_block (aw_seq (aw_region (s_mv ?_)))))
    refine s_sa ?_
    refine aops_nil (aw_seq (aw_region ?_))
    iterate 3 refine s_mv ?_
    obtain ⟨g3, l1⟩ := Md.ifp_s l1
    refine aops_step1 rfl (ev_index_in rfl rfl rfl g3 rfl rfl) (aops_step1 rfl (ev_loads_in (ds := [_, _, _, _, _, _, _]) rfl rfl rfl rfl) ?_)
    obtain ⟨x4, hx4, l1⟩ := Md.bind_s l1
    refine aops_step1 rfl (ev_callee rfl (ev_call_v (bytecode_validType_3_fn k (a0.getD s1_0 default) x4 hx4) rfl [] ai rfl rfl rfl (.inl rfl) rfl)) (aops_nil ?_)
    refine aw_cond rfl (fun c5 => ?_) (fun c5 => ?_)
    · replace l1 := Md.cond_t l1 c5
      refine aw_seq (aw_region (s_mv ?_))
      refine s_sa ?_
      refine aops_nil ?_
      cases Option.some.inj l1
      replace h := Md.onS_r h
      cases Option.some.inj h
      exact aw_ret ⟨rfl, rv r1⟩
    replace l1 := Md.cond_f l1 c5
    refine aw_skip (aw_region ?_)
    obtain ⟨g6, l1⟩ := Md.ifp_s l1
    refine aops_step1 rfl (ev_add rfl rfl rfl (Md.nat_add g6)) (s_mv ?_)
    refine aops_nil ?_
    exact ⟨⟨(n1, (s1_0 + 1)), l1⟩, Nat.lt_succ_self _, wk⟩
  replace l1 := Md.cond_f l1 c2
  refine aw_exit ?_
  show ∃ _x : Unit, _ = _ ∧ Weak _ _
  exact ⟨(), Option.some.inj l1, wk⟩
set_option maxHeartbeats 2000000 in
theorem zqar (k : Nat) (a0 : List Field) (r : Bool) (h : zqaq k a0 = some r) : FnC Try.prog 64 [.one (CV.ls c_Field a0), .one (.fn 65 [])] [] (Det (vB r) []) := by
  unfold zqaq at h
  refine fn_intro' 9 Try.func64 rfl rfl rfl (aw_seq (aw_region (s_sa ?_)))
  refine aops_nil (aw_seq (aw_region ?_))
  iterate 2 refine s_mv ?_
  obtain ⟨x1, hx1, h⟩ := Md.bind_s h
  refine aops_step1 rfl (ev_call_v (zqbp k a0 x1 hx1) rfl [] ai rfl rfl rfl (.inl rfl) rfl) (s_cm ?_)
  refine s_sa ?_
  refine aops_nil ?_
  cases Option.some.inj h
  exact aw_ret ⟨rfl, rv r1⟩
set_option maxHeartbeats 2000000 in
theorem slices_Equal_fn (k : Nat) (a0 : List Int) (a1 : List Int) (r : Bool) (h : slices_Equal k a0 a1 = some r) : FnC Try.prog 28 [.one (CV.ls c_Int a0), .one (CV.ls c_Int a1)] [] (Det (vB r) []) := by
  unfold slices_Equal at h
  refine fn_intro' 26 Try.func28 rfl rfl rfl (aw_seq (aw_region (s_sa ?_)))
  refine aops_nil (aw_seq (aw_seq (aw_region (s_mv ?_))))
  refine s_ln ?_
  refine s_mv ?_
  refine s_ln ?_
  refine s_cm ?_
  refine aops_nil ?_
  refine aw_cond rfl (fun c1 => ?_) (fun c1 => ?_)
  · replace h := Md.cond_t h c1
    refine aw_seq (aw_region (s_sa ?_))
    refine aops_nil ?_
    cases Option.some.inj h
    exact aw_ret ⟨rfl, rv r1⟩
  replace h := Md.cond_f h c1
  refine aw_skip (aw_seq (aw_seq (aw_region (s_mv ?_))))
  refine s_ln ?_
  refine s_mv ?_
  refine aops_nil (aw_block ?_)
  obtain ⟨o2, ho2, h⟩ := Md.bind_s h
  refine aw_loop_x (ι := {p : Nat × Nat // slices_Equal_loop1 k a0 a1 p.1 p.2 = some o2}) (fun p => (⟨26, [], [(0, .one (CV.ls c_Int a0)), (1, .one (CV.ls c_Int a1)), (12, vI ((a0.length : Nat) : Int)), (13, vI ((p.1.2 : Nat) : Int))], []⟩ : ASt)) (fun p => p.1.1) ⟨(k, 0), ho2⟩ wk 0 (ε := Unit) (fun x => (⟨26, [], [], []⟩ : ASt)) (fun x => Sum.inl x = o2) (fun _ _ w h => aw_weak w h) ?_ ?_
  · intro x2_0 hI2
    subst hI2
    replace h := Md.onS_l h
    change AW _ _ (⟨26, [], [], []⟩ : ASt) _
    refine aw_seq (aw_region (s_sa ?_))
    refine aops_nil ?_
    cases Option.some.inj h
    exact aw_ret ⟨rfl, rv r1⟩
  intro p2
  obtain ⟨⟨n2, s2_0⟩, l2⟩ := p2
  change AW _ _ (⟨26, [], [(0, .one (CV.ls c_Int a0)), (1, .one (CV.ls c_Int a1)), (12, vI ((a0.length : Nat) : Int)), (13, vI ((s2_0 : Nat) : Int))], []⟩ : ASt) _
  replace l2 : slices_Equal_loop1 k a0 a1 n2 s2_0 = some o2 := l2
  rcases n2 with _ | n2
  · exact absurd (show none = some o2 from l2) nofun
  rw [slices_Equal_loop1] at l2
  refine aw_seq (aw_region (s_cm ?_))
  refine aops_nil (aw_seq ?_)
  refine aw_cond rfl (fun c3 => ?_) (fun c3 => ?_)
  · replace l2 := Md.cond_t l2 c3
    refine aw_skip (aw_seq (aw_block (aw_seq (aw_region (s_mv ?_)))))
    refine s_sa ?_
    refine aops_nil ?_
    obtain ⟨g4, l2⟩ := Md.ifp_s l2
    obtain ⟨g5, l2⟩ := Md.ifp_s l2
    refine aw_seq ?_
    apply aw_draw 8 ((⟨[], .one (CV.ls c_Int a0)⟩ : Add) :: ⟨[], vI ((s2_0 : Nat) : Int)⟩ :: ⟨[], .one (.cptr _)⟩ :: ⟨[], vI (a0.getD s2_0 default)⟩ :: ⟨[], .one (CV.ls c_Int a1)⟩ :: ⟨[], vI ((s2_0 : Nat) : Int)⟩ :: ⟨[], .one (.cptr _)⟩ :: ⟨[], vI (a1.getD s2_0 default)⟩ :: []) (by decide) rfl ?hk6x ?hf6x ?ho6x ?hr6x
    case ho6x =>
     refine ob [] (fun S hle hfr => .inl ⟨w0, st_move (hle.e rfl) (hle.d rfl)⟩) (ob [] (fun S hle hfr => .inl ⟨w0, st_move (hle.e rfl) (hle.d rfl)⟩) ?_)
     refine ob [0, 1] (fun S hle hfr => .inl ⟨w0, ev_index_in (hle.e rfl) (hle.e rfl) rfl g4 rfl (hle.d rfl)⟩) ?_
     refine ob [2, 0, 1] (fun S hle hfr => .inl ⟨w0, ev_load_in (hle.e rfl) rfl (hle.d rfl)⟩) (ob [] (fun S hle hfr => .inl ⟨w0, st_move (hle.e rfl) (hle.d rfl)⟩) ?_)
     refine ob [] (fun S hle hfr => .inl ⟨w0, st_move (hle.e rfl) (hle.d rfl)⟩) ?_
     refine ob [4, 5] (fun S hle hfr => .inl ⟨w0, ev_index_in (hle.e rfl) (hle.e rfl) rfl g5 rfl (hle.d rfl)⟩) ?_
     refine ob [6, 4, 5] (fun S hle hfr => .inl ⟨w0, ev_load_in (hle.e rfl) rfl (hle.d rfl)⟩) ?_
     exact trivial
    case hk6x => rfl
    case hf6x => rfl
    refine s_cm ?_
    refine aops_nil ?_
    refine aw_cond rfl (fun c6 => ?_) (fun c6 => ?_)
    · replace l2 := Md.cond_t l2 c6
      refine aw_seq (aw_region (s_sa ?_))
      refine aops_nil ?_
      cases Option.some.inj l2
      replace h := Md.onS_r h
      cases Option.some.inj h
      exact aw_ret ⟨rfl, rv r1⟩
    replace l2 := Md.cond_f l2 c6
    refine aw_skip (aw_region ?_)
    obtain ⟨g7, l2⟩ := Md.ifp_s l2
    refine aops_step1 rfl (ev_add rfl rfl rfl (Md.nat_add g7)) (s_mv ?_)
    refine aops_nil ?_
    exact ⟨⟨(n2, (s2_0 + 1)), l2⟩, Nat.lt_succ_self _, wk⟩
  replace l2 := Md.cond_f l2 c3
  refine aw_exit ?_
  show ∃ _x : Unit, _ = _ ∧ Weak _ _
  exact ⟨(), Option.some.inj l2, wk⟩
set_option maxHeartbeats 2000000 in
theorem bytecode_usesA_fn (k : Nat) (a0 : Int) (r : Bool) (h : bytecode_usesA k a0 = some r) : FnC Try.prog 82 [vI a0] [] (Det (vB r) []) := by
  unfold bytecode_usesA at h
  refine fn_intro' 25 Try.func82 rfl rfl rfl (aw_seq (aw_region (s_sa ?_)))
  refine aops_nil (aw_seq (aw_region (s_mv ?_)))
  refine s_cm ?_
  refine s_mv ?_
  refine aops_mid 3 (⟨25, [], [(0, vI a0), (2, vB false), (8, vB ((decide (a0 ≥ 2)) && (decide (a0 ≤ 5))))], []⟩ : ASt) ?_ ?_
  · rcases Md.bool_or ((decide (a0 ≥ 2))) with q1 | q1
    · skip
      refine y_mv q1 ?_
      refine y_cm q1 ?_
      refine s_py q1 ?_
      refine aops_nil ?_
      exact wq q1
    iterate 2 refine np q1 ?_
    refine s_pn q1 ?_
    refine aops_nil ?_
    exact wq q1
  refine s_mv ?_
  refine aops_mid 3 (⟨25, [], [(0, vI a0), (2, vB false), (12, vB (((decide (a0 ≥ 2)) && (decide (a0 ≤ 5))) || (a0 == 26)))], []⟩ : ASt) ?_ ?_
  · rcases Md.bool_or (((decide (a0 ≥ 2)) && (decide (a0 ≤ 5)))) with q2 | q2
    · skip
      iterate 2 refine np q2 ?_
      refine s_py q2 ?_
      refine aops_nil ?_
      exact wq q2
    refine y_mv q2 ?_
    refine y_cm q2 ?_
    refine s_pn q2 ?_
    refine aops_nil ?_
    exact wq q2
  refine s_mv ?_
  refine aops_mid 3 (⟨25, [], [(0, vI a0), (2, vB false), (16, vB ((((decide (a0 ≥ 2)) && (decide (a0 ≤ 5))) || (a0 == 26)) || (a0 == 27)))], []⟩ : ASt) ?_ ?_
  · rcases Md.bool_or ((((decide (a0 ≥ 2)) && (decide (a0 ≤ 5))) || (a0 == 26))) with q3 | q3
    · skip
      iterate 2 refine np q3 ?_
      refine s_py q3 ?_
      refine aops_nil ?_
      exact wq q3
    refine y_mv q3 ?_
    refine y_cm q3 ?_
    refine s_pn q3 ?_
    refine aops_nil ?_
    exact wq q3
  refine s_mv ?_
  refine aops_mid 7 (⟨25, [], [(2, vB false), (24, vB (((((decide (a0 ≥ 2)) && (decide (a0 ≤ 5))) || (a0 == 26)) || (a0 == 27)) || ((decide (a0 ≥ 28)) && (decide (a0 ≤ 30)))))], []⟩ : ASt) ?_ ?_
  · rcases Md.bool_or (((((decide (a0 ≥ 2)) && (decide (a0 ≤ 5))) || (a0 == 26)) || (a0 == 27))) with q4 | q4
    · skip
      iterate 3 refine np q4 ?_
      refine aops_und rfl rfl rfl rfl rfl (aops_und rfl rfl rfl rfl rfl (np q4 ?_))
      refine s_py q4 ?_
      refine aops_nil ?_
      exact wq q4
    refine y_mv q4 ?_
    refine y_cm q4 ?_
    refine y_mv q4 ?_
    refine aops_mid 3 (⟨25, [], [(2, vB false), (17, vB ((((decide (a0 ≥ 2)) && (decide (a0 ≤ 5))) || (a0 == 26)) || (a0 == 27))), (23, vB ((decide (a0 ≥ 28)) && (decide (a0 ≤ 30))))], []⟩ : ASt) ?_ ?_
    · rcases Md.bool_or ((decide (a0 ≥ 28))) with q5 | q5
      · skip
        refine y_mv q5 ?_
        refine y_cm q5 ?_
        refine aops_yes rfl rfl rfl rfl q4 (st_pick_yes rfl (by first | rfl | exact q5) rfl rfl) (aops_nil ?_)
        exact wq q5
      iterate 2 refine np q5 ?_
      refine aops_yes rfl rfl rfl rfl q4 (st_pick_no rfl (by first | rfl | exact q5) rfl rfl) (aops_nil ?_)
      exact wq q5
    change AOps _ _ _ (⟨25, [], [(2, vB false), (17, vB ((((decide (a0 ≥ 2)) && (decide (a0 ≤ 5))) || (a0 == 26)) || (a0 == 27))), (23, vB ((decide (a0 ≥ 28)) && (decide (a0 ≤ 30))))], []⟩ : ASt) _
    refine s_pn q4 ?_
    refine aops_nil ?_
    exact wq q4
  refine s_sa ?_
  refine aops_nil ?_
  cases Option.some.inj h
  exact aw_ret ⟨rfl, rv r1⟩
set_option maxHeartbeats 2000000 in
theorem wire_same_int_fn (k : Nat) (a0 : List Int) (a1 : List Int) (r : Bool) (h : wire_same_int k a0 a1 = some r) : FnC Try.prog 58 [.one (CV.ls c_Int a0), .one (CV.ls c_Int a1)] [] (Det (vB r) []) := by
  unfold wire_same_int at h
  refine fn_intro' 26 Try.func58 rfl rfl rfl (aw_seq (aw_region (s_sa ?_)))
  refine aops_nil (aw_seq (aw_seq (aw_region (s_mv ?_))))
  refine s_ln ?_
  refine s_mv ?_
  refine s_ln ?_
  refine s_cm ?_
  refine aops_nil ?_
  refine aw_cond rfl (fun c1 => ?_) (fun c1 => ?_)
  · replace h := Md.cond_t h c1
    refine aw_seq (aw_region (s_sa ?_))
    refine aops_nil ?_
    cases Option.some.inj h
    exact aw_ret ⟨rfl, rv r1⟩
  replace h := Md.cond_f h c1
  refine aw_skip (aw_seq (aw_seq (aw_region (s_mv ?_))))
  refine s_ln ?_
  refine s_mv ?_
  refine aops_nil (aw_block ?_)
  obtain ⟨o2, ho2, h⟩ := Md.bind_s h
  refine aw_loop_x (ι := {p : Nat × Nat // wire_same_int_loop1 k a0 a1 p.1 p.2 = some o2}) (fun p => (⟨26, [], [(0, .one (CV.ls c_Int a0)), (1, .one (CV.ls c_Int a1)), (12, vI ((a0.length : Nat) : Int)), (13, vI ((p.1.2 : Nat) : Int))], []⟩ : ASt)) (fun p => p.1.1) ⟨(k, 0), ho2⟩ wk 0 (ε := Unit) (fun x => (⟨26, [], [], []⟩ : ASt)) (fun x => Sum.inl x = o2) (fun _ _ w h => aw_weak w h) ?_ ?_
  · intro x2_0 hI2
    subst hI2
    replace h := Md.onS_l h
    change AW _ _ (⟨26, [], [], []⟩ : ASt) _
    refine aw_seq (aw_region (s_sa ?_))
    refine aops_nil ?_
    cases Option.some.inj h
    exact aw_ret ⟨rfl, rv r1⟩
  intro p2
  obtain ⟨⟨n2, s2_0⟩, l2⟩ := p2
  change AW _ _ (⟨26, [], [(0, .one (CV.ls c_Int a0)), (1, .one (CV.ls c_Int a1)), (12, vI ((a0.length : Nat) : Int)), (13, vI ((s2_0 : Nat) : Int))], []⟩ : ASt) _
  replace l2 : wire_same_int_loop1 k a0 a1 n2 s2_0 = some o2 := l2
  rcases n2 with _ | n2
  · exact absurd (show none = some o2 from l2) nofun
  rw [wire_same_int_loop1] at l2
  refine aw_seq (aw_region (s_cm ?_))
  refine aops_nil (aw_seq ?_)
  refine aw_cond rfl (fun c3 => ?_) (fun c3 => ?_)
  · replace l2 := Md.cond_t l2 c3
    refine aw_skip (aw_seq (aw_block (aw_seq (aw_region (s_mv ?_)))))
    refine s_sa ?_
    refine aops_nil ?_
    obtain ⟨g4, l2⟩ := Md.ifp_s l2
    obtain ⟨g5, l2⟩ := Md.ifp_s l2
    refine aw_seq ?_
    apply aw_draw 8 ((⟨[], .one (CV.ls c_Int a0)⟩ : Add) :: ⟨[], vI ((s2_0 : Nat) : Int)⟩ :: ⟨[], .one (.cptr _)⟩ :: ⟨[], vI (a0.getD s2_0 default)⟩ :: ⟨[], .one (CV.ls c_Int a1)⟩ :: ⟨[], vI ((s2_0 : Nat) : Int)⟩ :: ⟨[], .one (.cptr _)⟩ :: ⟨[], vI (a1.getD s2_0 default)⟩ :: []) (by decide) rfl ?hk6x ?hf6x ?ho6x ?hr6x
    case ho6x =>
     refine ob [] (fun S hle hfr => .inl ⟨w0, st_move (hle.e rfl) (hle.d rfl)⟩) (ob [] (fun S hle hfr => .inl ⟨w0, st_move (hle.e rfl) (hle.d rfl)⟩) ?_)
     refine ob [0, 1] (fun S hle hfr => .inl ⟨w0, ev_index_in (hle.e rfl) (hle.e rfl) rfl g4 rfl (hle.d rfl)⟩) ?_
     refine ob [2, 0, 1] (fun S hle hfr => .inl ⟨w0, ev_load_in (hle.e rfl) rfl (hle.d rfl)⟩) (ob [] (fun S hle hfr => .inl ⟨w0, st_move (hle.e rfl) (hle.d rfl)⟩) ?_)
     refine ob [] (fun S hle hfr => .inl ⟨w0, st_move (hle.e rfl) (hle.d rfl)⟩) ?_
     refine ob [4, 5] (fun S hle hfr => .inl ⟨w0, ev_index_in (hle.e rfl) (hle.e rfl) rfl g5 rfl (hle.d rfl)⟩) ?_
     refine ob [6, 4, 5] (fun S hle hfr => .inl ⟨w0, ev_load_in (hle.e rfl) rfl (hle.d rfl)⟩) ?_
     exact trivial
    case hk6x => rfl
    case hf6x => rfl
    refine s_cm ?_
    refine aops_nil ?_
    refine aw_cond rfl (fun c6 => ?_) (fun c6 => ?_)
    · replace l2 := Md.cond_t l2 c6
      refine aw_seq (aw_region (s_sa ?_))
      refine aops_nil ?_
      cases Option.some.inj l2
      replace h := Md.onS_r h
      cases Option.some.inj h
      exact aw_ret ⟨rfl, rv r1⟩
    replace l2 := Md.cond_f l2 c6
    refine aw_skip (aw_region ?_)
    obtain ⟨g7, l2⟩ := Md.ifp_s l2
    refine aops_step1 rfl (ev_add rfl rfl rfl (Md.nat_add g7)) (s_mv ?_)
    refine aops_nil ?_
    exact ⟨⟨(n2, (s2_0 + 1)), l2⟩, Nat.lt_succ_self _, wk⟩
  replace l2 := Md.cond_f l2 c3
  refine aw_exit ?_
  show ∃ _x : Unit, _ = _ ∧ Weak _ _
  exact ⟨(), Option.some.inj l2, wk⟩
set_option maxHeartbeats 2000000 in
theorem wire_same_string_fn (k : Nat) (a0 : List (List UInt8)) (a1 : List (List UInt8)) (r : Bool) (h : wire_same_string k a0 a1 = some r) : FnC Try.prog 59 [.one (CV.ls c_Str a0), .one (CV.ls c_Str a1)] [] (Det (vB r) []) := by
  unfold wire_same_string at h
  refine fn_intro' 26 Try.func59 rfl rfl rfl (aw_seq (aw_region (s_sa ?_)))
  refine aops_nil (aw_seq (aw_seq (aw_region (s_mv ?_))))
  refine s_ln ?_
  refine s_mv ?_
  refine s_ln ?_
  refine s_cm ?_
  refine aops_nil ?_
  refine aw_cond rfl (fun c1 => ?_) (fun c1 => ?_)
  · replace h := Md.cond_t h c1
    refine aw_seq (aw_region (s_sa ?_))
    refine aops_nil ?_
    cases Option.some.inj h
    exact aw_ret ⟨rfl, rv r1⟩
  replace h := Md.cond_f h c1
  refine aw_skip (aw_seq (aw_seq (aw_region (s_mv ?_))))
  refine s_ln ?_
  refine s_mv ?_
  refine aops_nil (aw_block ?_)
  obtain ⟨o2, ho2, h⟩ := Md.bind_s h
  refine aw_loop_x (ι := {p : Nat × Nat // wire_same_string_loop1 k a0 a1 p.1 p.2 = some o2}) (fun p => (⟨26, [], [(0, .one (CV.ls c_Str a0)), (1, .one (CV.ls c_Str a1)), (12, vI ((a0.length : Nat) : Int)), (13, vI ((p.1.2 : Nat) : Int))], []⟩ : ASt)) (fun p => p.1.1) ⟨(k, 0), ho2⟩ wk 0 (ε := Unit) (fun x => (⟨26, [], [], []⟩ : ASt)) (fun x => Sum.inl x = o2) (fun _ _ w h => aw_weak w h) ?_ ?_
  · intro x2_0 hI2
    subst hI2
    replace h := Md.onS_l h
    change AW _ _ (⟨26, [], [], []⟩ : ASt) _
    refine aw_seq (aw_region (s_sa ?_))
    refine aops_nil ?_
    cases Option.some.inj h
    exact aw_ret ⟨rfl, rv r1⟩
  intro p2
  obtain ⟨⟨n2, s2_0⟩, l2⟩ := p2
  change AW _ _ (⟨26, [], [(0, .one (CV.ls c_Str a0)), (1, .one (CV.ls c_Str a1)), (12, vI ((a0.length : Nat) : Int)), (13, vI ((s2_0 : Nat) : Int))], []⟩ : ASt) _
  replace l2 : wire_same_string_loop1 k a0 a1 n2 s2_0 = some o2 := l2
  rcases n2 with _ | n2
  · exact absurd (show none = some o2 from l2) nofun
  rw [wire_same_string_loop1] at l2
  refine aw_seq (aw_region (s_cm ?_))
  refine aops_nil (aw_seq ?_)
  refine aw_cond rfl (fun c3 => ?_) (fun c3 => ?_)
  · replace l2 := Md.cond_t l2 c3
    refine aw_skip (aw_seq (aw_block (aw_seq (aw_region (s_mv ?_)))))
    refine s_sa ?_
    refine aops_nil ?_
    obtain ⟨g4, l2⟩ := Md.ifp_s l2
    obtain ⟨g5, l2⟩ := Md.ifp_s l2
    refine aw_seq ?_
    apply aw_draw 8 ((⟨[], .one (CV.ls c_Str a0)⟩ : Add) :: ⟨[], vI ((s2_0 : Nat) : Int)⟩ :: ⟨[], .one (.cptr _)⟩ :: ⟨[], .one (.val (Sv (a0.getD s2_0 default)))⟩ :: ⟨[], .one (CV.ls c_Str a1)⟩ :: ⟨[], vI ((s2_0 : Nat) : Int)⟩ :: ⟨[], .one (.cptr _)⟩ :: ⟨[], .one (.val (Sv (a1.getD s2_0 default)))⟩ :: []) (by decide) rfl ?hk6x ?hf6x ?ho6x ?hr6x
    case ho6x =>
     refine ob [] (fun S hle hfr => .inl ⟨w0, st_move (hle.e rfl) (hle.d rfl)⟩) (ob [] (fun S hle hfr => .inl ⟨w0, st_move (hle.e rfl) (hle.d rfl)⟩) ?_)
     refine ob [0, 1] (fun S hle hfr => .inl ⟨w0, ev_index_in (hle.e rfl) (hle.e rfl) rfl g4 rfl (hle.d rfl)⟩) ?_
     refine ob [2, 0, 1] (fun S hle hfr => .inl ⟨w0, ev_load_in (hle.e rfl) rfl (hle.d rfl)⟩) (ob [] (fun S hle hfr => .inl ⟨w0, st_move (hle.e rfl) (hle.d rfl)⟩) ?_)
     refine ob [] (fun S hle hfr => .inl ⟨w0, st_move (hle.e rfl) (hle.d rfl)⟩) ?_
     refine ob [4, 5] (fun S hle hfr => .inl ⟨w0, ev_index_in (hle.e rfl) (hle.e rfl) rfl g5 rfl (hle.d rfl)⟩) ?_
     refine ob [6, 4, 5] (fun S hle hfr => .inl ⟨w0, ev_load_in (hle.e rfl) rfl (hle.d rfl)⟩) ?_
     exact trivial
    case hk6x => rfl
    case hf6x => rfl
    refine aops_step1 rfl (st_str_ne rfl rfl rfl) (aops_nil ?_)
    refine aw_cond rfl (fun c6 => ?_) (fun c6 => ?_)
    · replace l2 := Md.cond_t l2 c6
      refine aw_seq (aw_region (s_sa ?_))
      refine aops_nil ?_
      cases Option.some.inj l2
      replace h := Md.onS_r h
      cases Option.some.inj h
      exact aw_ret ⟨rfl, rv r1⟩
    replace l2 := Md.cond_f l2 c6
    refine aw_skip (aw_region ?_)
    obtain ⟨g7, l2⟩ := Md.ifp_s l2
    refine aops_step1 rfl (ev_add rfl rfl rfl (Md.nat_add g7)) (s_mv ?_)
    refine aops_nil ?_
    exact ⟨⟨(n2, (s2_0 + 1)), l2⟩, Nat.lt_succ_self _, wk⟩
  replace l2 := Md.cond_f l2 c3
  refine aw_exit ?_
  show ∃ _x : Unit, _ = _ ∧ Weak _ _
  exact ⟨(), Option.some.inj l2, wk⟩
set_option maxHeartbeats 2000000 in
theorem wire_SameValue_fn (k : Nat) (a0 : Value) (a1 : Value) (r : Bool) (h : wire_SameValue k a0 a1 = some r) : FnC Try.prog 25 [.agg (c_Value a0), .agg (c_Value a1)] [] (Det (vB r) []) := by
  unfold wire_SameValue at h
  refine fn_intro' 38 Try.func25 rfl rfl rfl (aw_seq (aw_region (aops_step1 rfl (st_box 0 rfl rfl rfl rfl) (aops_step1 rfl (st_box 1 rfl rfl rfl rfl) (s_sa ?_)))))
  refine aops_nil (aw_seq (aw_region (s_fd ?_)))
  refine s_ld ?_
  refine s_fd ?_
  refine s_ld ?_
  refine s_cm ?_
  refine s_mv ?_
  refine aops_mid 6 (⟨38, [], [(2, .one (.ptr 0 0)), (3, .one (.ptr 1 0)), (4, vB false), (16, vB ((a0.Kind == a1.Kind) && (a0.N == a1.N)))], [(0, some (.box (c_Value a0))), (1, some (.box (c_Value a1)))]⟩ : ASt) ?_ ?_
  · rcases Md.bool_or ((a0.Kind == a1.Kind)) with q1 | q1
    · skip
      refine y_fd q1 ?_
      refine y_ld q1 ?_
      refine y_fd q1 ?_
      refine y_ld q1 ?_
      refine y_cm q1 ?_
      refine s_py q1 ?_
      refine aops_nil ?_
      exact wq q1
    iterate 5 refine np q1 ?_
    refine s_pn q1 ?_
    refine aops_nil ?_
    exact wq q1
  refine s_mv ?_
  refine aops_mid 6 (⟨38, [], [(2, .one (.ptr 0 0)), (3, .one (.ptr 1 0)), (4, vB false), (23, vB (((a0.Kind == a1.Kind) && (a0.N == a1.N)) && (decide (a0.S = a1.S))))], [(0, some (.box (c_Value a0))), (1, some (.box (c_Value a1)))]⟩ : ASt) ?_ ?_
  · rcases Md.bool_or (((a0.Kind == a1.Kind) && (a0.N == a1.N))) with q2 | q2
    · skip
      refine y_fd q2 ?_
      refine y_ld q2 ?_
      refine y_fd q2 ?_
      refine y_ld q2 ?_
      refine aops_yes rfl rfl rfl rfl q2 (st_str_eq rfl rfl rfl) (s_py q2 ?_)
      refine aops_nil ?_
      exact wq q2
    iterate 5 refine np q2 ?_
    refine s_pn q2 ?_
    refine aops_nil ?_
    exact wq q2
  refine s_mv ?_
  obtain ⟨o3, j3, h⟩ := Md.bind_s h
  refine aops_cut 6 (ε := Bool) (fun x3 => (⟨38, [], [(2, .one (.ptr 0 0)), (3, .one (.ptr 1 0)), (4, vB false), (30, vB x3)], [(0, some (.box (c_Value a0))), (1, some (.box (c_Value a1)))]⟩ : ASt)) (fun x3 => x3 = o3) ?_ ?_
  · intro x3 hI3
    subst hI3
    change AOps _ _ _ (⟨38, [], [(2, .one (.ptr 0 0)), (3, .one (.ptr 1 0)), (4, vB false), (30, vB x3)], [(0, some (.box (c_Value a0))), (1, some (.box (c_Value a1)))]⟩ : ASt) _
    refine s_mv ?_
    obtain ⟨o4, j4, h⟩ := Md.bind_s h
    refine aops_cut 6 (ε := Bool) (fun x4 => (⟨38, [], [(4, vB false), (37, vB x4)], []⟩ : ASt)) (fun x4 => x4 = o4) ?_ ?_
    · intro x4 hI4
      subst hI4
      change AOps _ _ _ (⟨38, [], [(4, vB false), (37, vB x4)], []⟩ : ASt) _
      refine s_sa ?_
      refine aops_nil ?_
      cases Option.some.inj h
      exact aw_ret ⟨rfl, rv r1⟩
    rcases Md.bool_or (x3) with q4 | q4
    · replace j4 := Md.cond_t j4 q4
      refine y_fd q4 ?_
      refine y_ld q4 ?_
      refine y_fd q4 ?_
      refine y_ld q4 ?_
      obtain ⟨x5, hx5, j4⟩ := Md.bind_s j4
      refine aops_yes rfl rfl rfl rfl q4 (ev_call_v (wire_same_string_fn k a0.L a1.L x5 hx5) rfl [] ai rfl rfl rfl (.inl rfl) rfl) (s_py q4 ?_)
      refine aops_nil ?_
      show ∃ _x : Bool, _ = _ ∧ Weak _ _
      exact ⟨x5, Option.some.inj j4, wk⟩
    replace j4 := Md.cond_f j4 q4
    iterate 5 refine np q4 ?_
    refine s_pn q4 ?_
    refine aops_nil ?_
    show ∃ _x : Bool, _ = _ ∧ Weak _ _
    exact ⟨false, Option.some.inj j4, wk⟩
  rcases Md.bool_or ((((a0.Kind == a1.Kind) && (a0.N == a1.N)) && (decide (a0.S = a1.S)))) with q3 | q3
  · replace j3 := Md.cond_t j3 q3
    refine y_fd q3 ?_
    refine y_ld q3 ?_
    refine y_fd q3 ?_
    refine y_ld q3 ?_
    obtain ⟨x6, hx6, j3⟩ := Md.bind_s j3
    refine aops_yes rfl rfl rfl rfl q3 (ev_call_v (wire_same_int_fn k a0.I a1.I x6 hx6) rfl [] ai rfl rfl rfl (.inl rfl) rfl) (s_py q3 ?_)
    refine aops_nil ?_
    show ∃ _x : Bool, _ = _ ∧ Weak _ _
    exact ⟨x6, Option.some.inj j3, wk⟩
  replace j3 := Md.cond_f j3 q3
  iterate 5 refine np q3 ?_
  refine s_pn q3 ?_
  refine aops_nil ?_
  show ∃ _x : Bool, _ = _ ∧ Weak _ _
  exact ⟨false, Option.some.inj j3, wk⟩
set_option maxHeartbeats 2000000 in
theorem bytecode_validInstr_1_fn (k : Nat) (a0 : Int) (a1 : Int) (r : Bool) (h : bytecode_validInstr_1 k a0 a1 = some r) : FnC Try.prog 83 [vI a0, vI a1] [] (Det (vB r) []) := by
  unfold bytecode_validInstr_1 at h
  refine fn_intro' 12 Try.func83 rfl rfl rfl (aw_seq (aw_region (s_sa ?_)))
  refine aops_nil (aw_seq (aw_region (s_mv ?_)))
  refine s_cm ?_
  refine s_mv ?_
  refine aops_mid 4 (⟨12, [], [(4, vB false), (11, vB ((decide (a0 ≥ 0)) && (decide (a0 < a1))))], []⟩ : ASt) ?_ ?_
  · rcases Md.bool_or ((decide (a0 ≥ 0))) with q1 | q1
    · skip
      iterate 2 refine y_mv q1 ?_
      refine y_cm q1 ?_
      refine s_py q1 ?_
      refine aops_nil ?_
      exact wq q1
    iterate 3 refine np q1 ?_
    refine s_pn q1 ?_
    refine aops_nil ?_
    exact wq q1
  refine s_sa ?_
  refine aops_nil ?_
  cases Option.some.inj h
  exact aw_ret ⟨rfl, rv r1⟩
set_option maxHeartbeats 2000000 in
theorem bytecode_validInstr_fn (k : Nat) (a0 : Code) (a1 : CodeType) (a2 : CodeMethod) (a3 : Instr) (r : Bool) (h : bytecode_validInstr k a0 a1 a2 a3 = some r) : FnC Try.prog 70 [.agg [CV.ls c_CodeType a0.Types], .agg (c_CodeType a1), .agg (c_CodeMethod a2), .agg (c_Instr a3)] [] (Det (vB r) []) := by
  unfold bytecode_validInstr at h
  refine fn_intro' 122 Try.func70 rfl rfl rfl (aw_seq (aw_region (aops_step1 rfl (st_box 0 rfl rfl rfl rfl) (aops_step1 rfl (st_box 1 rfl rfl rfl rfl) ?_))))
  refine aops_step1 rfl (st_box 2 rfl rfl rfl rfl) (aops_step1 rfl (st_box 3 rfl rfl rfl rfl) (s_sa ?_))
  refine aops_nil (aw_seq (aw_seq (aw_region (s_fd ?_))))
  refine s_ld ?_
  refine s_cm ?_
  refine s_mv ?_
  refine aops_mid 4 (⟨122, [], [(4, .one (.ptr 0 0)), (5, .one (.ptr 1 0)), (6, .one (.ptr 2 0)), (7, .one (.ptr 3 0)), (17, vB ((decide (a3.Op < 1)) || (decide (a3.Op > 36))))], [(0, some (.box [CV.ls c_CodeType a0.Types])), (1, some (.box (c_CodeType a1))), (2, some (.box (c_CodeMethod a2))), (3, some (.box (c_Instr a3)))]⟩ : ASt) ?_ ?_
  · rcases Md.bool_or ((decide (a3.Op < 1))) with q1 | q1
    · skip
      iterate 3 refine np q1 ?_
      refine s_py q1 ?_
      refine aops_nil ?_
      exact wq q1
    refine y_fd q1 ?_
    refine y_ld q1 ?_
    refine y_cm q1 ?_
    refine s_pn q1 ?_
    refine aops_nil ?_
    exact wq q1
  refine s_mv ?_
  obtain ⟨o2, j2, h⟩ := Md.bind_s h
  refine aops_cut 10 (ε := Bool) (fun x2 => (⟨122, [], [(4, .one (.ptr 0 0)), (5, .one (.ptr 1 0)), (6, .one (.ptr 2 0)), (7, .one (.ptr 3 0)), (28, vB x2)], [(0, some (.box [CV.ls c_CodeType a0.Types])), (1, some (.box (c_CodeType a1))), (2, some (.box (c_CodeMethod a2))), (3, some (.box (c_Instr a3)))]⟩ : ASt)) (fun x2 => x2 = o2) ?_ ?_
  · intro x2 hI2
    subst hI2
    change AOps _ _ _ (⟨122, [], [(4, .one (.ptr 0 0)), (5, .one (.ptr 1 0)), (6, .one (.ptr 2 0)), (7, .one (.ptr 3 0)), (28, vB x2)], [(0, some (.box [CV.ls c_CodeType a0.Types])), (1, some (.box (c_CodeType a1))), (2, some (.box (c_CodeMethod a2))), (3, some (.box (c_Instr a3)))]⟩ : ASt) _
    refine s_mv ?_
    refine aops_mid 9 (⟨122, [], [(4, .one (.ptr 0 0)), (5, .one (.ptr 1 0)), (6, .one (.ptr 2 0)), (7, .one (.ptr 3 0)), (38, vB (x2 || ((a3.Op != 30) && (a3.B != 0))))], [(0, some (.box [CV.ls c_CodeType a0.Types])), (1, some (.box (c_CodeType a1))), (2, some (.box (c_CodeMethod a2))), (3, some (.box (c_Instr a3)))]⟩ : ASt) ?_ ?_
    · rcases Md.bool_or (x2) with q3 | q3
      · skip
        iterate 4 refine np q3 ?_
        iterate 3 refine aops_und rfl rfl rfl rfl rfl ?_
        refine np q3 ?_
        refine s_py q3 ?_
        refine aops_nil ?_
        exact wq q3
      refine y_fd q3 ?_
      refine y_ld q3 ?_
      refine y_cm q3 ?_
      refine y_mv q3 ?_
      refine aops_mid 4 (⟨122, [], [(4, .one (.ptr 0 0)), (5, .one (.ptr 1 0)), (6, .one (.ptr 2 0)), (7, .one (.ptr 3 0)), (29, vB x2), (37, vB ((a3.Op != 30) && (a3.B != 0)))], [(0, some (.box [CV.ls c_CodeType a0.Types])), (1, some (.box (c_CodeType a1))), (2, some (.box (c_CodeMethod a2))), (3, some (.box (c_Instr a3)))]⟩ : ASt) ?_ ?_
      · rcases Md.bool_or ((a3.Op != 30)) with q4 | q4
        · skip
          refine y_fd q4 ?_
          refine y_ld q4 ?_
          refine y_cm q4 ?_
          refine aops_yes rfl rfl rfl rfl q3 (st_pick_yes rfl (by first | rfl | exact q4) rfl rfl) (aops_nil ?_)
          exact wq q4
        iterate 3 refine np q4 ?_
        refine aops_yes rfl rfl rfl rfl q3 (st_pick_no rfl (by first | rfl | exact q4) rfl rfl) (aops_nil ?_)
        exact wq q4
      change AOps _ _ _ (⟨122, [], [(4, .one (.ptr 0 0)), (5, .one (.ptr 1 0)), (6, .one (.ptr 2 0)), (7, .one (.ptr 3 0)), (29, vB x2), (37, vB ((a3.Op != 30) && (a3.B != 0)))], [(0, some (.box [CV.ls c_CodeType a0.Types])), (1, some (.box (c_CodeType a1))), (2, some (.box (c_CodeMethod a2))), (3, some (.box (c_Instr a3)))]⟩ : ASt) _
      refine s_pn q3 ?_
      refine aops_nil ?_
      exact wq q3
    refine aops_nil ?_
    refine aw_cond rfl (fun c5 => ?_) (fun c5 => ?_)
    · replace h := Md.cond_t h c5
      refine aw_seq (aw_region (s_sa ?_))
      refine aops_nil ?_
      cases Option.some.inj h
      exact aw_ret ⟨rfl, rv r1⟩
    replace h := Md.cond_f h c5
    refine aw_skip (aw_seq (aw_seq (aw_region (s_fd ?_))))
    refine s_ld ?_
    refine s_cm ?_
    refine s_mv ?_
    obtain ⟨o6, j6, h⟩ := Md.bind_s h
    refine aops_cut 6 (ε := Bool) (fun x6 => (⟨122, [], [(4, .one (.ptr 0 0)), (5, .one (.ptr 1 0)), (6, .one (.ptr 2 0)), (7, .one (.ptr 3 0)), (48, vB x6)], [(0, some (.box [CV.ls c_CodeType a0.Types])), (1, some (.box (c_CodeType a1))), (2, some (.box (c_CodeMethod a2))), (3, some (.box (c_Instr a3)))]⟩ : ASt)) (fun x6 => x6 = o6) ?_ ?_
    · intro x6 hI6
      subst hI6
      change AOps _ _ _ (⟨122, [], [(4, .one (.ptr 0 0)), (5, .one (.ptr 1 0)), (6, .one (.ptr 2 0)), (7, .one (.ptr 3 0)), (48, vB x6)], [(0, some (.box [CV.ls c_CodeType a0.Types])), (1, some (.box (c_CodeType a1))), (2, some (.box (c_CodeMethod a2))), (3, some (.box (c_Instr a3)))]⟩ : ASt) _
      refine aops_nil ?_
      refine aw_cond rfl (fun c7 => ?_) (fun c7 => ?_)
      · replace h := Md.cond_t h c7
        refine aw_seq (aw_region (s_sa ?_))
        refine aops_nil ?_
        cases Option.some.inj h
        exact aw_ret ⟨rfl, rv r1⟩
      replace h := Md.cond_f h c7
      refine aw_skip (aw_seq (aw_region (s_sa ?_)))
      refine aops_nil (aw_seq (aw_seq (aw_region (s_fd ?_))))
      refine s_ld ?_
      refine aops_nil (aw_block (aw_seq (aw_region (s_cm ?_))))
      refine s_sa ?_
      refine aops_nil ?_
      refine aw_cond rfl (fun c8 => ?_) (fun c8 => ?_)
      · replace h := Md.cond_t h c8
        refine aw_seq (aw_region (s_fd ?_))
        refine s_ls [_, _, _, _, _] ?_
        obtain ⟨x9, hx9, h⟩ := Md.bind_s h
        refine aops_step1 rfl (ev_call_v (wire_ValidValue_fn k a3.Value x9 hx9) rfl [] ai rfl rfl rfl (.inl rfl) rfl) (s_mv ?_)
        refine aops_mid 5 (⟨122, [], [(61, vB (x9 && (a3.Value.Kind != 0)))], []⟩ : ASt) ?_ ?_
        · rcases Md.bool_or (x9) with q10 | q10
          · skip
            iterate 2 refine y_fd q10 ?_
            refine y_ld q10 ?_
            refine y_cm q10 ?_
            refine s_py q10 ?_
            refine aops_nil ?_
            exact wq q10
          iterate 4 refine np q10 ?_
          refine s_pn q10 ?_
          refine aops_nil ?_
          exact wq q10
        refine s_sa ?_
        refine aops_nil ?_
        cases Option.some.inj h
        exact aw_ret ⟨rfl, rv r1⟩
      replace h := Md.cond_f h c8
      refine aw_seq (aw_seq (aw_region (s_cm ?_)))
      refine s_sa ?_
      refine aops_nil ?_
      refine aw_cond rfl (fun c11 => ?_) (fun c11 => ?_)
      · replace h := Md.cond_t h c11
        refine aw_skip (aw_yes rfl (c11) (aw_seq (aw_region (s_mv ?_))))
        refine s_fd ?_
        refine s_ld ?_
        refine s_fd ?_
        refine s_ld ?_
        refine s_ln ?_
        obtain ⟨x12, hx12, h⟩ := Md.bind_s h
        refine aops_step1 rfl (ev_callee rfl (ev_call_v (bytecode_validInstr_1_fn k a3.A ((a2.Locals.length : Nat) : Int) x12 hx12) rfl [] ai rfl rfl rfl (.inl rfl) rfl)) (s_sa ?_)
        refine aops_nil ?_
        cases Option.some.inj h
        exact aw_ret ⟨rfl, rv r1⟩
      replace h := Md.cond_f h c11
      refine aw_region (s_cm ?_)
      refine s_sa ?_
      refine aops_nil ?_
      refine aw_cond rfl (fun c13 => ?_) (fun c13 => ?_)
      · replace h := Md.cond_t h c13
        refine aw_seq (aw_region (s_mv ?_))
        refine s_fd ?_
        refine s_ld ?_
        refine s_fd ?_
        refine s_ld ?_
        refine s_ln ?_
        obtain ⟨x14, hx14, h⟩ := Md.bind_s h
        refine aops_step1 rfl (ev_callee rfl (ev_call_v (bytecode_validInstr_1_fn k a3.A ((a2.Locals.length : Nat) : Int) x14 hx14) rfl [] ai rfl rfl rfl (.inl rfl) rfl)) (s_sa ?_)
        refine aops_nil ?_
        cases Option.some.inj h
        exact aw_ret ⟨rfl, rv r1⟩
      replace h := Md.cond_f h c13
      refine aw_seq (aw_seq (aw_region (s_cm ?_)))
      refine s_sa ?_
      refine aops_nil ?_
      refine aw_cond rfl (fun c15 => ?_) (fun c15 => ?_)
      · replace h := Md.cond_t h c15
        refine aw_skip (aw_yes rfl (c15) (aw_seq (aw_region (s_mv ?_))))
        refine s_fd ?_
        refine s_ld ?_
        refine s_fd ?_
        refine s_ld ?_
        refine s_ln ?_
        obtain ⟨x16, hx16, h⟩ := Md.bind_s h
        refine aops_step1 rfl (ev_callee rfl (ev_call_v (bytecode_validInstr_1_fn k a3.A ((a1.Fields.length : Nat) : Int) x16 hx16) rfl [] ai rfl rfl rfl (.inl rfl) rfl)) (s_sa ?_)
        refine aops_nil ?_
        cases Option.some.inj h
        exact aw_ret ⟨rfl, rv r1⟩
      replace h := Md.cond_f h c15
      refine aw_region (s_cm ?_)
      refine s_sa ?_
      refine aops_nil ?_
      refine aw_cond rfl (fun c17 => ?_) (fun c17 => ?_)
      · replace h := Md.cond_t h c17
        refine aw_seq (aw_region (s_mv ?_))
        refine s_fd ?_
        refine s_ld ?_
        refine s_fd ?_
        refine s_ld ?_
        refine s_ln ?_
        obtain ⟨x18, hx18, h⟩ := Md.bind_s h
        refine aops_step1 rfl (ev_callee rfl (ev_call_v (bytecode_validInstr_1_fn k a3.A ((a1.Fields.length : Nat) : Int) x18 hx18) rfl [] ai rfl rfl rfl (.inl rfl) rfl)) (s_sa ?_)
        refine aops_nil ?_
        cases Option.some.inj h
        exact aw_ret ⟨rfl, rv r1⟩
      replace h := Md.cond_f h c17
      refine aw_seq (aw_seq (aw_region (s_cm ?_)))
      refine s_sa ?_
      refine aops_nil ?_
      refine aw_cond rfl (fun c19 => ?_) (fun c19 => ?_)
      · replace h := Md.cond_t h c19
        refine aw_skip (aw_yes rfl (c19) (aw_seq (aw_region (s_mv ?_))))
        refine s_fd ?_
        refine s_ld ?_
        obtain ⟨x20, hx20, h⟩ := Md.bind_s h
        refine aops_step1 rfl (ev_callee rfl (ev_call_v (bytecode_validInstr_1_fn k a3.A 17 x20 hx20) rfl [] ai rfl rfl rfl (.inl rfl) rfl)) (s_sa ?_)
        refine aops_nil ?_
        cases Option.some.inj h
        exact aw_ret ⟨rfl, rv r1⟩
      replace h := Md.cond_f h c19
      refine aw_region (s_cm ?_)
      refine s_sa ?_
      refine aops_nil ?_
      refine aw_cond rfl (fun c21 => ?_) (fun c21 => ?_)
      · replace h := Md.cond_t h c21
        refine aw_seq (aw_region (s_mv ?_))
        refine s_fd ?_
        refine s_ld ?_
        obtain ⟨x22, hx22, h⟩ := Md.bind_s h
        refine aops_step1 rfl (ev_callee rfl (ev_call_v (bytecode_validInstr_1_fn k a3.A 17 x22 hx22) rfl [] ai rfl rfl rfl (.inl rfl) rfl)) (s_sa ?_)
        refine aops_nil ?_
        cases Option.some.inj h
        exact aw_ret ⟨rfl, rv r1⟩
      replace h := Md.cond_f h c21
      refine aw_seq (aw_seq (aw_region (s_cm ?_)))
      refine s_sa ?_
      refine aops_nil ?_
      refine aw_cond rfl (fun c23 => ?_) (fun c23 => ?_)
      · replace h := Md.cond_t h c23
        refine aw_skip (aw_yes rfl (c23) (aw_seq (aw_region (s_mv ?_))))
        refine s_fd ?_
        refine s_ld ?_
        refine s_fd ?_
        refine s_ld ?_
        refine s_ln ?_
        obtain ⟨x24, hx24, h⟩ := Md.bind_s h
        refine aops_step1 rfl (ev_callee rfl (ev_call_v (bytecode_validInstr_1_fn k a3.A ((a2.Code.length : Nat) : Int) x24 hx24) rfl [] ai rfl rfl rfl (.inl rfl) rfl)) (s_sa ?_)
        refine aops_nil ?_
        cases Option.some.inj h
        exact aw_ret ⟨rfl, rv r1⟩
      replace h := Md.cond_f h c23
      refine aw_region (s_cm ?_)
      refine s_sa ?_
      refine aops_nil ?_
      refine aw_cond rfl (fun c25 => ?_) (fun c25 => ?_)
      · replace h := Md.cond_t h c25
        refine aw_seq (aw_region (s_mv ?_))
        refine s_fd ?_
        refine s_ld ?_
        refine s_fd ?_
        refine s_ld ?_
        refine s_ln ?_
        obtain ⟨x26, hx26, h⟩ := Md.bind_s h
        refine aops_step1 rfl (ev_callee rfl (ev_call_v (bytecode_validInstr_1_fn k a3.A ((a2.Code.length : Nat) : Int) x26 hx26) rfl [] ai rfl rfl rfl (.inl rfl) rfl)) (s_sa ?_)
        refine aops_nil ?_
        cases Option.some.inj h
        exact aw_ret ⟨rfl, rv r1⟩
      replace h := Md.cond_f h c25
      refine aw_seq (aw_region (s_cm ?_))
      refine s_sa ?_
      refine aops_nil ?_
      refine aw_cond rfl (fun c27 => ?_) (fun c27 => ?_)
      · replace h := Md.cond_t h c27
        obtain ⟨x28, hx28, h⟩ := Md.bind_s h
        rcases Md.bool_or (x28) with q29 | q29
        · replace h := Md.cond_t h q29
          obtain ⟨g30, h⟩ := Md.ifp_s h
          obtain ⟨x31, hx31, h⟩ := Md.bind_s h
          refine aw_seq ?_
          apply aw_draw 19 ((⟨[], .one (.fn 83 [])⟩ : Add) :: ⟨[], .one (.ptr 3 _)⟩ :: ⟨[], vI a3.A⟩ :: ⟨[], .one (.ptr 0 _)⟩ :: ⟨[], .one (CV.ls c_CodeType a0.Types)⟩ :: ⟨[], vI ((a0.Types.length : Nat) : Int)⟩ :: ⟨[], vB x28⟩ :: ⟨[], vB x28⟩ :: ⟨[], .one (.fn 83 [])⟩ :: ⟨[], .one (.ptr 3 _)⟩ :: ⟨[], vI a3.B⟩ :: ⟨[], .one (.ptr 0 _)⟩ :: ⟨[], .one (CV.ls c_CodeType a0.Types)⟩ :: ⟨[], .one (.ptr 3 _)⟩ :: ⟨[], vI a3.A⟩ :: ⟨[], .one (.cptr _)⟩ :: ⟨[], .one (.cptr _)⟩ :: ⟨[], .one (CV.ls c_CodeMethod ((a0.Types.getD ((a3.A).toNat) default).Methods))⟩ :: ⟨[], vI ((((a0.Types.getD ((a3.A).toNat) default).Methods).length : Nat) : Int)⟩ :: []) (by decide) rfl ?hk1x ?hf1x ?ho1x ?hr1x
          case ho1x =>
           refine ob [] (fun S hle hfr => .inl ⟨w0, st_move (hle.e rfl) (hle.d rfl)⟩) (ob [] (fun S hle hfr => .inl ⟨w0, ev_field (hle.e rfl) rfl (hle.d rfl)⟩) ?_)
           refine ob [1] (fun S hle hfr => .inl ⟨w0, ev_load (hle.e rfl) (hle.heap _ _ rfl) rfl (hle.d rfl)⟩) ?_
           refine ob [] (fun S hle hfr => .inl ⟨w0, ev_field (hle.e rfl) rfl (hle.d rfl)⟩) ?_
           refine ob [3] (fun S hle hfr => .inl ⟨w0, ev_load (hle.e rfl) (hle.heap _ _ rfl) rfl (hle.d rfl)⟩) ?_
           refine ob [4, 3] (fun S hle hfr => .inl ⟨w0, ev_len_slc (hle.e rfl) (hle.d rfl)⟩) ?_
           refine ob [0, 2, 5, 1, 4, 3] (fun S hle hfr => .inl ⟨w0, ev_callee (hle.e rfl) (ev_call_v (bytecode_validInstr_1_fn k a3.A ((a0.Types.length : Nat) : Int) x28 hx28) (map_ev (.cons (hle.e rfl) (.cons (hle.e rfl) (.nil)))) [] (by repeat' (first | exact .nil | refine .cons ?_ ?_ | refine .one ?_ | refine .agg ?_ | exact .mk rfl | exact .lend (hle.heap _ _ rfl) (by simp) | exact .le (.nil _) rfl | exact .le (.emp _) rfl | exact .le (.any _) rfl | fail)) rfl rfl rfl (.inl rfl) (hle.d rfl))⟩) ?_
           refine ob [6, 0, 2, 5, 1, 4, 3] (fun S hle hfr => .inl ⟨w0, st_move (hle.e rfl) (hle.d rfl)⟩) ?_
           refine ob [7, 6, 0, 2, 5, 1, 4, 3] (fun S hle hfr => .inl ⟨wy hle q29, st_move (hle.e rfl) (hle.d rfl)⟩) ?_
           refine ob [7, 6, 0, 2, 5, 1, 4, 3] (fun S hle hfr => .inl ⟨wy hle q29, ev_field (hle.e rfl) rfl (hle.d rfl)⟩) ?_
           refine ob [9, 7, 6, 0, 2, 5, 1, 4, 3] (fun S hle hfr => .inl ⟨wy hle q29, ev_load (hle.e rfl) (hle.heap _ _ rfl) rfl (hle.d rfl)⟩) ?_
           refine ob [7, 6, 0, 2, 5, 1, 4, 3] (fun S hle hfr => .inl ⟨wy hle q29, ev_field (hle.e rfl) rfl (hle.d rfl)⟩) ?_
           refine ob [11, 7, 6, 0, 2, 5, 1, 4, 3] (fun S hle hfr => .inl ⟨wy hle q29, ev_load (hle.e rfl) (hle.heap _ _ rfl) rfl (hle.d rfl)⟩) ?_
           refine ob [7, 6, 0, 2, 5, 1, 4, 3] (fun S hle hfr => .inl ⟨wy hle q29, ev_field (hle.e rfl) rfl (hle.d rfl)⟩) ?_
           refine ob [13, 7, 6, 0, 2, 5, 1, 4, 3] (fun S hle hfr => .inl ⟨wy hle q29, ev_load (hle.e rfl) (hle.heap _ _ rfl) rfl (hle.d rfl)⟩) ?_
           refine ob [12, 14, 7, 11, 13, 6, 0, 2, 5, 1, 4, 3] (fun S hle hfr => .inl ⟨wy hle q29, ev_index_in (hle.e rfl) (hle.e rfl) (Md.idx_eq g30) (Md.idx_lt g30) rfl (hle.d rfl)⟩) ?_
           refine ob [15, 7, 12, 14, 6, 11, 13, 0, 2, 5, 1, 4, 3] (fun S hle hfr => .inl ⟨wy hle q29, ev_field_in (hle.e rfl) rfl (hle.d rfl)⟩) ?_
           refine ob [16, 7, 15, 6, 12, 14, 0, 2, 5, 11, 13, 1, 4, 3] (fun S hle hfr => .inl ⟨wy hle q29, ev_load_in (hle.e rfl) rfl (hle.d rfl)⟩) ?_
           refine ob [17, 7, 16, 6, 15, 0, 2, 5, 12, 14, 1, 4, 11, 13, 3] (fun S hle hfr => .inl ⟨wy hle q29, ev_len_slc (hle.e rfl) (hle.d rfl)⟩) ?_
           exact trivial
          case hk1x => rfl
          case hf1x => rfl
          refine aops_yes rfl rfl rfl rfl q29 (ev_callee rfl (ev_call_v (bytecode_validInstr_1_fn k a3.B ((((a0.Types.getD ((a3.A).toNat) default).Methods).length : Nat) : Int) x31 hx31) rfl [] ai rfl rfl rfl (.inl rfl) rfl)) (s_py q29 ?_)
          refine s_sa ?_
          refine aops_nil ?_
          cases Option.some.inj h
          exact aw_ret ⟨rfl, rv r1⟩
        replace h := Md.cond_f h q29
        refine aw_seq ?_
        apply aw_draw 19 ((⟨[], .one (.fn 83 [])⟩ : Add) :: ⟨[], .one (.ptr 3 _)⟩ :: ⟨[], vI a3.A⟩ :: ⟨[], .one (.ptr 0 _)⟩ :: ⟨[], .one (CV.ls c_CodeType a0.Types)⟩ :: ⟨[], vI ((a0.Types.length : Nat) : Int)⟩ :: ⟨[], vB x28⟩ :: ⟨[], vB x28⟩ :: ⟨[], .tup []⟩ :: ⟨[], .tup []⟩ :: ⟨[], .tup []⟩ :: ⟨[], .tup []⟩ :: ⟨[], .tup []⟩ :: ⟨[], .tup []⟩ :: ⟨[], .tup []⟩ :: ⟨[], .tup []⟩ :: ⟨[], .tup []⟩ :: ⟨[], .tup []⟩ :: ⟨[], .tup []⟩ :: []) (by decide) rfl ?hk2x ?hf2x ?ho2x ?hr2x
        case ho2x =>
         refine ob [] (fun S hle hfr => .inl ⟨w0, st_move (hle.e rfl) (hle.d rfl)⟩) (ob [] (fun S hle hfr => .inl ⟨w0, ev_field (hle.e rfl) rfl (hle.d rfl)⟩) ?_)
         refine ob [1] (fun S hle hfr => .inl ⟨w0, ev_load (hle.e rfl) (hle.heap _ _ rfl) rfl (hle.d rfl)⟩) ?_
         refine ob [] (fun S hle hfr => .inl ⟨w0, ev_field (hle.e rfl) rfl (hle.d rfl)⟩) ?_
         refine ob [3] (fun S hle hfr => .inl ⟨w0, ev_load (hle.e rfl) (hle.heap _ _ rfl) rfl (hle.d rfl)⟩) ?_
         refine ob [4, 3] (fun S hle hfr => .inl ⟨w0, ev_len_slc (hle.e rfl) (hle.d rfl)⟩) ?_
         refine ob [0, 2, 5, 1, 4, 3] (fun S hle hfr => .inl ⟨w0, ev_callee (hle.e rfl) (ev_call_v (bytecode_validInstr_1_fn k a3.A ((a0.Types.length : Nat) : Int) x28 hx28) (map_ev (.cons (hle.e rfl) (.cons (hle.e rfl) (.nil)))) [] (by repeat' (first | exact .nil | refine .cons ?_ ?_ | refine .one ?_ | refine .agg ?_ | exact .mk rfl | exact .lend (hle.heap _ _ rfl) (by simp) | exact .le (.nil _) rfl | exact .le (.emp _) rfl | exact .le (.any _) rfl | fail)) rfl rfl rfl (.inl rfl) (hle.d rfl))⟩) ?_
         refine ob [6, 0, 2, 5, 1, 4, 3] (fun S hle hfr => .inl ⟨w0, st_move (hle.e rfl) (hle.d rfl)⟩) (ob [7, 6, 0, 2, 5, 1, 4, 3] (fun S hle hfr => nw hle q29) ?_)
         refine ob [7, 6, 0, 2, 5, 1, 4, 3] (fun S hle hfr => nw hle q29) (ob [9, 7, 6, 0, 2, 5, 1, 4, 3] (fun S hle hfr => nw hle q29) ?_)
         refine ob [7, 6, 0, 2, 5, 1, 4, 3] (fun S hle hfr => nw hle q29) (ob [11, 7, 6, 0, 2, 5, 1, 4, 3] (fun S hle hfr => nw hle q29) ?_)
         refine ob [7, 6, 0, 2, 5, 1, 4, 3] (fun S hle hfr => nw hle q29) (ob [13, 7, 6, 0, 2, 5, 1, 4, 3] (fun S hle hfr => nw hle q29) ?_)
         refine ob [12, 14, 7, 11, 13, 6, 0, 2, 5, 1, 4, 3] (fun S hle hfr => nw hle q29) (ob [15, 7, 12, 14, 6, 11, 13, 0, 2, 5, 1, 4, 3] (fun S hle hfr => nw hle q29) ?_)
         refine ob [16, 7, 15, 6, 12, 14, 0, 2, 5, 11, 13, 1, 4, 3] (fun S hle hfr => nw hle q29) ?_
         refine ob [17, 7, 16, 6, 15, 0, 2, 5, 12, 14, 1, 4, 11, 13, 3] (fun S hle hfr => nw hle q29) ?_
         exact trivial
        case hk2x => rfl
        case hf2x => rfl
        refine np q29 ?_
        refine s_pn q29 ?_
        refine s_sa ?_
        refine aops_nil ?_
        cases Option.some.inj h
        exact aw_ret ⟨rfl, rv r1⟩
      replace h := Md.cond_f h c27
      refine aw_skip (aw_seq (aw_region (s_sa ?_)))
      refine aops_nil ?_
      cases Option.some.inj h
      exact aw_ret ⟨rfl, rv r1⟩
    rcases Md.bool_or ((a3.Op != 1)) with q6 | q6
    · replace j6 := Md.cond_t j6 q6
      refine y_fd q6 ?_
      refine aops_yes rfl rfl rfl rfl q6 (ev_loads (ds := [_, _, _, _, _]) rfl rfl rfl rfl rfl) ?_
      refine aops_yes rfl rfl rfl rfl q6 (ev_build' (out := [_, _, _, _, _]) rfl rfl rfl rfl rfl) ?_
      obtain ⟨x32, hx32, j6⟩ := Md.bind_s j6
      refine aops_yes rfl rfl rfl rfl q6 (ev_call_v (wire_SameValue_fn k a3.Value (⟨0, 0, ([] : List UInt8), ([] : List Int), ([] : List (List UInt8))⟩ : Value) x32 hx32) rfl [] ai rfl rfl rfl (.inl rfl) rfl) (y_nt q6 ?_)
      refine s_py q6 ?_
      refine aops_nil ?_
      show ∃ _x : Bool, _ = _ ∧ Weak _ _
      exact ⟨(!x32), Option.some.inj j6, wk⟩
    replace j6 := Md.cond_f j6 q6
    iterate 5 refine np q6 ?_
    refine s_pn q6 ?_
    refine aops_nil ?_
    show ∃ _x : Bool, _ = _ ∧ Weak _ _
    exact ⟨false, Option.some.inj j6, wk⟩
  rcases Md.bool_or (((decide (a3.Op < 1)) || (decide (a3.Op > 36)))) with q2 | q2
  · replace j2 := Md.cond_t j2 q2
    iterate 5 refine np q2 ?_
    iterate 3 refine aops_und rfl rfl rfl rfl rfl ?_
    refine np q2 ?_
    refine s_py q2 ?_
    refine aops_nil ?_
    show ∃ _x : Bool, _ = _ ∧ Weak _ _
    exact ⟨true, Option.some.inj j2, wk⟩
  replace j2 := Md.cond_f j2 q2
  refine y_fd q2 ?_
  refine y_ld q2 ?_
  obtain ⟨x33, hx33, j2⟩ := Md.bind_s j2
  refine aops_yes rfl rfl rfl rfl q2 (ev_call_v (bytecode_usesA_fn k a3.Op x33 hx33) rfl [] ai rfl rfl rfl (.inl rfl) rfl) (y_nt q2 ?_)
  refine y_mv q2 ?_
  refine aops_mid 4 (⟨122, [], [(4, .one (.ptr 0 0)), (5, .one (.ptr 1 0)), (6, .one (.ptr 2 0)), (7, .one (.ptr 3 0)), (18, vB ((decide (a3.Op < 1)) || (decide (a3.Op > 36)))), (27, vB ((!x33) && (a3.A != 0)))], [(0, some (.box [CV.ls c_CodeType a0.Types])), (1, some (.box (c_CodeType a1))), (2, some (.box (c_CodeMethod a2))), (3, some (.box (c_Instr a3)))]⟩ : ASt) ?_ ?_
  · rcases Md.bool_or ((!x33)) with q34 | q34
    · skip
      refine y_fd q34 ?_
      refine y_ld q34 ?_
      refine y_cm q34 ?_
      refine aops_yes rfl rfl rfl rfl q2 (st_pick_yes rfl (by first | rfl | exact q34) rfl rfl) (aops_nil ?_)
      exact wq q34
    iterate 3 refine np q34 ?_
    refine aops_yes rfl rfl rfl rfl q2 (st_pick_no rfl (by first | rfl | exact q34) rfl rfl) (aops_nil ?_)
    exact wq q34
  refine s_pn q2 ?_
  refine aops_nil ?_
  show ∃ _x : Bool, _ = _ ∧ Weak _ _
  exact ⟨((!x33) && (a3.A != 0)), Option.some.inj j2, wk⟩
set_option maxHeartbeats 2000000 in
theorem bytecode_validMethod_1_fn (k : Nat) (a0 : Instr) (c0 : Code) (c1 : CodeType) (c2 : CodeMethod) (r : Bool) (h : bytecode_validMethod_1 k a0 c0 c1 c2 = some r) : FnC Try.prog 69 [.agg (c_Instr a0), .one (.cptr [CV.ls c_CodeType c0.Types]), .one (.cptr [.val (Sv c1.Name), CV.ls c_Field c1.Fields, CV.ls c_CodeMethod c1.Methods]), .one (.cptr [.val (Sv c2.Name), CV.ls c_Int c2.Params, cI c2.Result, CV.ls c_Int c2.Locals, CV.ls c_Instr c2.Code])] [] (Det (vB r) []) := by
  unfold bytecode_validMethod_1 at h
  refine fn_intro' 12 Try.func69 rfl rfl rfl (aw_seq (aw_region (aops_step1 rfl (st_box 0 rfl rfl rfl rfl) (s_sa ?_))))
  refine aops_nil (aw_seq (aw_region (aops_step1 rfl (ev_loads_in (ds := [_]) rfl rfl rfl rfl) (aops_step1 rfl (ev_loads_in (ds := [_, _, _]) rfl rfl rfl rfl) ?_))))
  refine aops_step1 rfl (ev_loads_in (ds := [_, _, _, _, _]) rfl rfl rfl rfl) (s_ls [_, _, _, _, _, _, _, _] ?_)
  obtain ⟨x1, hx1, h⟩ := Md.bind_s h
  refine aops_step1 rfl (ev_call_v (bytecode_validInstr_fn k c0 c1 c2 a0 x1 hx1) rfl [] ai rfl rfl rfl (.inl rfl) rfl) (s_nt ?_)
  refine s_sa ?_
  refine aops_nil ?_
  cases Option.some.inj h
  exact aw_ret ⟨rfl, rv r1⟩
set_option maxHeartbeats 2000000 in
theorem zqbs (k : Nat) (a0 : List Instr) (c1_0 : Code) (c1_1 : CodeType) (c1_2 : CodeMethod) (r : Int) (h : zqbr k a0 c1_0 c1_1 c1_2 = some r) : FnC Try.prog 81 [.one (CV.ls c_Instr a0), .one (.fn 69 [.cptr [CV.ls c_CodeType c1_0.Types], .cptr [.val (Sv c1_1.Name), CV.ls c_Field c1_1.Fields, CV.ls c_CodeMethod c1_1.Methods], .cptr [.val (Sv c1_2.Name), CV.ls c_Int c1_2.Params, cI c1_2.Result, CV.ls c_Int c1_2.Locals, CV.ls c_Instr c1_2.Code]])] [] (Det (vI r) []) := by
  unfold zqbr at h
  refine fn_intro' 19 Try.func81 rfl rfl rfl (aw_seq (aw_region (s_sa ?_)))
  refine aops_nil (aw_seq (aw_seq (aw_region (s_mv ?_))))
  refine s_ln ?_
  refine s_mv ?_
  refine aops_nil (aw_block ?_)
  obtain ⟨o1, ho1, h⟩ := Md.bind_s h
  refine aw_loop_x (ι := {p : Nat × Nat // zqbt k a0 c1_0 c1_1 c1_2 p.1 p.2 = some o1}) (fun p => (⟨19, [], [(0, .one (CV.ls c_Instr a0)), (1, .one (.fn 69 [.cptr [CV.ls c_CodeType c1_0.Types], .cptr [.val (Sv c1_1.Name), CV.ls c_Field c1_1.Fields, CV.ls c_CodeMethod c1_1.Methods], .cptr [.val (Sv c1_2.Name), CV.ls c_Int c1_2.Params, cI c1_2.Result, CV.ls c_Int c1_2.Locals, CV.ls c_Instr c1_2.Code]])), (7, vI ((a0.length : Nat) : Int)), (8, vI ((p.1.2 : Nat) : Int))], []⟩ : ASt)) (fun p => p.1.1) ⟨(k, 0), ho1⟩ wk 0 (ε := Unit) (fun x => (⟨19, [], [], []⟩ : ASt)) (fun x => Sum.inl x = o1) (fun _ _ w h => aw_weak w h) ?_ ?_
  · intro x1_0 hI1
    subst hI1
    replace h := Md.onS_l h
    change AW _ _ (⟨19, [], [], []⟩ : ASt) _
    refine aw_seq (aw_region (s_sa ?_))
    refine aops_nil ?_
    cases Option.some.inj h
    exact aw_ret ⟨rfl, rv r1⟩
  intro p1
  obtain ⟨⟨n1, s1_0⟩, l1⟩ := p1
  change AW _ _ (⟨19, [], [(0, .one (CV.ls c_Instr a0)), (1, .one (.fn 69 [.cptr [CV.ls c_CodeType c1_0.Types], .cptr [.val (Sv c1_1.Name), CV.ls c_Field c1_1.Fields, CV.ls c_CodeMethod c1_1.Methods], .cptr [.val (Sv c1_2.Name), CV.ls c_Int c1_2.Params, cI c1_2.Result, CV.ls c_Int c1_2.Locals, CV.ls c_Instr c1_2.Code]])), (7, vI ((a0.length : Nat) : Int)), (8, vI ((s1_0 : Nat) : Int))], []⟩ : ASt) _
  replace l1 : zqbt k a0 c1_0 c1_1 c1_2 n1 s1_0 = some o1 := l1
  rcases n1 with _ | n1
  · exact absurd (show none = some o1 from l1) nofun
  rw [zqbt] at l1
  refine aw_seq (aw_region (s_cm ?_))
  refine aops_nil (aw_seq ?_)
  refine aw_cond rfl (fun c2 => ?_) (fun c2 => ?_)
  · replace l1 := Md.cond_t l1 c2
    refine aw_skip (aw_seq (aw_block (aw_seq (aw_region (s_mv ?_)))))
    refine s_sa ?_
    refine aops_nil (aw_seq (aw_region ?_))
    iterate 3 refine s_mv ?_
    obtain ⟨g3, l1⟩ := Md.ifp_s l1
    refine aops_step1 rfl (ev_index_in rfl rfl rfl g3 rfl rfl) (aops_step1 rfl (ev_loads_in (ds := [_, _, _, _, _, _, _, _]) rfl rfl rfl rfl) ?_)
    obtain ⟨x4, hx4, l1⟩ := Md.bind_s l1
    refine aops_step1 rfl (ev_call_cap_v (bytecode_validMethod_1_fn k (a0.getD s1_0 default) c1_0 c1_1 c1_2 x4 hx4) rfl rfl [] ai rfl rfl rfl (.inl rfl) rfl) ?_
    refine aops_nil ?_
    refine aw_cond rfl (fun c5 => ?_) (fun c5 => ?_)
    · replace l1 := Md.cond_t l1 c5
      refine aw_seq (aw_region (s_mv ?_))
      refine s_sa ?_
      refine aops_nil ?_
      cases Option.some.inj l1
      replace h := Md.onS_r h
      cases Option.some.inj h
      exact aw_ret ⟨rfl, rv r1⟩
    replace l1 := Md.cond_f l1 c5
    refine aw_skip (aw_region ?_)
    obtain ⟨g6, l1⟩ := Md.ifp_s l1
    refine aops_step1 rfl (ev_add rfl rfl rfl (Md.nat_add g6)) (s_mv ?_)
    refine aops_nil ?_
    exact ⟨⟨(n1, (s1_0 + 1)), l1⟩, Nat.lt_succ_self _, wk⟩
  replace l1 := Md.cond_f l1 c2
  refine aw_exit ?_
  show ∃ _x : Unit, _ = _ ∧ Weak _ _
  exact ⟨(), Option.some.inj l1, wk⟩
set_option maxHeartbeats 2000000 in
theorem zqat (k : Nat) (a0 : List Instr) (c1_0 : Code) (c1_1 : CodeType) (c1_2 : CodeMethod) (r : Bool) (h : zqas k a0 c1_0 c1_1 c1_2 = some r) : FnC Try.prog 68 [.one (CV.ls c_Instr a0), .one (.fn 69 [.cptr [CV.ls c_CodeType c1_0.Types], .cptr [.val (Sv c1_1.Name), CV.ls c_Field c1_1.Fields, CV.ls c_CodeMethod c1_1.Methods], .cptr [.val (Sv c1_2.Name), CV.ls c_Int c1_2.Params, cI c1_2.Result, CV.ls c_Int c1_2.Locals, CV.ls c_Instr c1_2.Code]])] [] (Det (vB r) []) := by
  unfold zqas at h
  refine fn_intro' 9 Try.func68 rfl rfl rfl (aw_seq (aw_region (s_sa ?_)))
  refine aops_nil (aw_seq (aw_region ?_))
  iterate 2 refine s_mv ?_
  obtain ⟨x1, hx1, h⟩ := Md.bind_s h
  refine aops_step1 rfl (ev_call_v (zqbs k a0 c1_0 c1_1 c1_2 x1 hx1) rfl [] ai rfl rfl rfl (.inl rfl) rfl) (s_cm ?_)
  refine s_sa ?_
  refine aops_nil ?_
  cases Option.some.inj h
  exact aw_ret ⟨rfl, rv r1⟩
set_option maxHeartbeats 2000000 in
theorem bytecode_validMethod_fn (k : Nat) (a0 : Code) (a1 : CodeType) (a2 : CodeMethod) (r : Bool) (h : bytecode_validMethod k a0 a1 a2 = some r) : FnC Try.prog 42 [.agg [CV.ls c_CodeType a0.Types], .agg (c_CodeType a1), .agg (c_CodeMethod a2)] [] (Det (vB r) []) := by
  unfold bytecode_validMethod at h
  refine fn_intro' 70 Try.func42 rfl rfl rfl (aw_seq (aw_region (aops_step1 rfl (st_box 0 rfl rfl rfl rfl) (aops_step1 rfl (st_box 1 rfl rfl rfl rfl) ?_))))
  refine aops_step1 rfl (st_box 2 rfl rfl rfl rfl) (s_sa ?_)
  refine aops_nil (aw_seq (aw_frbox 0 rfl (aw_frbox 1 rfl (aw_frbox 2 rfl (aw_seq (aw_region (aops_step1 rfl (ev_field_in rfl rfl rfl) (aops_step1 rfl (ev_load_in rfl rfl rfl) (s_ln ?_)))))))))
  refine s_cm ?_
  refine s_mv ?_
  obtain ⟨o1, j1, h⟩ := Md.bind_s h
  refine aops_cut 5 (ε := Bool) (fun x1 => (⟨70, [], [(3, .one (.cptr [CV.ls c_CodeType a0.Types])), (4, .one (.cptr [.val (Sv a1.Name), CV.ls c_Field a1.Fields, CV.ls c_CodeMethod a1.Methods])), (5, .one (.cptr [.val (Sv a2.Name), CV.ls c_Int a2.Params, cI a2.Result, CV.ls c_Int a2.Locals, CV.ls c_Instr a2.Code])), (16, vB x1)], []⟩ : ASt)) (fun x1 => x1 = o1) ?_ ?_
  · intro x1 hI1
    subst hI1
    change AOps _ _ _ (⟨70, [], [(3, .one (.cptr [CV.ls c_CodeType a0.Types])), (4, .one (.cptr [.val (Sv a1.Name), CV.ls c_Field a1.Fields, CV.ls c_CodeMethod a1.Methods])), (5, .one (.cptr [.val (Sv a2.Name), CV.ls c_Int a2.Params, cI a2.Result, CV.ls c_Int a2.Locals, CV.ls c_Instr a2.Code])), (16, vB x1)], []⟩ : ASt) _
    refine s_mv ?_
    obtain ⟨o2, j2, h⟩ := Md.bind_s h
    refine aops_cut 10 (ε := Bool) (fun x2 => (⟨70, [], [(3, .one (.cptr [CV.ls c_CodeType a0.Types])), (4, .one (.cptr [.val (Sv a1.Name), CV.ls c_Field a1.Fields, CV.ls c_CodeMethod a1.Methods])), (5, .one (.cptr [.val (Sv a2.Name), CV.ls c_Int a2.Params, cI a2.Result, CV.ls c_Int a2.Locals, CV.ls c_Instr a2.Code])), (27, vB x2)], []⟩ : ASt)) (fun x2 => x2 = o2) ?_ ?_
    · intro x2 hI2
      subst hI2
      change AOps _ _ _ (⟨70, [], [(3, .one (.cptr [CV.ls c_CodeType a0.Types])), (4, .one (.cptr [.val (Sv a1.Name), CV.ls c_Field a1.Fields, CV.ls c_CodeMethod a1.Methods])), (5, .one (.cptr [.val (Sv a2.Name), CV.ls c_Int a2.Params, cI a2.Result, CV.ls c_Int a2.Locals, CV.ls c_Instr a2.Code])), (27, vB x2)], []⟩ : ASt) _
      refine aops_nil ?_
      refine aw_cond rfl (fun c3 => ?_) (fun c3 => ?_)
      · replace h := Md.cond_t h c3
        refine aw_seq (aw_region (s_sa ?_))
        refine aops_nil ?_
        cases Option.some.inj h
        exact aw_ret ⟨rfl, rv r1⟩
      replace h := Md.cond_f h c3
      refine aw_skip (aw_seq ?_)
      rcases Md.bool_or ((decide (((a2.Locals.length : Nat) : Int) > 8))) with q4 | q4
      · replace h := Md.cond_t h q4
        refine aw_seq ?_
        apply aw_draw 28 ((⟨[], .one (.cptr _)⟩ : Add) :: ⟨[], .one (CV.ls c_Int a2.Locals)⟩ :: ⟨[], vI ((a2.Locals.length : Nat) : Int)⟩ :: ⟨[], vB (decide (((a2.Locals.length : Nat) : Int) > 8))⟩ :: ⟨[], vB (decide (((a2.Locals.length : Nat) : Int) > 8))⟩ :: ⟨[], .tup []⟩ :: ⟨[], .tup []⟩ :: ⟨[], .tup []⟩ :: ⟨[], .tup []⟩ :: ⟨[], vB true⟩ :: ⟨[], vB true⟩ :: ⟨[], .tup []⟩ :: ⟨[], .tup []⟩ :: ⟨[], .tup []⟩ :: ⟨[], .tup []⟩ :: ⟨[], .tup []⟩ :: ⟨[], .tup []⟩ :: ⟨[], .tup []⟩ :: ⟨[], vB true⟩ :: ⟨[], vB true⟩ :: ⟨[], .tup []⟩ :: ⟨[], .tup []⟩ :: ⟨[], .tup []⟩ :: ⟨[], .tup []⟩ :: ⟨[], .tup []⟩ :: ⟨[], .tup []⟩ :: ⟨[], .tup []⟩ :: ⟨[], .tup []⟩ :: []) (by decide) rfl ?hk1x ?hf1x ?ho1x ?hr1x
        case ho1x =>
         refine ob [] (fun S hle hfr => .inl ⟨w0, ev_field_in (hle.e rfl) rfl (hle.d rfl)⟩) (ob [0] (fun S hle hfr => .inl ⟨w0, ev_load_in (hle.e rfl) rfl (hle.d rfl)⟩) ?_)
         refine ob [1, 0] (fun S hle hfr => .inl ⟨w0, ev_len_slc (hle.e rfl) (hle.d rfl)⟩) ?_
         refine ob [2, 1, 0] (fun S hle hfr => .inl ⟨w0, ev_cmp (hle.e rfl) (hle.e rfl) (hle.d rfl) rfl⟩) ?_
         refine ob [3, 2, 1, 0] (fun S hle hfr => .inl ⟨w0, st_move (hle.e rfl) (hle.d rfl)⟩) (ob [4, 3, 2, 1, 0] (fun S hle hfr => nw hle q4) ?_)
         refine ob [5, 4, 3, 2, 1, 0] (fun S hle hfr => nw hle q4) (ob [6, 4, 5, 3, 2, 1, 0] (fun S hle hfr => nw hle q4) ?_)
         refine ob [7, 4, 6, 3, 5, 2, 1, 0] (fun S hle hfr => nw hle q4) ?_
         refine ob [4, 8, 3, 7, 2, 6, 1, 5, 0] (fun S hle hfr => .inl ⟨w0, st_pick_yes (hle.e rfl) (by first | rfl | exact q4) (hle.e rfl) (hle.d rfl)⟩) ?_
         refine ob [9, 7, 4, 8, 6, 3, 5, 2, 1, 0] (fun S hle hfr => .inl ⟨w0, st_move (hle.e rfl) (hle.d rfl)⟩) ?_
         refine ob [10, 9, 7, 4, 8, 6, 3, 5, 2, 1, 0] (fun S hle hfr => .inr ⟨.inr (.inl ⟨_, _, _, _, rfl, rfl, (hle.ev (x := .tmp _) rfl (by nofun)), (by rw [hle.nt]; rfl), (by first | rfl | (rw [rfl]; rfl))⟩), rfl, hle.d rfl⟩) ?_
         refine ob [11, 10, 9, 7, 4, 8, 6, 3, 5, 2, 1, 0] (fun S hle hfr => .inr ⟨.inr (.inl ⟨_, _, _, _, rfl, rfl, (hle.ev (x := .tmp _) rfl (by nofun)), (by rw [hle.nt]; rfl), (by first | rfl | (rw [rfl]; rfl))⟩), rfl, hle.d rfl⟩) ?_
         refine ob [12, 10, 11, 9, 7, 4, 8, 6, 3, 5, 2, 1, 0] (fun S hle hfr => .inr ⟨.inr (.inl ⟨_, _, _, _, rfl, rfl, (hle.ev (x := .tmp _) rfl (by nofun)), (by rw [hle.nt]; rfl), (by first | rfl | (rw [rfl]; rfl))⟩), rfl, hle.d rfl⟩) ?_
         refine ob [10, 9, 7, 4, 8, 6, 3, 5, 2, 1, 0] (fun S hle hfr => .inr ⟨.inr (.inl ⟨_, _, _, _, rfl, rfl, (hle.ev (x := .tmp _) rfl (by nofun)), (by rw [hle.nt]; rfl), (by first | rfl | (rw [rfl]; rfl))⟩), rfl, hle.d rfl⟩) ?_
         refine ob [14, 10, 9, 7, 4, 8, 6, 3, 5, 2, 1, 0] (fun S hle hfr => .inr ⟨.inr (.inl ⟨_, _, _, _, rfl, rfl, (hle.ev (x := .tmp _) rfl (by nofun)), (by rw [hle.nt]; rfl), (by first | rfl | (rw [rfl]; rfl))⟩), rfl, hle.d rfl⟩) ?_
         refine ob [15, 10, 14, 9, 7, 4, 8, 6, 3, 5, 2, 1, 0] (fun S hle hfr => .inr ⟨.inr (.inl ⟨_, _, _, _, rfl, rfl, (hle.ev (x := .tmp _) rfl (by nofun)), (by rw [hle.nt]; rfl), (by first | rfl | (rw [rfl]; rfl))⟩), rfl, hle.d rfl⟩) ?_
         refine ob [13, 16, 10, 12, 15, 9, 7, 11, 14, 4, 8, 6, 3, 5, 2, 1, 0] (fun S hle hfr => .inr ⟨.inr (.inl ⟨_, _, _, _, rfl, rfl, (hle.ev (x := .tmp _) rfl (by nofun)), (by rw [hle.nt]; rfl), (by first | rfl | (rw [rfl]; rfl))⟩), rfl, hle.d rfl⟩) ?_
         refine ob [10, 17, 9, 7, 13, 16, 4, 8, 6, 12, 15, 3, 5, 11, 14, 2, 1, 0] (fun S hle hfr => .inl ⟨w0, st_pick_yes (hle.e rfl) (by first | rfl | exact rfl) (hle.e rfl) (hle.d rfl)⟩) ?_
         refine ob [18, 10, 17, 9, 7, 13, 16, 4, 8, 6, 12, 15, 3, 5, 11, 14, 2, 1, 0] (fun S hle hfr => .inl ⟨w0, st_move (hle.e rfl) (hle.d rfl)⟩) ?_
         refine ob [19, 18, 10, 17, 9, 7, 13, 16, 4, 8, 6, 12, 15, 3, 5, 11, 14, 2, 1, 0] (fun S hle hfr => .inr ⟨.inr (.inl ⟨_, _, _, _, rfl, rfl, (hle.ev (x := .tmp _) rfl (by nofun)), (by rw [hle.nt]; rfl), (by first | rfl | (rw [rfl]; rfl))⟩), rfl, hle.d rfl⟩) ?_
         refine ob [20, 19, 18, 10, 17, 9, 7, 13, 16, 4, 8, 6, 12, 15, 3, 5, 11, 14, 2, 1, 0] (fun S hle hfr => .inr ⟨.inr (.inl ⟨_, _, _, _, rfl, rfl, (hle.ev (x := .tmp _) rfl (by nofun)), (by rw [hle.nt]; rfl), (by first | rfl | (rw [rfl]; rfl))⟩), rfl, hle.d rfl⟩) ?_
         refine ob [19, 18, 10, 17, 9, 7, 13, 16, 4, 8, 6, 12, 15, 3, 5, 11, 14, 2, 1, 0] (fun S hle hfr => .inr ⟨.inr (.inl ⟨_, _, _, _, rfl, rfl, (hle.ev (x := .tmp _) rfl (by nofun)), (by rw [hle.nt]; rfl), (by first | rfl | (rw [rfl]; rfl))⟩), rfl, hle.d rfl⟩) ?_
         refine ob [22, 19, 18, 10, 17, 9, 7, 13, 16, 4, 8, 6, 12, 15, 3, 5, 11, 14, 2, 1, 0] (fun S hle hfr => .inr ⟨.inr (.inl ⟨_, _, _, _, rfl, rfl, (hle.ev (x := .tmp _) rfl (by nofun)), (by rw [hle.nt]; rfl), (by first | rfl | (rw [rfl]; rfl))⟩), rfl, hle.d rfl⟩) ?_
         refine ob [23, 19, 22, 18, 10, 17, 9, 7, 13, 16, 4, 8, 6, 12, 15, 3, 5, 11, 14, 2, 1, 0] (fun S hle hfr => .inr ⟨.inr (.inl ⟨_, _, _, _, rfl, rfl, (hle.ev (x := .tmp _) rfl (by nofun)), (by rw [hle.nt]; rfl), (by first | rfl | (rw [rfl]; rfl))⟩), rfl, hle.d rfl⟩) ?_
         refine ob [21, 24, 19, 20, 23, 18, 10, 22, 17, 9, 7, 13, 16, 4, 8, 6, 12, 15, 3, 5, 11, 14, 2, 1, 0] (fun S hle hfr => .inr ⟨.inr (.inl ⟨_, _, _, _, rfl, rfl, (hle.ev (x := .tmp _) rfl (by nofun)), (by rw [hle.nt]; rfl), (by first | rfl | (rw [rfl]; rfl))⟩), rfl, hle.d rfl⟩) ?_
         refine ob [19, 18, 10, 17, 9, 7, 13, 16, 4, 8, 6, 12, 15, 3, 5, 11, 14, 2, 1, 0] (fun S hle hfr => .inr ⟨.inr (.inl ⟨_, _, _, _, rfl, rfl, (hle.ev (x := .tmp _) rfl (by nofun)), (by rw [hle.nt]; rfl), (by first | rfl | (rw [rfl]; rfl))⟩), rfl, hle.d rfl⟩) ?_
         refine ob [26, 19, 18, 10, 17, 9, 7, 13, 16, 4, 8, 6, 12, 15, 3, 5, 11, 14, 2, 1, 0] (fun S hle hfr => .inr ⟨.inr (.inl ⟨_, _, _, _, rfl, rfl, (hle.ev (x := .tmp _) rfl (by nofun)), (by rw [hle.nt]; rfl), (by first | rfl | (rw [rfl]; rfl))⟩), rfl, hle.d rfl⟩) ?_
         exact trivial
        case hk1x => rfl
        case hf1x => rfl
        refine aops_no rfl rfl rfl rfl rfl (by decide) (aops_no rfl rfl rfl rfl rfl (by decide) (aops_step1 rfl (st_pick_yes rfl (by first | rfl | exact rfl) rfl rfl) (s_mv ?_)))
        iterate 4 refine aops_no rfl rfl rfl rfl rfl (by decide) ?_
        refine aops_step1 rfl (st_pick_yes rfl (by first | rfl | exact rfl) rfl rfl) (aops_nil (aw_yes rfl (rfl) (aw_seq (aw_region (s_sa ?_)))))
        refine aops_nil ?_
        cases Option.some.inj h
        exact aw_ret ⟨rfl, rv r1⟩
      replace h := Md.cond_f h q4
      obtain ⟨x5, hx5, h⟩ := Md.bind_s h
      rcases Md.bool_or ((!x5)) with q6 | q6
      · replace h := Md.cond_t h q6
        refine aw_seq ?_
        apply aw_draw 28 ((⟨[], .one (.cptr _)⟩ : Add) :: ⟨[], .one (CV.ls c_Int a2.Locals)⟩ :: ⟨[], vI ((a2.Locals.length : Nat) : Int)⟩ :: ⟨[], vB (decide (((a2.Locals.length : Nat) : Int) > 8))⟩ :: ⟨[], vB (decide (((a2.Locals.length : Nat) : Int) > 8))⟩ :: ⟨[], .one (.cptr _)⟩ :: ⟨[], .one (CV.ls c_Int a2.Locals)⟩ :: ⟨[], vB x5⟩ :: ⟨[], vB (!x5)⟩ :: ⟨[], vB (!x5)⟩ :: ⟨[], vB (!x5)⟩ :: ⟨[], .tup []⟩ :: ⟨[], .tup []⟩ :: ⟨[], .tup []⟩ :: ⟨[], .tup []⟩ :: ⟨[], .tup []⟩ :: ⟨[], .tup []⟩ :: ⟨[], .tup []⟩ :: ⟨[], vB true⟩ :: ⟨[], vB true⟩ :: ⟨[], .tup []⟩ :: ⟨[], .tup []⟩ :: ⟨[], .tup []⟩ :: ⟨[], .tup []⟩ :: ⟨[], .tup []⟩ :: ⟨[], .tup []⟩ :: ⟨[], .tup []⟩ :: ⟨[], .tup []⟩ :: []) (by decide) rfl ?hk2x ?hf2x ?ho2x ?hr2x
        case ho2x =>
         refine ob [] (fun S hle hfr => .inl ⟨w0, ev_field_in (hle.e rfl) rfl (hle.d rfl)⟩) (ob [0] (fun S hle hfr => .inl ⟨w0, ev_load_in (hle.e rfl) rfl (hle.d rfl)⟩) ?_)
         refine ob [1, 0] (fun S hle hfr => .inl ⟨w0, ev_len_slc (hle.e rfl) (hle.d rfl)⟩) ?_
         refine ob [2, 1, 0] (fun S hle hfr => .inl ⟨w0, ev_cmp (hle.e rfl) (hle.e rfl) (hle.d rfl) rfl⟩) ?_
         refine ob [3, 2, 1, 0] (fun S hle hfr => .inl ⟨w0, st_move (hle.e rfl) (hle.d rfl)⟩) ?_
         refine ob [4, 3, 2, 1, 0] (fun S hle hfr => .inl ⟨wy hle q4, ev_field_in (hle.e rfl) rfl (hle.d rfl)⟩) ?_
         refine ob [5, 4, 3, 2, 1, 0] (fun S hle hfr => .inl ⟨wy hle q4, ev_load_in (hle.e rfl) rfl (hle.d rfl)⟩) ?_
         refine ob [6, 4, 5, 3, 2, 1, 0] (fun S hle hfr => .inl ⟨wy hle q4, ev_call_v (bytecode_kindsOf_fn k a2.Locals x5 hx5) (map_ev (.cons (hle.e rfl) (.nil))) [] (by repeat' (first | exact .nil | refine .cons ?_ ?_ | refine .one ?_ | refine .agg ?_ | exact .mk rfl | exact .lend (hle.heap _ _ rfl) (by simp) | exact .le (.nil _) rfl | exact .le (.emp _) rfl | exact .le (.any _) rfl | fail)) rfl rfl rfl (.inl rfl) (hle.d rfl)⟩) ?_
         refine ob [7, 4, 6, 3, 5, 2, 1, 0] (fun S hle hfr => .inl ⟨wy hle q4, ev_not (hle.e rfl) (hle.d rfl)⟩) ?_
         refine ob [4, 8, 3, 7, 2, 6, 1, 5, 0] (fun S hle hfr => .inl ⟨w0, st_pick_no (hle.e rfl) (by first | rfl | exact q4) (hle.e rfl) (hle.d rfl)⟩) ?_
         refine ob [9, 7, 4, 8, 6, 3, 5, 2, 1, 0] (fun S hle hfr => .inl ⟨w0, st_move (hle.e rfl) (hle.d rfl)⟩) ?_
         refine ob [10, 9, 7, 4, 8, 6, 3, 5, 2, 1, 0] (fun S hle hfr => nw hle q6) (ob [11, 10, 9, 7, 4, 8, 6, 3, 5, 2, 1, 0] (fun S hle hfr => nw hle q6) ?_)
         refine ob [12, 10, 11, 9, 7, 4, 8, 6, 3, 5, 2, 1, 0] (fun S hle hfr => nw hle q6) (ob [10, 9, 7, 4, 8, 6, 3, 5, 2, 1, 0] (fun S hle hfr => nw hle q6) ?_)
         refine ob [14, 10, 9, 7, 4, 8, 6, 3, 5, 2, 1, 0] (fun S hle hfr => nw hle q6) (ob [15, 10, 14, 9, 7, 4, 8, 6, 3, 5, 2, 1, 0] (fun S hle hfr => nw hle q6) ?_)
         refine ob [13, 16, 10, 12, 15, 9, 7, 11, 14, 4, 8, 6, 3, 5, 2, 1, 0] (fun S hle hfr => nw hle q6) ?_
         refine ob [10, 17, 9, 7, 13, 16, 4, 8, 6, 12, 15, 3, 5, 11, 14, 2, 1, 0] (fun S hle hfr => .inl ⟨w0, st_pick_yes (hle.e rfl) (by first | rfl | exact q6) (hle.e rfl) (hle.d rfl)⟩) ?_
         refine ob [18, 10, 17, 9, 7, 13, 16, 4, 8, 6, 12, 15, 3, 5, 11, 14, 2, 1, 0] (fun S hle hfr => .inl ⟨w0, st_move (hle.e rfl) (hle.d rfl)⟩) ?_
         refine ob [19, 18, 10, 17, 9, 7, 13, 16, 4, 8, 6, 12, 15, 3, 5, 11, 14, 2, 1, 0] (fun S hle hfr => .inr ⟨.inr (.inl ⟨_, _, _, _, rfl, rfl, (hle.ev (x := .tmp _) rfl (by nofun)), (by rw [hle.nt]; rfl), (by first | rfl | (rw [rfl]; rfl))⟩), rfl, hle.d rfl⟩) ?_
         refine ob [20, 19, 18, 10, 17, 9, 7, 13, 16, 4, 8, 6, 12, 15, 3, 5, 11, 14, 2, 1, 0] (fun S hle hfr => .inr ⟨.inr (.inl ⟨_, _, _, _, rfl, rfl, (hle.ev (x := .tmp _) rfl (by nofun)), (by rw [hle.nt]; rfl), (by first | rfl | (rw [rfl]; rfl))⟩), rfl, hle.d rfl⟩) ?_
         refine ob [19, 18, 10, 17, 9, 7, 13, 16, 4, 8, 6, 12, 15, 3, 5, 11, 14, 2, 1, 0] (fun S hle hfr => .inr ⟨.inr (.inl ⟨_, _, _, _, rfl, rfl, (hle.ev (x := .tmp _) rfl (by nofun)), (by rw [hle.nt]; rfl), (by first | rfl | (rw [rfl]; rfl))⟩), rfl, hle.d rfl⟩) ?_
         refine ob [22, 19, 18, 10, 17, 9, 7, 13, 16, 4, 8, 6, 12, 15, 3, 5, 11, 14, 2, 1, 0] (fun S hle hfr => .inr ⟨.inr (.inl ⟨_, _, _, _, rfl, rfl, (hle.ev (x := .tmp _) rfl (by nofun)), (by rw [hle.nt]; rfl), (by first | rfl | (rw [rfl]; rfl))⟩), rfl, hle.d rfl⟩) ?_
         refine ob [23, 19, 22, 18, 10, 17, 9, 7, 13, 16, 4, 8, 6, 12, 15, 3, 5, 11, 14, 2, 1, 0] (fun S hle hfr => .inr ⟨.inr (.inl ⟨_, _, _, _, rfl, rfl, (hle.ev (x := .tmp _) rfl (by nofun)), (by rw [hle.nt]; rfl), (by first | rfl | (rw [rfl]; rfl))⟩), rfl, hle.d rfl⟩) ?_
         refine ob [21, 24, 19, 20, 23, 18, 10, 22, 17, 9, 7, 13, 16, 4, 8, 6, 12, 15, 3, 5, 11, 14, 2, 1, 0] (fun S hle hfr => .inr ⟨.inr (.inl ⟨_, _, _, _, rfl, rfl, (hle.ev (x := .tmp _) rfl (by nofun)), (by rw [hle.nt]; rfl), (by first | rfl | (rw [rfl]; rfl))⟩), rfl, hle.d rfl⟩) ?_
         refine ob [19, 18, 10, 17, 9, 7, 13, 16, 4, 8, 6, 12, 15, 3, 5, 11, 14, 2, 1, 0] (fun S hle hfr => .inr ⟨.inr (.inl ⟨_, _, _, _, rfl, rfl, (hle.ev (x := .tmp _) rfl (by nofun)), (by rw [hle.nt]; rfl), (by first | rfl | (rw [rfl]; rfl))⟩), rfl, hle.d rfl⟩) ?_
         refine ob [26, 19, 18, 10, 17, 9, 7, 13, 16, 4, 8, 6, 12, 15, 3, 5, 11, 14, 2, 1, 0] (fun S hle hfr => .inr ⟨.inr (.inl ⟨_, _, _, _, rfl, rfl, (hle.ev (x := .tmp _) rfl (by nofun)), (by rw [hle.nt]; rfl), (by first | rfl | (rw [rfl]; rfl))⟩), rfl, hle.d rfl⟩) ?_
         exact trivial
        case hk2x => rfl
        case hf2x => rfl
        refine aops_no rfl rfl rfl rfl rfl (by decide) (aops_no rfl rfl rfl rfl rfl (by decide) (aops_step1 rfl (st_pick_yes rfl (by first | rfl | exact rfl) rfl rfl) (s_mv ?_)))
        iterate 4 refine aops_no rfl rfl rfl rfl rfl (by decide) ?_
        refine aops_step1 rfl (st_pick_yes rfl (by first | rfl | exact rfl) rfl rfl) (aops_nil (aw_yes rfl (rfl) (aw_seq (aw_region (s_sa ?_)))))
        refine aops_nil ?_
        cases Option.some.inj h
        exact aw_ret ⟨rfl, rv r1⟩
      replace h := Md.cond_f h q6
      rcases Md.bool_or ((decide (((a2.Locals.length : Nat) : Int) < ((a2.Params.length : Nat) : Int)))) with q7 | q7
      · replace h := Md.cond_t h q7
        refine aw_seq ?_
        apply aw_draw 28 ((⟨[], .one (.cptr _)⟩ : Add) :: ⟨[], .one (CV.ls c_Int a2.Locals)⟩ :: ⟨[], vI ((a2.Locals.length : Nat) : Int)⟩ :: ⟨[], vB (decide (((a2.Locals.length : Nat) : Int) > 8))⟩ :: ⟨[], vB (decide (((a2.Locals.length : Nat) : Int) > 8))⟩ :: ⟨[], .one (.cptr _)⟩ :: ⟨[], .one (CV.ls c_Int a2.Locals)⟩ :: ⟨[], vB x5⟩ :: ⟨[], vB (!x5)⟩ :: ⟨[], vB (!x5)⟩ :: ⟨[], vB (!x5)⟩ :: ⟨[], .one (.cptr _)⟩ :: ⟨[], .one (CV.ls c_Int a2.Locals)⟩ :: ⟨[], vI ((a2.Locals.length : Nat) : Int)⟩ :: ⟨[], .one (.cptr _)⟩ :: ⟨[], .one (CV.ls c_Int a2.Params)⟩ :: ⟨[], vI ((a2.Params.length : Nat) : Int)⟩ :: ⟨[], vB (decide (((a2.Locals.length : Nat) : Int) < ((a2.Params.length : Nat) : Int)))⟩ :: ⟨[], vB (decide (((a2.Locals.length : Nat) : Int) < ((a2.Params.length : Nat) : Int)))⟩ :: ⟨[], vB (decide (((a2.Locals.length : Nat) : Int) < ((a2.Params.length : Nat) : Int)))⟩ :: ⟨[], .tup []⟩ :: ⟨[], .tup []⟩ :: ⟨[], .tup []⟩ :: ⟨[], .tup []⟩ :: ⟨[], .tup []⟩ :: ⟨[], .tup []⟩ :: ⟨[], .tup []⟩ :: ⟨[], .tup []⟩ :: []) (by decide) rfl ?hk3x ?hf3x ?ho3x ?hr3x
        case ho3x =>
         refine ob [] (fun S hle hfr => .inl ⟨w0, ev_field_in (hle.e rfl) rfl (hle.d rfl)⟩) (ob [0] (fun S hle hfr => .inl ⟨w0, ev_load_in (hle.e rfl) rfl (hle.d rfl)⟩) ?_)
         refine ob [1, 0] (fun S hle hfr => .inl ⟨w0, ev_len_slc (hle.e rfl) (hle.d rfl)⟩) ?_
         refine ob [2, 1, 0] (fun S hle hfr => .inl ⟨w0, ev_cmp (hle.e rfl) (hle.e rfl) (hle.d rfl) rfl⟩) ?_
         refine ob [3, 2, 1, 0] (fun S hle hfr => .inl ⟨w0, st_move (hle.e rfl) (hle.d rfl)⟩) ?_
         refine ob [4, 3, 2, 1, 0] (fun S hle hfr => .inl ⟨wy hle q4, ev_field_in (hle.e rfl) rfl (hle.d rfl)⟩) ?_
         refine ob [5, 4, 3, 2, 1, 0] (fun S hle hfr => .inl ⟨wy hle q4, ev_load_in (hle.e rfl) rfl (hle.d rfl)⟩) ?_
         refine ob [6, 4, 5, 3, 2, 1, 0] (fun S hle hfr => .inl ⟨wy hle q4, ev_call_v (bytecode_kindsOf_fn k a2.Locals x5 hx5) (map_ev (.cons (hle.e rfl) (.nil))) [] (by repeat' (first | exact .nil | refine .cons ?_ ?_ | refine .one ?_ | refine .agg ?_ | exact .mk rfl | exact .lend (hle.heap _ _ rfl) (by simp) | exact .le (.nil _) rfl | exact .le (.emp _) rfl | exact .le (.any _) rfl | fail)) rfl rfl rfl (.inl rfl) (hle.d rfl)⟩) ?_
         refine ob [7, 4, 6, 3, 5, 2, 1, 0] (fun S hle hfr => .inl ⟨wy hle q4, ev_not (hle.e rfl) (hle.d rfl)⟩) ?_
         refine ob [4, 8, 3, 7, 2, 6, 1, 5, 0] (fun S hle hfr => .inl ⟨w0, st_pick_no (hle.e rfl) (by first | rfl | exact q4) (hle.e rfl) (hle.d rfl)⟩) ?_
         refine ob [9, 7, 4, 8, 6, 3, 5, 2, 1, 0] (fun S hle hfr => .inl ⟨w0, st_move (hle.e rfl) (hle.d rfl)⟩) ?_
         refine ob [10, 9, 7, 4, 8, 6, 3, 5, 2, 1, 0] (fun S hle hfr => .inl ⟨wy hle q6, ev_field_in (hle.e rfl) rfl (hle.d rfl)⟩) ?_
         refine ob [11, 10, 9, 7, 4, 8, 6, 3, 5, 2, 1, 0] (fun S hle hfr => .inl ⟨wy hle q6, ev_load_in (hle.e rfl) rfl (hle.d rfl)⟩) ?_
         refine ob [12, 10, 11, 9, 7, 4, 8, 6, 3, 5, 2, 1, 0] (fun S hle hfr => .inl ⟨wy hle q6, ev_len_slc (hle.e rfl) (hle.d rfl)⟩) ?_
         refine ob [10, 9, 7, 4, 8, 6, 3, 5, 2, 1, 0] (fun S hle hfr => .inl ⟨wy hle q6, ev_field_in (hle.e rfl) rfl (hle.d rfl)⟩) ?_
         refine ob [14, 10, 9, 7, 4, 8, 6, 3, 5, 2, 1, 0] (fun S hle hfr => .inl ⟨wy hle q6, ev_load_in (hle.e rfl) rfl (hle.d rfl)⟩) ?_
         refine ob [15, 10, 14, 9, 7, 4, 8, 6, 3, 5, 2, 1, 0] (fun S hle hfr => .inl ⟨wy hle q6, ev_len_slc (hle.e rfl) (hle.d rfl)⟩) ?_
         refine ob [13, 16, 10, 12, 15, 9, 7, 11, 14, 4, 8, 6, 3, 5, 2, 1, 0] (fun S hle hfr => .inl ⟨wy hle q6, ev_cmp (hle.e rfl) (hle.e rfl) (hle.d rfl) rfl⟩) ?_
         refine ob [10, 17, 9, 7, 13, 16, 4, 8, 6, 12, 15, 3, 5, 11, 14, 2, 1, 0] (fun S hle hfr => .inl ⟨w0, st_pick_no (hle.e rfl) (by first | rfl | exact q6) (hle.e rfl) (hle.d rfl)⟩) ?_
         refine ob [18, 10, 17, 9, 7, 13, 16, 4, 8, 6, 12, 15, 3, 5, 11, 14, 2, 1, 0] (fun S hle hfr => .inl ⟨w0, st_move (hle.e rfl) (hle.d rfl)⟩) ?_
         refine ob [19, 18, 10, 17, 9, 7, 13, 16, 4, 8, 6, 12, 15, 3, 5, 11, 14, 2, 1, 0] (fun S hle hfr => nw hle q7) ?_
         refine ob [20, 19, 18, 10, 17, 9, 7, 13, 16, 4, 8, 6, 12, 15, 3, 5, 11, 14, 2, 1, 0] (fun S hle hfr => nw hle q7) ?_
         refine ob [19, 18, 10, 17, 9, 7, 13, 16, 4, 8, 6, 12, 15, 3, 5, 11, 14, 2, 1, 0] (fun S hle hfr => nw hle q7) ?_
         refine ob [22, 19, 18, 10, 17, 9, 7, 13, 16, 4, 8, 6, 12, 15, 3, 5, 11, 14, 2, 1, 0] (fun S hle hfr => nw hle q7) ?_
         refine ob [23, 19, 22, 18, 10, 17, 9, 7, 13, 16, 4, 8, 6, 12, 15, 3, 5, 11, 14, 2, 1, 0] (fun S hle hfr => nw hle q7) ?_
         refine ob [21, 24, 19, 20, 23, 18, 10, 22, 17, 9, 7, 13, 16, 4, 8, 6, 12, 15, 3, 5, 11, 14, 2, 1, 0] (fun S hle hfr => nw hle q7) ?_
         refine ob [19, 18, 10, 17, 9, 7, 13, 16, 4, 8, 6, 12, 15, 3, 5, 11, 14, 2, 1, 0] (fun S hle hfr => nw hle q7) ?_
         refine ob [26, 19, 18, 10, 17, 9, 7, 13, 16, 4, 8, 6, 12, 15, 3, 5, 11, 14, 2, 1, 0] (fun S hle hfr => nw hle q7) ?_
         exact trivial
        case hk3x => rfl
        case hf3x => rfl
        iterate 2 refine np q7 ?_
        refine s_py q7 ?_
        refine s_mv ?_
        iterate 4 refine aops_no rfl rfl rfl rfl rfl (by decide) ?_
        refine aops_step1 rfl (st_pick_yes rfl (by first | rfl | exact rfl) rfl rfl) (aops_nil (aw_yes rfl (rfl) (aw_seq (aw_region (s_sa ?_)))))
        refine aops_nil ?_
        cases Option.some.inj h
        exact aw_ret ⟨rfl, rv r1⟩
      replace h := Md.cond_f h q7
      obtain ⟨g8, h⟩ := Md.ifp_s h
      obtain ⟨x9, hx9, h⟩ := Md.bind_s h
      rcases Md.bool_or ((!x9)) with q10 | q10
      · replace h := Md.cond_t h q10
        refine aw_seq ?_
        apply aw_draw 28 ((⟨[], .one (.cptr _)⟩ : Add) :: ⟨[], .one (CV.ls c_Int a2.Locals)⟩ :: ⟨[], vI ((a2.Locals.length : Nat) : Int)⟩ :: ⟨[], vB (decide (((a2.Locals.length : Nat) : Int) > 8))⟩ :: ⟨[], vB (decide (((a2.Locals.length : Nat) : Int) > 8))⟩ :: ⟨[], .one (.cptr _)⟩ :: ⟨[], .one (CV.ls c_Int a2.Locals)⟩ :: ⟨[], vB x5⟩ :: ⟨[], vB (!x5)⟩ :: ⟨[], vB (!x5)⟩ :: ⟨[], vB (!x5)⟩ :: ⟨[], .one (.cptr _)⟩ :: ⟨[], .one (CV.ls c_Int a2.Locals)⟩ :: ⟨[], vI ((a2.Locals.length : Nat) : Int)⟩ :: ⟨[], .one (.cptr _)⟩ :: ⟨[], .one (CV.ls c_Int a2.Params)⟩ :: ⟨[], vI ((a2.Params.length : Nat) : Int)⟩ :: ⟨[], vB (decide (((a2.Locals.length : Nat) : Int) < ((a2.Params.length : Nat) : Int)))⟩ :: ⟨[], vB (decide (((a2.Locals.length : Nat) : Int) < ((a2.Params.length : Nat) : Int)))⟩ :: ⟨[], vB (decide (((a2.Locals.length : Nat) : Int) < ((a2.Params.length : Nat) : Int)))⟩ :: ⟨[], .one (.cptr _)⟩ :: ⟨[], .one (CV.ls c_Int a2.Locals)⟩ :: ⟨[], .one (.cptr _)⟩ :: ⟨[], .one (CV.ls c_Int a2.Params)⟩ :: ⟨[], vI ((a2.Params.length : Nat) : Int)⟩ :: ⟨[], .one (CV.ls c_Int (a2.Locals.take a2.Params.length))⟩ :: ⟨[], .one (.cptr _)⟩ :: ⟨[], .one (CV.ls c_Int a2.Params)⟩ :: []) (by decide) rfl ?hk4x ?hf4x ?ho4x ?hr4x
        case ho4x =>
         refine ob [] (fun S hle hfr => .inl ⟨w0, ev_field_in (hle.e rfl) rfl (hle.d rfl)⟩) (ob [0] (fun S hle hfr => .inl ⟨w0, ev_load_in (hle.e rfl) rfl (hle.d rfl)⟩) ?_)
         refine ob [1, 0] (fun S hle hfr => .inl ⟨w0, ev_len_slc (hle.e rfl) (hle.d rfl)⟩) ?_
         refine ob [2, 1, 0] (fun S hle hfr => .inl ⟨w0, ev_cmp (hle.e rfl) (hle.e rfl) (hle.d rfl) rfl⟩) ?_
         refine ob [3, 2, 1, 0] (fun S hle hfr => .inl ⟨w0, st_move (hle.e rfl) (hle.d rfl)⟩) ?_
         refine ob [4, 3, 2, 1, 0] (fun S hle hfr => .inl ⟨wy hle q4, ev_field_in (hle.e rfl) rfl (hle.d rfl)⟩) ?_
         refine ob [5, 4, 3, 2, 1, 0] (fun S hle hfr => .inl ⟨wy hle q4, ev_load_in (hle.e rfl) rfl (hle.d rfl)⟩) ?_
         refine ob [6, 4, 5, 3, 2, 1, 0] (fun S hle hfr => .inl ⟨wy hle q4, ev_call_v (bytecode_kindsOf_fn k a2.Locals x5 hx5) (map_ev (.cons (hle.e rfl) (.nil))) [] (by repeat' (first | exact .nil | refine .cons ?_ ?_ | refine .one ?_ | refine .agg ?_ | exact .mk rfl | exact .lend (hle.heap _ _ rfl) (by simp) | exact .le (.nil _) rfl | exact .le (.emp _) rfl | exact .le (.any _) rfl | fail)) rfl rfl rfl (.inl rfl) (hle.d rfl)⟩) ?_
         refine ob [7, 4, 6, 3, 5, 2, 1, 0] (fun S hle hfr => .inl ⟨wy hle q4, ev_not (hle.e rfl) (hle.d rfl)⟩) ?_
         refine ob [4, 8, 3, 7, 2, 6, 1, 5, 0] (fun S hle hfr => .inl ⟨w0, st_pick_no (hle.e rfl) (by first | rfl | exact q4) (hle.e rfl) (hle.d rfl)⟩) ?_
         refine ob [9, 7, 4, 8, 6, 3, 5, 2, 1, 0] (fun S hle hfr => .inl ⟨w0, st_move (hle.e rfl) (hle.d rfl)⟩) ?_
         refine ob [10, 9, 7, 4, 8, 6, 3, 5, 2, 1, 0] (fun S hle hfr => .inl ⟨wy hle q6, ev_field_in (hle.e rfl) rfl (hle.d rfl)⟩) ?_
         refine ob [11, 10, 9, 7, 4, 8, 6, 3, 5, 2, 1, 0] (fun S hle hfr => .inl ⟨wy hle q6, ev_load_in (hle.e rfl) rfl (hle.d rfl)⟩) ?_
         refine ob [12, 10, 11, 9, 7, 4, 8, 6, 3, 5, 2, 1, 0] (fun S hle hfr => .inl ⟨wy hle q6, ev_len_slc (hle.e rfl) (hle.d rfl)⟩) ?_
         refine ob [10, 9, 7, 4, 8, 6, 3, 5, 2, 1, 0] (fun S hle hfr => .inl ⟨wy hle q6, ev_field_in (hle.e rfl) rfl (hle.d rfl)⟩) ?_
         refine ob [14, 10, 9, 7, 4, 8, 6, 3, 5, 2, 1, 0] (fun S hle hfr => .inl ⟨wy hle q6, ev_load_in (hle.e rfl) rfl (hle.d rfl)⟩) ?_
         refine ob [15, 10, 14, 9, 7, 4, 8, 6, 3, 5, 2, 1, 0] (fun S hle hfr => .inl ⟨wy hle q6, ev_len_slc (hle.e rfl) (hle.d rfl)⟩) ?_
         refine ob [13, 16, 10, 12, 15, 9, 7, 11, 14, 4, 8, 6, 3, 5, 2, 1, 0] (fun S hle hfr => .inl ⟨wy hle q6, ev_cmp (hle.e rfl) (hle.e rfl) (hle.d rfl) rfl⟩) ?_
         refine ob [10, 17, 9, 7, 13, 16, 4, 8, 6, 12, 15, 3, 5, 11, 14, 2, 1, 0] (fun S hle hfr => .inl ⟨w0, st_pick_no (hle.e rfl) (by first | rfl | exact q6) (hle.e rfl) (hle.d rfl)⟩) ?_
         refine ob [18, 10, 17, 9, 7, 13, 16, 4, 8, 6, 12, 15, 3, 5, 11, 14, 2, 1, 0] (fun S hle hfr => .inl ⟨w0, st_move (hle.e rfl) (hle.d rfl)⟩) ?_
         refine ob [19, 18, 10, 17, 9, 7, 13, 16, 4, 8, 6, 12, 15, 3, 5, 11, 14, 2, 1, 0] (fun S hle hfr => .inl ⟨wy hle q7, ev_field_in (hle.e rfl) rfl (hle.d rfl)⟩) ?_
         refine ob [20, 19, 18, 10, 17, 9, 7, 13, 16, 4, 8, 6, 12, 15, 3, 5, 11, 14, 2, 1, 0] (fun S hle hfr => .inl ⟨wy hle q7, ev_load_in (hle.e rfl) rfl (hle.d rfl)⟩) ?_
         refine ob [19, 18, 10, 17, 9, 7, 13, 16, 4, 8, 6, 12, 15, 3, 5, 11, 14, 2, 1, 0] (fun S hle hfr => .inl ⟨wy hle q7, ev_field_in (hle.e rfl) rfl (hle.d rfl)⟩) ?_
         refine ob [22, 19, 18, 10, 17, 9, 7, 13, 16, 4, 8, 6, 12, 15, 3, 5, 11, 14, 2, 1, 0] (fun S hle hfr => .inl ⟨wy hle q7, ev_load_in (hle.e rfl) rfl (hle.d rfl)⟩) ?_
         refine ob [23, 19, 22, 18, 10, 17, 9, 7, 13, 16, 4, 8, 6, 12, 15, 3, 5, 11, 14, 2, 1, 0] (fun S hle hfr => .inl ⟨wy hle q7, ev_len_slc (hle.e rfl) (hle.d rfl)⟩) ?_
         refine ob [21, 24, 19, 20, 23, 18, 10, 22, 17, 9, 7, 13, 16, 4, 8, 6, 12, 15, 3, 5, 11, 14, 2, 1, 0] (fun S hle hfr => .inl ⟨wy hle q7, st_cut_hi (f := c_Int) (fun _ => rfl) (hle.e rfl) ⟨_, _, (hle.e rfl), rfl⟩ g8 (hle.d rfl)⟩) ?_
         refine ob [19, 18, 10, 17, 9, 7, 13, 16, 4, 8, 6, 12, 15, 3, 5, 11, 14, 2, 1, 0] (fun S hle hfr => .inl ⟨wy hle q7, ev_field_in (hle.e rfl) rfl (hle.d rfl)⟩) ?_
         refine ob [26, 19, 18, 10, 17, 9, 7, 13, 16, 4, 8, 6, 12, 15, 3, 5, 11, 14, 2, 1, 0] (fun S hle hfr => .inl ⟨wy hle q7, ev_load_in (hle.e rfl) rfl (hle.d rfl)⟩) ?_
         exact trivial
        case hk4x => rfl
        case hf4x => rfl
        refine aops_yes rfl rfl rfl rfl q7 (ev_call_v (slices_Equal_fn k (a2.Locals.take a2.Params.length) a2.Params x9 hx9) rfl [] ai rfl rfl rfl (.inl rfl) rfl) (y_nt q7 ?_)
        refine s_pn q7 ?_
        refine s_mv ?_
        iterate 4 refine np q10 ?_
        refine s_py q10 ?_
        refine aops_nil (aw_yes rfl (rfl) (aw_seq (aw_region (s_sa ?_))))
        refine aops_nil ?_
        cases Option.some.inj h
        exact aw_ret ⟨rfl, rv r1⟩
      replace h := Md.cond_f h q10
      refine aw_seq ?_
      apply aw_draw 28 ((⟨[], .one (.cptr _)⟩ : Add) :: ⟨[], .one (CV.ls c_Int a2.Locals)⟩ :: ⟨[], vI ((a2.Locals.length : Nat) : Int)⟩ :: ⟨[], vB (decide (((a2.Locals.length : Nat) : Int) > 8))⟩ :: ⟨[], vB (decide (((a2.Locals.length : Nat) : Int) > 8))⟩ :: ⟨[], .one (.cptr _)⟩ :: ⟨[], .one (CV.ls c_Int a2.Locals)⟩ :: ⟨[], vB x5⟩ :: ⟨[], vB (!x5)⟩ :: ⟨[], vB (!x5)⟩ :: ⟨[], vB (!x5)⟩ :: ⟨[], .one (.cptr _)⟩ :: ⟨[], .one (CV.ls c_Int a2.Locals)⟩ :: ⟨[], vI ((a2.Locals.length : Nat) : Int)⟩ :: ⟨[], .one (.cptr _)⟩ :: ⟨[], .one (CV.ls c_Int a2.Params)⟩ :: ⟨[], vI ((a2.Params.length : Nat) : Int)⟩ :: ⟨[], vB (decide (((a2.Locals.length : Nat) : Int) < ((a2.Params.length : Nat) : Int)))⟩ :: ⟨[], vB (decide (((a2.Locals.length : Nat) : Int) < ((a2.Params.length : Nat) : Int)))⟩ :: ⟨[], vB (decide (((a2.Locals.length : Nat) : Int) < ((a2.Params.length : Nat) : Int)))⟩ :: ⟨[], .one (.cptr _)⟩ :: ⟨[], .one (CV.ls c_Int a2.Locals)⟩ :: ⟨[], .one (.cptr _)⟩ :: ⟨[], .one (CV.ls c_Int a2.Params)⟩ :: ⟨[], vI ((a2.Params.length : Nat) : Int)⟩ :: ⟨[], .one (CV.ls c_Int (a2.Locals.take a2.Params.length))⟩ :: ⟨[], .one (.cptr _)⟩ :: ⟨[], .one (CV.ls c_Int a2.Params)⟩ :: []) (by decide) rfl ?hk5x ?hf5x ?ho5x ?hr5x
      case ho5x =>
       refine ob [] (fun S hle hfr => .inl ⟨w0, ev_field_in (hle.e rfl) rfl (hle.d rfl)⟩) (ob [0] (fun S hle hfr => .inl ⟨w0, ev_load_in (hle.e rfl) rfl (hle.d rfl)⟩) ?_)
       refine ob [1, 0] (fun S hle hfr => .inl ⟨w0, ev_len_slc (hle.e rfl) (hle.d rfl)⟩) ?_
       refine ob [2, 1, 0] (fun S hle hfr => .inl ⟨w0, ev_cmp (hle.e rfl) (hle.e rfl) (hle.d rfl) rfl⟩) ?_
       refine ob [3, 2, 1, 0] (fun S hle hfr => .inl ⟨w0, st_move (hle.e rfl) (hle.d rfl)⟩) ?_
       refine ob [4, 3, 2, 1, 0] (fun S hle hfr => .inl ⟨wy hle q4, ev_field_in (hle.e rfl) rfl (hle.d rfl)⟩) ?_
       refine ob [5, 4, 3, 2, 1, 0] (fun S hle hfr => .inl ⟨wy hle q4, ev_load_in (hle.e rfl) rfl (hle.d rfl)⟩) ?_
       refine ob [6, 4, 5, 3, 2, 1, 0] (fun S hle hfr => .inl ⟨wy hle q4, ev_call_v (bytecode_kindsOf_fn k a2.Locals x5 hx5) (map_ev (.cons (hle.e rfl) (.nil))) [] (by repeat' (first | exact .nil | refine .cons ?_ ?_ | refine .one ?_ | refine .agg ?_ | exact .mk rfl | exact .lend (hle.heap _ _ rfl) (by simp) | exact .le (.nil _) rfl | exact .le (.emp _) rfl | exact .le (.any _) rfl | fail)) rfl rfl rfl (.inl rfl) (hle.d rfl)⟩) ?_
       refine ob [7, 4, 6, 3, 5, 2, 1, 0] (fun S hle hfr => .inl ⟨wy hle q4, ev_not (hle.e rfl) (hle.d rfl)⟩) ?_
       refine ob [4, 8, 3, 7, 2, 6, 1, 5, 0] (fun S hle hfr => .inl ⟨w0, st_pick_no (hle.e rfl) (by first | rfl | exact q4) (hle.e rfl) (hle.d rfl)⟩) ?_
       refine ob [9, 7, 4, 8, 6, 3, 5, 2, 1, 0] (fun S hle hfr => .inl ⟨w0, st_move (hle.e rfl) (hle.d rfl)⟩) ?_
       refine ob [10, 9, 7, 4, 8, 6, 3, 5, 2, 1, 0] (fun S hle hfr => .inl ⟨wy hle q6, ev_field_in (hle.e rfl) rfl (hle.d rfl)⟩) ?_
       refine ob [11, 10, 9, 7, 4, 8, 6, 3, 5, 2, 1, 0] (fun S hle hfr => .inl ⟨wy hle q6, ev_load_in (hle.e rfl) rfl (hle.d rfl)⟩) ?_
       refine ob [12, 10, 11, 9, 7, 4, 8, 6, 3, 5, 2, 1, 0] (fun S hle hfr => .inl ⟨wy hle q6, ev_len_slc (hle.e rfl) (hle.d rfl)⟩) ?_
       refine ob [10, 9, 7, 4, 8, 6, 3, 5, 2, 1, 0] (fun S hle hfr => .inl ⟨wy hle q6, ev_field_in (hle.e rfl) rfl (hle.d rfl)⟩) ?_
       refine ob [14, 10, 9, 7, 4, 8, 6, 3, 5, 2, 1, 0] (fun S hle hfr => .inl ⟨wy hle q6, ev_load_in (hle.e rfl) rfl (hle.d rfl)⟩) ?_
       refine ob [15, 10, 14, 9, 7, 4, 8, 6, 3, 5, 2, 1, 0] (fun S hle hfr => .inl ⟨wy hle q6, ev_len_slc (hle.e rfl) (hle.d rfl)⟩) ?_
       refine ob [13, 16, 10, 12, 15, 9, 7, 11, 14, 4, 8, 6, 3, 5, 2, 1, 0] (fun S hle hfr => .inl ⟨wy hle q6, ev_cmp (hle.e rfl) (hle.e rfl) (hle.d rfl) rfl⟩) ?_
       refine ob [10, 17, 9, 7, 13, 16, 4, 8, 6, 12, 15, 3, 5, 11, 14, 2, 1, 0] (fun S hle hfr => .inl ⟨w0, st_pick_no (hle.e rfl) (by first | rfl | exact q6) (hle.e rfl) (hle.d rfl)⟩) ?_
       refine ob [18, 10, 17, 9, 7, 13, 16, 4, 8, 6, 12, 15, 3, 5, 11, 14, 2, 1, 0] (fun S hle hfr => .inl ⟨w0, st_move (hle.e rfl) (hle.d rfl)⟩) ?_
       refine ob [19, 18, 10, 17, 9, 7, 13, 16, 4, 8, 6, 12, 15, 3, 5, 11, 14, 2, 1, 0] (fun S hle hfr => .inl ⟨wy hle q7, ev_field_in (hle.e rfl) rfl (hle.d rfl)⟩) ?_
       refine ob [20, 19, 18, 10, 17, 9, 7, 13, 16, 4, 8, 6, 12, 15, 3, 5, 11, 14, 2, 1, 0] (fun S hle hfr => .inl ⟨wy hle q7, ev_load_in (hle.e rfl) rfl (hle.d rfl)⟩) ?_
       refine ob [19, 18, 10, 17, 9, 7, 13, 16, 4, 8, 6, 12, 15, 3, 5, 11, 14, 2, 1, 0] (fun S hle hfr => .inl ⟨wy hle q7, ev_field_in (hle.e rfl) rfl (hle.d rfl)⟩) ?_
       refine ob [22, 19, 18, 10, 17, 9, 7, 13, 16, 4, 8, 6, 12, 15, 3, 5, 11, 14, 2, 1, 0] (fun S hle hfr => .inl ⟨wy hle q7, ev_load_in (hle.e rfl) rfl (hle.d rfl)⟩) ?_
       refine ob [23, 19, 22, 18, 10, 17, 9, 7, 13, 16, 4, 8, 6, 12, 15, 3, 5, 11, 14, 2, 1, 0] (fun S hle hfr => .inl ⟨wy hle q7, ev_len_slc (hle.e rfl) (hle.d rfl)⟩) ?_
       refine ob [21, 24, 19, 20, 23, 18, 10, 22, 17, 9, 7, 13, 16, 4, 8, 6, 12, 15, 3, 5, 11, 14, 2, 1, 0] (fun S hle hfr => .inl ⟨wy hle q7, st_cut_hi (f := c_Int) (fun _ => rfl) (hle.e rfl) ⟨_, _, (hle.e rfl), rfl⟩ g8 (hle.d rfl)⟩) ?_
       refine ob [19, 18, 10, 17, 9, 7, 13, 16, 4, 8, 6, 12, 15, 3, 5, 11, 14, 2, 1, 0] (fun S hle hfr => .inl ⟨wy hle q7, ev_field_in (hle.e rfl) rfl (hle.d rfl)⟩) ?_
       refine ob [26, 19, 18, 10, 17, 9, 7, 13, 16, 4, 8, 6, 12, 15, 3, 5, 11, 14, 2, 1, 0] (fun S hle hfr => .inl ⟨wy hle q7, ev_load_in (hle.e rfl) rfl (hle.d rfl)⟩) ?_
       exact trivial
      case hk5x => rfl
      case hf5x => rfl
      refine aops_yes rfl rfl rfl rfl q7 (ev_call_v (slices_Equal_fn k (a2.Locals.take a2.Params.length) a2.Params x9 hx9) rfl [] ai rfl rfl rfl (.inl rfl) rfl) (y_nt q7 ?_)
      refine s_pn q7 ?_
      refine s_mv ?_
      refine aops_yes rfl rfl rfl rfl q10 (ev_field_in rfl rfl rfl) (aops_yes rfl rfl rfl rfl q10 (ev_load_in rfl rfl rfl) (y_ln q10 ?_))
      refine y_cm q10 ?_
      refine s_pn q10 ?_
      refine aops_nil ?_
      refine aw_cond rfl (fun c11 => ?_) (fun c11 => ?_)
      · replace h := Md.cond_t h c11
        refine aw_seq (aw_region (s_sa ?_))
        refine aops_nil ?_
        cases Option.some.inj h
        exact aw_ret ⟨rfl, rv r1⟩
      replace h := Md.cond_f h c11
      refine aw_skip (aw_seq (aw_region (aops_step1 rfl (ev_field_in rfl rfl rfl) (aops_step1 rfl (ev_load_in rfl rfl rfl) ?_))))
      refine aops_step1 rfl (ev_makeFunc [.cptr [CV.ls c_CodeType a0.Types], .cptr [.val (Sv a1.Name), CV.ls c_Field a1.Fields, CV.ls c_CodeMethod a1.Methods], .cptr [.val (Sv a2.Name), CV.ls c_Int a2.Params, cI a2.Result, CV.ls c_Int a2.Locals, CV.ls c_Instr a2.Code]] rfl rfl rfl) ?_
      obtain ⟨x12, hx12, h⟩ := Md.bind_s h
      refine aops_step1 rfl (ev_call_v (zqat k a2.Code a0 a1 a2 x12 hx12) rfl [] ai rfl rfl rfl (.inl rfl) rfl) (s_nt ?_)
      refine s_sa ?_
      refine aops_nil ?_
      cases Option.some.inj h
      exact aw_ret ⟨rfl, rv r1⟩
    rcases Md.bool_or (x1) with q2 | q2
    · replace j2 := Md.cond_t j2 q2
      iterate 4 refine np q2 ?_
      iterate 4 refine aops_und rfl rfl rfl rfl rfl ?_
      refine np q2 ?_
      refine s_py q2 ?_
      refine aops_nil ?_
      show ∃ _x : Bool, _ = _ ∧ Weak _ _
      exact ⟨true, Option.some.inj j2, wk⟩
    replace j2 := Md.cond_f j2 q2
    refine aops_yes rfl rfl rfl rfl q2 (ev_field_in rfl rfl rfl) (aops_yes rfl rfl rfl rfl q2 (ev_load_in rfl rfl rfl) (y_cm q2 ?_))
    refine y_mv q2 ?_
    obtain ⟨o13, j13, j2⟩ := Md.bind_s j2
    refine aops_cut 5 (ε := Bool) (fun x13 => (⟨70, [], [(3, .one (.cptr [CV.ls c_CodeType a0.Types])), (4, .one (.cptr [.val (Sv a1.Name), CV.ls c_Field a1.Fields, CV.ls c_CodeMethod a1.Methods])), (5, .one (.cptr [.val (Sv a2.Name), CV.ls c_Int a2.Params, cI a2.Result, CV.ls c_Int a2.Locals, CV.ls c_Instr a2.Code])), (17, vB x1), (26, vB x13)], []⟩ : ASt)) (fun x13 => x13 = o13) ?_ ?_
    · intro x13 hI13
      subst hI13
      change AOps _ _ _ (⟨70, [], [(3, .one (.cptr [CV.ls c_CodeType a0.Types])), (4, .one (.cptr [.val (Sv a1.Name), CV.ls c_Field a1.Fields, CV.ls c_CodeMethod a1.Methods])), (5, .one (.cptr [.val (Sv a2.Name), CV.ls c_Int a2.Params, cI a2.Result, CV.ls c_Int a2.Locals, CV.ls c_Instr a2.Code])), (17, vB x1), (26, vB x13)], []⟩ : ASt) _
      refine s_pn q2 ?_
      refine aops_nil ?_
      show ∃ _x : Bool, _ = _ ∧ Weak _ _
      exact ⟨x13, Option.some.inj j2, wk⟩
    rcases Md.bool_or ((a2.Result != 0)) with q13 | q13
    · replace j13 := Md.cond_t j13 q13
      refine aops_yes rfl rfl rfl rfl q13 (ev_field_in rfl rfl rfl) (aops_yes rfl rfl rfl rfl q13 (ev_load_in rfl rfl rfl) ?_)
      obtain ⟨x14, hx14, j13⟩ := Md.bind_s j13
      refine aops_yes rfl rfl rfl rfl q13 (ev_call_v (bytecode_kindOf_fn k a2.Result x14 hx14) rfl [] ai rfl rfl rfl (.inl rfl) rfl) (y_nt q13 ?_)
      refine aops_yes rfl rfl rfl rfl q2 (st_pick_yes rfl (by first | rfl | exact q13) rfl rfl) (aops_nil ?_)
      show ∃ _x : Bool, _ = _ ∧ Weak _ _
      exact ⟨(!x14), Option.some.inj j13, wk⟩
    replace j13 := Md.cond_f j13 q13
    iterate 4 refine np q13 ?_
    refine aops_yes rfl rfl rfl rfl q2 (st_pick_no rfl (by first | rfl | exact q13) rfl rfl) (aops_nil ?_)
    show ∃ _x : Bool, _ = _ ∧ Weak _ _
    exact ⟨false, Option.some.inj j13, wk⟩
  rcases Md.bool_or ((decide (((a2.Params.length : Nat) : Int) > 4))) with q1 | q1
  · replace j1 := Md.cond_t j1 q1
    iterate 4 refine np q1 ?_
    refine s_py q1 ?_
    refine aops_nil ?_
    show ∃ _x : Bool, _ = _ ∧ Weak _ _
    exact ⟨true, Option.some.inj j1, wk⟩
  replace j1 := Md.cond_f j1 q1
  refine aops_yes rfl rfl rfl rfl q1 (ev_field_in rfl rfl rfl) (aops_yes rfl rfl rfl rfl q1 (ev_load_in rfl rfl rfl) ?_)
  obtain ⟨x15, hx15, j1⟩ := Md.bind_s j1
  refine aops_yes rfl rfl rfl rfl q1 (ev_call_v (bytecode_kindsOf_fn k a2.Params x15 hx15) rfl [] ai rfl rfl rfl (.inl rfl) rfl) (y_nt q1 ?_)
  refine s_pn q1 ?_
  refine aops_nil ?_
  show ∃ _x : Bool, _ = _ ∧ Weak _ _
  exact ⟨(!x15), Option.some.inj j1, wk⟩
end Md
end Go.Proofs.Ytclffekkjfhpdaa
