/-
  LexM: where a function's model gives a value, the function returns what reads as it (printed by wip/tools/auto.py). Condition of each: the model gives a value.
-/
import Derived.Test.YtjpiiejdaiaocaaDoorLexMM
import Derived.Test.YtjpiiejdaiaocaaDoorTy
import Derived.Test.YtjpiiejdaiaocaaDoorAbsU
import Derived.Test.YtjpiiejdaiaocaaDoorLexE
namespace Go.Proofs.YtjpiiejdaiaocaaDoor
open Go.ChangeShapes Go.WideShapes Go.RowKit
open Abs
set_option linter.unusedVariables false
set_option linter.unusedSimpArgs false
set_option maxRecDepth 10000
namespace Md
set_option maxHeartbeats 2000000 in
theorem actorgridlaw17_LexQuotes_fn (k : Nat) (a0 : List UInt8) (r : Bool) (h : actorgridlaw17_LexQuotes k a0 = some r) : FnC Tryd.prog 10 [.one (.val (Sv a0))] [] (Det (vB r) []) := by
  unfold actorgridlaw17_LexQuotes at h
  refine fn_intro' 35 Tryd.func10 rfl rfl rfl (aw_seq (aw_region (s_sa ?_)))
  refine aops_nil (aw_seq (aw_seq (aw_region ?_)))
  obtain ⟨x1, hx1, h⟩ := Md.bind_s h
  refine aops_step1 rfl (ev_call_v (actorgridlaw17_awake_fn k x1 hx1) rfl [] ai rfl rfl rfl (.inl rfl) rfl) (s_nt ?_)
  refine aops_nil ?_
  refine aw_cond rfl (fun c2 => ?_) (fun c2 => ?_)
  · replace h := Md.cond_t h c2
    refine aw_seq (aw_region (s_sa ?_))
    refine aops_nil ?_
    cases Option.some.inj h
    exact aw_ret ⟨rfl, rv r1⟩
  replace h := Md.cond_f h c2
  refine aw_skip (aw_seq (aw_seq (aw_region (s_mv ?_))))
  refine aops_step1 rfl (st_len_str rfl rfl) (s_cm ?_)
  refine aops_nil ?_
  refine aw_cond rfl (fun c3 => ?_) (fun c3 => ?_)
  · replace h := Md.cond_t h c3
    refine aw_seq (aw_region (s_sa ?_))
    refine aops_nil ?_
    cases Option.some.inj h
    exact aw_ret ⟨rfl, rv r1⟩
  replace h := Md.cond_f h c3
  refine aw_skip (aw_seq (aw_region (s_mv ?_)))
  obtain ⟨x4, hx4, h⟩ := Md.bind_s h
  refine aops_step1 rfl (ev_call_v (lexer_Quote_fn k a0 x4 hx4) rfl [] ai rfl rfl rfl (.inl rfl) rfl) (s_sa ?_)
  refine aops_nil (aw_seq (aw_region (s_mv ?_)))
  obtain ⟨x5, hx5, h⟩ := Md.bind_s h
  refine aops_step1 rfl (ev_call_v (lexer_Tokens_fn k x4 x5 hx5) rfl [] ai rfl rfl rfl (.inl rfl) rfl) (s_mt ?_)
  iterate 3 refine s_ex ?_
  iterate 3 refine s_sa ?_
  refine aops_nil (aw_seq (aw_region (s_mv ?_)))
  refine s_cm ?_
  refine s_mv ?_
  refine aops_mid 4 (⟨35, [], [(0, .one (.val (Sv a0))), (2, vB false), (4, .one (CV.ls c_Token x5.1)), (26, vB ((x5.2.2 == 0) && (((x5.1.length : Nat) : Int) == 1)))], []⟩ : ASt) ?_ ?_
  · rcases Md.bool_or ((x5.2.2 == 0)) with q6 | q6
    · skip
      refine y_mv q6 ?_
      refine y_ln q6 ?_
      refine y_cm q6 ?_
      refine s_py q6 ?_
      refine aops_nil ?_
      exact wq q6
    iterate 3 refine np q6 ?_
    refine s_pn q6 ?_
    refine aops_nil ?_
    exact wq q6
  refine s_mv ?_
  obtain ⟨o7, j7, h⟩ := Md.bind_s h
  refine aops_cut 7 (ε := Bool) (fun x7 => (⟨35, [], [(2, vB false), (34, vB x7)], []⟩ : ASt)) (fun x7 => x7 = o7) ?_ ?_
  · intro x7 hI7
    subst hI7
    change AOps _ _ _ (⟨35, [], [(2, vB false), (34, vB x7)], []⟩ : ASt) _
    refine s_sa ?_
    refine aops_nil ?_
    cases Option.some.inj h
    exact aw_ret ⟨rfl, rv r1⟩
  rcases Md.bool_or (((x5.2.2 == 0) && (((x5.1.length : Nat) : Int) == 1))) with q7 | q7
  · replace j7 := Md.cond_t j7 q7
    refine y_mv q7 ?_
    obtain ⟨g8, j7⟩ := Md.ifp_s j7
    refine aops_yes rfl rfl rfl rfl q7 (ev_index_in rfl rfl rfl g8 rfl rfl) (aops_yes rfl rfl rfl rfl q7 (ev_loads_in (ds := [_, _, _, _]) rfl rfl rfl rfl) (y_mv q7 ?_))
    refine aops_yes rfl rfl rfl rfl q7 (ev_build' (out := [_, _, _, _]) rfl rfl rfl rfl rfl) ?_
    refine aops_yes rfl rfl rfl rfl q7 (ev_agg_eq (vs := [.int .i64 ((x5.1.getD 0 default).Kind), Sv ((x5.1.getD 0 default).Text), .int .i64 ((x5.1.getD 0 default).Num), .int .i64 ((x5.1.getD 0 default).At)]) (us := [.int .i64 4, Sv a0, .int .i64 0, .int .i64 0]) (by kernel_rfl) rfl rfl (fun w => sq_Token (⟨((x5.1.getD 0 default).Kind), ((x5.1.getD 0 default).Text), ((x5.1.getD 0 default).Num), ((x5.1.getD 0 default).At)⟩ : Token) (⟨4, a0, 0, 0⟩ : Token) w) rfl) (s_py q7 ?_)
    refine aops_nil ?_
    show ∃ _x : Bool, _ = _ ∧ Weak _ _
    exact ⟨(decide ((⟨((x5.1.getD 0 default).Kind), ((x5.1.getD 0 default).Text), ((x5.1.getD 0 default).Num), ((x5.1.getD 0 default).At)⟩ : Token) = (⟨4, a0, 0, 0⟩ : Token))), Option.some.inj j7, wk⟩
  replace j7 := Md.cond_f j7 q7
  iterate 6 refine np q7 ?_
  refine s_pn q7 ?_
  refine aops_nil ?_
  show ∃ _x : Bool, _ = _ ∧ Weak _ _
  exact ⟨false, Option.some.inj j7, wk⟩
set_option maxHeartbeats 2000000 in
theorem actorgridlaw17_LexParts_fn (k : Nat) (a0 : List UInt8) (a1 : List UInt8) (r : Bool) (h : actorgridlaw17_LexParts k a0 a1 = some r) : FnC Tryd.prog 11 [.one (.val (Sv a0)), .one (.val (Sv a1))] [] (Det (vB r) []) := by
  unfold actorgridlaw17_LexParts at h
  refine fn_intro' 100 Tryd.func11 rfl rfl rfl (aw_seq (aw_region (s_sa ?_)))
  refine aops_nil (aw_seq (aw_seq (aw_region ?_)))
  obtain ⟨x1, hx1, h⟩ := Md.bind_s h
  refine aops_step1 rfl (ev_call_v (actorgridlaw17_awake_fn k x1 hx1) rfl [] ai rfl rfl rfl (.inl rfl) rfl) (s_nt ?_)
  refine aops_nil ?_
  refine aw_cond rfl (fun c2 => ?_) (fun c2 => ?_)
  · replace h := Md.cond_t h c2
    refine aw_seq (aw_region (s_sa ?_))
    refine aops_nil ?_
    cases Option.some.inj h
    exact aw_ret ⟨rfl, rv r1⟩
  replace h := Md.cond_f h c2
  refine aw_skip (aw_seq (aw_seq (aw_region (s_mv ?_))))
  refine aops_step1 rfl (st_len_str rfl rfl) (s_cm ?_)
  refine s_mv ?_
  refine aops_mid 4 (⟨100, [], [(0, .one (.val (Sv a0))), (1, .one (.val (Sv a1))), (25, vB ((decide (((a0.length : Nat) : Int) > 1000)) || (decide (((a1.length : Nat) : Int) > 1000))))], []⟩ : ASt) ?_ ?_
  · rcases Md.bool_or ((decide (((a0.length : Nat) : Int) > 1000))) with q3 | q3
    · skip
      iterate 3 refine np q3 ?_
      refine s_py q3 ?_
      refine aops_nil ?_
      exact wq q3
    refine y_mv q3 ?_
    refine aops_yes rfl rfl rfl rfl q3 (st_len_str rfl rfl) (y_cm q3 ?_)
    refine s_pn q3 ?_
    refine aops_nil ?_
    exact wq q3
  refine aops_nil ?_
  refine aw_cond rfl (fun c4 => ?_) (fun c4 => ?_)
  · replace h := Md.cond_t h c4
    refine aw_seq (aw_region (s_sa ?_))
    refine aops_nil ?_
    cases Option.some.inj h
    exact aw_ret ⟨rfl, rv r1⟩
  replace h := Md.cond_f h c4
  refine aw_skip (aw_seq (aw_region (s_mv ?_)))
  obtain ⟨x5, hx5, h⟩ := Md.bind_s h
  refine aops_step1 rfl (ev_call_v (lexer_Tokens_fn k a0 x5 hx5) rfl [] ai rfl rfl rfl (.inl rfl) rfl) (s_mt ?_)
  iterate 3 refine s_ex ?_
  iterate 3 refine s_sa ?_
  refine aops_nil (aw_seq (aw_region (s_mv ?_)))
  obtain ⟨x6, hx6, h⟩ := Md.bind_s h
  refine aops_step1 rfl (ev_call_v (lexer_Tokens_fn k a1 x6 hx6) rfl [] ai rfl rfl rfl (.inl rfl) rfl) (s_mt ?_)
  iterate 3 refine s_ex ?_
  iterate 3 refine s_sa ?_
  refine aops_nil (aw_seq (aw_seq (aw_region (s_mv ?_))))
  refine s_cm ?_
  refine s_mv ?_
  refine aops_mid 3 (⟨100, [], [(0, .one (.val (Sv a0))), (1, .one (.val (Sv a1))), (5, .one (CV.ls c_Token x5.1)), (8, .one (CV.ls c_Token x6.1)), (43, vB ((x5.2.2 != 0) || (x6.2.2 != 0)))], []⟩ : ASt) ?_ ?_
  · rcases Md.bool_or ((x5.2.2 != 0)) with q7 | q7
    · skip
      iterate 2 refine np q7 ?_
      refine s_py q7 ?_
      refine aops_nil ?_
      exact wq q7
    refine y_mv q7 ?_
    refine y_cm q7 ?_
    refine s_pn q7 ?_
    refine aops_nil ?_
    exact wq q7
  refine aops_nil ?_
  refine aw_cond rfl (fun c8 => ?_) (fun c8 => ?_)
  · replace h := Md.cond_t h c8
    refine aw_seq (aw_region (s_sa ?_))
    refine aops_nil ?_
    cases Option.some.inj h
    exact aw_ret ⟨rfl, rv r1⟩
  replace h := Md.cond_f h c8
  refine aw_skip (aw_seq (aw_region (s_mv ?_)))
  obtain ⟨g9, h⟩ := Md.ifp_s h
  refine aops_step1 rfl (st_str_add rfl rfl rfl g9) (s_mv ?_)
  obtain ⟨g10, h⟩ := Md.ifp_s h
  refine aops_step1 rfl (st_str_add rfl rfl rfl g10) ?_
  obtain ⟨x11, hx11, h⟩ := Md.bind_s h
  refine aops_step1 rfl (ev_call_v (lexer_Tokens_fn k ((a0 ++ ([10] : List UInt8)) ++ a1) x11 hx11) rfl [] ai rfl rfl rfl (.inl rfl) rfl) (s_mt ?_)
  iterate 3 refine s_ex ?_
  iterate 3 refine s_sa ?_
  refine aops_nil (aw_seq (aw_seq (aw_region (s_mv ?_))))
  refine s_cm ?_
  refine s_mv ?_
  obtain ⟨o12, j12, h⟩ := Md.bind_s h
  refine aops_cut 9 (ε := Bool) (fun x12 => (⟨100, [], [(0, .one (.val (Sv a0))), (5, .one (CV.ls c_Token x5.1)), (8, .one (CV.ls c_Token x6.1)), (11, .one (CV.ls c_Token x11.1)), (64, vB x12)], []⟩ : ASt)) (fun x12 => x12 = o12) ?_ ?_
  · intro x12 hI12
    subst hI12
    change AOps _ _ _ (⟨100, [], [(0, .one (.val (Sv a0))), (5, .one (CV.ls c_Token x5.1)), (8, .one (CV.ls c_Token x6.1)), (11, .one (CV.ls c_Token x11.1)), (64, vB x12)], []⟩ : ASt) _
    refine aops_nil ?_
    refine aw_cond rfl (fun c13 => ?_) (fun c13 => ?_)
    · replace h := Md.cond_t h c13
      refine aw_seq (aw_region (s_sa ?_))
      refine aops_nil ?_
      cases Option.some.inj h
      exact aw_ret ⟨rfl, rv r1⟩
    replace h := Md.cond_f h c13
    refine aw_skip (aw_seq (aw_seq (aw_region (s_sa ?_))))
    refine aops_nil (aw_block ?_)
    obtain ⟨o14, ho14, h⟩ := Md.bind_s h
    refine aw_loop_x (ι := {p : Nat × Nat // actorgridlaw17_LexParts_loop1 k a0 x5 x6 x11 p.1 p.2 = some o14}) (fun p => (⟨100, [], [(0, .one (.val (Sv a0))), (5, .one (CV.ls c_Token x5.1)), (8, .one (CV.ls c_Token x6.1)), (11, .one (CV.ls c_Token x11.1)), (14, vI ((p.1.2 : Nat) : Int))], []⟩ : ASt)) (fun p => p.1.1) ⟨(k, 0), ho14⟩ wk 0 (ε := Unit) (fun x => (⟨100, [], [], []⟩ : ASt)) (fun x => Sum.inl x = o14) (fun _ _ w h => aw_weak w h) ?_ ?_
    · intro x14_0 hI14
      subst hI14
      replace h := Md.onS_l h
      change AW _ _ (⟨100, [], [], []⟩ : ASt) _
      refine aw_seq (aw_region (s_sa ?_))
      refine aops_nil ?_
      cases Option.some.inj h
      exact aw_ret ⟨rfl, rv r1⟩
    intro p14
    obtain ⟨⟨n14, s14_0⟩, l14⟩ := p14
    change AW _ _ (⟨100, [], [(0, .one (.val (Sv a0))), (5, .one (CV.ls c_Token x5.1)), (8, .one (CV.ls c_Token x6.1)), (11, .one (CV.ls c_Token x11.1)), (14, vI ((s14_0 : Nat) : Int))], []⟩ : ASt) _
    replace l14 : actorgridlaw17_LexParts_loop1 k a0 x5 x6 x11 n14 s14_0 = some o14 := l14
    rcases n14 with _ | n14
    · exact absurd (show none = some o14 from l14) nofun
    rw [actorgridlaw17_LexParts_loop1] at l14
    refine aw_seq (aw_seq (aw_region ?_))
    iterate 2 refine s_mv ?_
    refine s_ln ?_
    refine s_cm ?_
    refine aops_nil ?_
    refine aw_cond rfl (fun c15 => ?_) (fun c15 => ?_)
    · replace l14 := Md.cond_t l14 c15
      refine aw_skip ?_
      obtain ⟨o16, j16, l14⟩ := Md.bind_s l14
      refine aw_cut (ε := Unit) (fun x => (⟨100, [], [(0, .one (.val (Sv a0))), (5, .one (CV.ls c_Token x5.1)), (8, .one (CV.ls c_Token x6.1)), (11, .one (CV.ls c_Token x11.1)), (14, vI ((s14_0 : Nat) : Int))], []⟩ : ASt)) (fun x => Sum.inl x = o16) ?_ ?_
      · intro x16_0 hI16
        subst hI16
        replace l14 := Md.onS_l l14
        change AW _ _ (⟨100, [], [(0, .one (.val (Sv a0))), (5, .one (CV.ls c_Token x5.1)), (8, .one (CV.ls c_Token x6.1)), (11, .one (CV.ls c_Token x11.1)), (14, vI ((s14_0 : Nat) : Int))], []⟩ : ASt) _
        refine aw_region (s_mv ?_)
        obtain ⟨g17, l14⟩ := Md.ifp_s l14
        refine aops_step1 rfl (ev_add rfl rfl rfl (Md.nat_add g17)) (s_sa ?_)
        refine aops_nil ?_
        exact ⟨⟨(n14, (s14_0 + 1)), l14⟩, Nat.lt_succ_self _, wk⟩
      refine aw_block (aw_seq (aw_region (aops_step1 rfl (ev_build' (out := [_, _, _, _]) rfl rfl rfl rfl rfl) ?_)))
      refine aops_step1 rfl (st_alloc (cs := [cI 0, .val (Sv []), cI 0, cI 0]) 0 rfl rfl rfl rfl rfl) (s_st [_, _, _, _] ?_)
      refine aops_nil (aw_seq (aw_seq (aw_region ?_)))
      iterate 2 refine s_mv ?_
      refine s_ln ?_
      refine s_cm ?_
      refine aops_nil ?_
      refine aw_cond rfl (fun c18 => ?_) (fun c18 => ?_)
      · replace j16 := Md.cond_t j16 c18
        refine aw_region ?_
        iterate 2 refine s_mv ?_
        obtain ⟨g19, j16⟩ := Md.ifp_s j16
        refine aops_step1 rfl (ev_index_in rfl rfl rfl g19 rfl rfl) (aops_step1 rfl (ev_loads_in (ds := [_, _, _, _]) rfl rfl rfl rfl) (s_st [_, _, _, _] ?_))
        refine aops_nil ?_
        obtain ⟨g20, j16⟩ := Md.ifp_s j16
        refine aw_seq ?_
        apply aw_draw 5 ((⟨[], .one (CV.ls c_Token x11.1)⟩ : Add) :: ⟨[], vI ((s14_0 : Nat) : Int)⟩ :: ⟨[], .one (.cptr _)⟩ :: ⟨[], .agg (c_Token (x11.1.getD s14_0 default))⟩ :: ⟨[], .agg (c_Token (x5.1.getD s14_0 default))⟩ :: []) (by decide) rfl ?hk11x ?hf11x ?ho11x ?hr11x
        case ho11x =>
         refine ob [] (fun S hle hfr => .inl ⟨w0, st_move (hle.e rfl) (hle.d rfl)⟩) (ob [] (fun S hle hfr => .inl ⟨w0, st_move (hle.e rfl) (hle.d rfl)⟩) ?_)
         refine ob [0, 1] (fun S hle hfr => .inl ⟨w0, ev_index_in (hle.e rfl) (hle.e rfl) rfl g20 rfl (hle.d rfl)⟩) ?_
         refine ob [2, 0, 1] (fun S hle hfr => .inl ⟨w0, ev_loads_in (ds := [_, _, _, _]) (hle.e rfl) rfl rfl (hle.d rfl)⟩) ?_
         refine ob [] (fun S hle hfr => .inl ⟨w0, ev_loads (ds := [_, _, _, _]) (hle.e rfl) (hle.heap _ _ rfl) rfl rfl (hle.d rfl)⟩) ?_
         exact trivial
        case hk11x => rfl
        case hf11x => rfl
        refine aops_step1 rfl (ev_agg_ne (vs := [.int .i64 ((x11.1.getD s14_0 default).Kind), Sv ((x11.1.getD s14_0 default).Text), .int .i64 ((x11.1.getD s14_0 default).Num), .int .i64 ((x11.1.getD s14_0 default).At)]) (us := [.int .i64 ((x5.1.getD s14_0 default).Kind), Sv ((x5.1.getD s14_0 default).Text), .int .i64 ((x5.1.getD s14_0 default).Num), .int .i64 ((x5.1.getD s14_0 default).At)]) (by kernel_rfl) rfl rfl (fun w => sq_Token (⟨((x11.1.getD s14_0 default).Kind), ((x11.1.getD s14_0 default).Text), ((x11.1.getD s14_0 default).Num), ((x11.1.getD s14_0 default).At)⟩ : Token) (⟨((x5.1.getD s14_0 default).Kind), ((x5.1.getD s14_0 default).Text), ((x5.1.getD s14_0 default).Num), ((x5.1.getD s14_0 default).At)⟩ : Token) w) rfl) ?_
        refine aops_nil ?_
        refine aw_cond rfl (fun c21 => ?_) (fun c21 => ?_)
        · replace j16 := Md.cond_t j16 c21
          refine aw_seq (aw_region (s_sa ?_))
          refine aops_nil ?_
          cases Option.some.inj j16
          replace l14 := Md.onS_r l14
          cases Option.some.inj l14
          replace h := Md.onS_r h
          cases Option.some.inj h
          exact aw_ret ⟨rfl, rv r1⟩
        replace j16 := Md.cond_f j16 c21
        refine aw_skip ?_
        show ∃ _x : Unit, _ = _ ∧ Weak _ _
        exact ⟨(), Option.some.inj j16, wk⟩
      replace j16 := Md.cond_f j16 c18
      refine aw_seq (aw_region ?_)
      iterate 3 refine s_mv ?_
      refine s_ln ?_
      refine aops_step1 rfl (ev_sub rfl rfl rfl (Md.wrap_W _)) ?_
      obtain ⟨g22, j16⟩ := Md.ifp_s j16
      refine aops_step1 rfl (ev_index_in rfl rfl (Md.idx_eq g22) (Md.idx_lt g22) rfl rfl) (aops_step1 rfl (ev_loads_in (ds := [_, _, _, _]) rfl rfl rfl rfl) (s_st [_, _, _, _] ?_))
      refine aops_nil (aw_region (s_fd ?_))
      refine s_ld ?_
      refine s_mv ?_
      refine aops_step1 rfl (st_len_str rfl rfl) (aops_step1 rfl (ev_add rfl rfl rfl (Md.wrap_W _)) (aops_step1 rfl (ev_add rfl rfl rfl (Md.wrap_W _)) (s_fd ?_)))
      refine s_st [_, _, _, _] ?_
      refine aops_nil ?_
      obtain ⟨g23, j16⟩ := Md.ifp_s j16
      refine aw_seq ?_
      apply aw_draw 5 ((⟨[], .one (CV.ls c_Token x11.1)⟩ : Add) :: ⟨[], vI ((s14_0 : Nat) : Int)⟩ :: ⟨[], .one (.cptr _)⟩ :: ⟨[], .agg (c_Token (x11.1.getD s14_0 default))⟩ :: ⟨[], .agg [cI ((x6.1.getD (((Md.W (((s14_0 : Nat) : Int) - ((x5.1.length : Nat) : Int)))).toNat) default).Kind), .val (Sv ((x6.1.getD (((Md.W (((s14_0 : Nat) : Int) - ((x5.1.length : Nat) : Int)))).toNat) default).Text)), cI ((x6.1.getD (((Md.W (((s14_0 : Nat) : Int) - ((x5.1.length : Nat) : Int)))).toNat) default).Num), cI (Md.W ((Md.W (((x6.1.getD (((Md.W (((s14_0 : Nat) : Int) - ((x5.1.length : Nat) : Int)))).toNat) default).At) + ((a0.length : Nat) : Int))) + 1))]⟩ :: []) (by decide) rfl ?hk12x ?hf12x ?ho12x ?hr12x
      case ho12x =>
       refine ob [] (fun S hle hfr => .inl ⟨w0, st_move (hle.e rfl) (hle.d rfl)⟩) (ob [] (fun S hle hfr => .inl ⟨w0, st_move (hle.e rfl) (hle.d rfl)⟩) ?_)
       refine ob [0, 1] (fun S hle hfr => .inl ⟨w0, ev_index_in (hle.e rfl) (hle.e rfl) rfl g23 rfl (hle.d rfl)⟩) ?_
       refine ob [2, 0, 1] (fun S hle hfr => .inl ⟨w0, ev_loads_in (ds := [_, _, _, _]) (hle.e rfl) rfl rfl (hle.d rfl)⟩) ?_
       refine ob [] (fun S hle hfr => .inl ⟨w0, ev_loads (ds := [_, _, _, _]) (hle.e rfl) (hle.heap _ _ rfl) rfl rfl (hle.d rfl)⟩) ?_
       exact trivial
      case hk12x => rfl
      case hf12x => rfl
      refine aops_step1 rfl (ev_agg_ne (vs := [.int .i64 ((x11.1.getD s14_0 default).Kind), Sv ((x11.1.getD s14_0 default).Text), .int .i64 ((x11.1.getD s14_0 default).Num), .int .i64 ((x11.1.getD s14_0 default).At)]) (us := [.int .i64 ((x6.1.getD (((Md.W (((s14_0 : Nat) : Int) - ((x5.1.length : Nat) : Int)))).toNat) default).Kind), Sv ((x6.1.getD (((Md.W (((s14_0 : Nat) : Int) - ((x5.1.length : Nat) : Int)))).toNat) default).Text), .int .i64 ((x6.1.getD (((Md.W (((s14_0 : Nat) : Int) - ((x5.1.length : Nat) : Int)))).toNat) default).Num), .int .i64 (Md.W ((Md.W (((x6.1.getD (((Md.W (((s14_0 : Nat) : Int) - ((x5.1.length : Nat) : Int)))).toNat) default).At) + ((a0.length : Nat) : Int))) + 1))]) (by kernel_rfl) rfl rfl (fun w => sq_Token (⟨((x11.1.getD s14_0 default).Kind), ((x11.1.getD s14_0 default).Text), ((x11.1.getD s14_0 default).Num), ((x11.1.getD s14_0 default).At)⟩ : Token) (⟨((x6.1.getD (((Md.W (((s14_0 : Nat) : Int) - ((x5.1.length : Nat) : Int)))).toNat) default).Kind), ((x6.1.getD (((Md.W (((s14_0 : Nat) : Int) - ((x5.1.length : Nat) : Int)))).toNat) default).Text), ((x6.1.getD (((Md.W (((s14_0 : Nat) : Int) - ((x5.1.length : Nat) : Int)))).toNat) default).Num), (Md.W ((Md.W (((x6.1.getD (((Md.W (((s14_0 : Nat) : Int) - ((x5.1.length : Nat) : Int)))).toNat) default).At) + ((a0.length : Nat) : Int))) + 1))⟩ : Token) w) rfl) ?_
      refine aops_nil ?_
      refine aw_cond rfl (fun c24 => ?_) (fun c24 => ?_)
      · replace j16 := Md.cond_t j16 c24
        refine aw_seq (aw_region (s_sa ?_))
        refine aops_nil ?_
        cases Option.some.inj j16
        replace l14 := Md.onS_r l14
        cases Option.some.inj l14
        replace h := Md.onS_r h
        cases Option.some.inj h
        exact aw_ret ⟨rfl, rv r1⟩
      replace j16 := Md.cond_f j16 c24
      refine aw_skip ?_
      show ∃ _x : Unit, _ = _ ∧ Weak _ _
      exact ⟨(), Option.some.inj j16, wk⟩
    replace l14 := Md.cond_f l14 c15
    refine aw_exit ?_
    show ∃ _x : Unit, _ = _ ∧ Weak _ _
    exact ⟨(), Option.some.inj l14, wk⟩
  rcases Md.bool_or ((x11.2.2 != 0)) with q12 | q12
  · replace j12 := Md.cond_t j12 q12
    iterate 8 refine np q12 ?_
    refine s_py q12 ?_
    refine aops_nil ?_
    show ∃ _x : Bool, _ = _ ∧ Weak _ _
    exact ⟨true, Option.some.inj j12, wk⟩
  replace j12 := Md.cond_f j12 q12
  refine y_mv q12 ?_
  refine y_ln q12 ?_
  refine y_mv q12 ?_
  refine y_ln q12 ?_
  refine y_mv q12 ?_
  refine y_ln q12 ?_
  obtain ⟨g25, j12⟩ := Md.ifp_s j12
  refine aops_yes rfl rfl rfl rfl q12 (ev_add rfl rfl rfl (Md.nat_add g25)) (y_cm q12 ?_)
  refine s_pn q12 ?_
  refine aops_nil ?_
  show ∃ _x : Bool, _ = _ ∧ Weak _ _
  exact ⟨(((x11.1.length : Nat) : Int) != (((x5.1.length + x6.1.length) : Nat) : Int)), Option.some.inj j12, wk⟩
set_option maxHeartbeats 2000000 in
theorem actorgridlaw17_LexBlanks_fn (k : Nat) (a0 : List (List UInt8)) (a1 : List UInt8) (r : Bool) (h : actorgridlaw17_LexBlanks k a0 a1 = some r) : FnC Tryd.prog 12 [.one (CV.ls c_Str a0), .one (.val (Sv a1))] [] (Det (vB r) []) := by
  unfold actorgridlaw17_LexBlanks at h
  refine fn_intro' 150 Tryd.func12 rfl rfl rfl (aw_seq (aw_region (s_sa ?_)))
  refine aops_nil (aw_seq (aw_seq (aw_region ?_)))
  obtain ⟨x1, hx1, h⟩ := Md.bind_s h
  refine aops_step1 rfl (ev_call_v (actorgridlaw17_awake_fn k x1 hx1) rfl [] ai rfl rfl rfl (.inl rfl) rfl) (s_nt ?_)
  refine aops_nil ?_
  refine aw_cond rfl (fun c2 => ?_) (fun c2 => ?_)
  · replace h := Md.cond_t h c2
    refine aw_seq (aw_region (s_sa ?_))
    refine aops_nil ?_
    cases Option.some.inj h
    exact aw_ret ⟨rfl, rv r1⟩
  replace h := Md.cond_f h c2
  refine aw_skip (aw_seq (aw_seq (aw_region (s_mv ?_))))
  refine s_ln ?_
  refine s_cm ?_
  refine s_mv ?_
  refine aops_mid 4 (⟨150, [], [(0, .one (CV.ls c_Str a0)), (1, .one (.val (Sv a1))), (28, vB ((decide (((a0.length : Nat) : Int) > 20)) || (decide (((a1.length : Nat) : Int) > 50))))], []⟩ : ASt) ?_ ?_
  · rcases Md.bool_or ((decide (((a0.length : Nat) : Int) > 20))) with q3 | q3
    · skip
      iterate 3 refine np q3 ?_
      refine s_py q3 ?_
      refine aops_nil ?_
      exact wq q3
    refine y_mv q3 ?_
    refine aops_yes rfl rfl rfl rfl q3 (st_len_str rfl rfl) (y_cm q3 ?_)
    refine s_pn q3 ?_
    refine aops_nil ?_
    exact wq q3
  refine aops_nil ?_
  refine aw_cond rfl (fun c4 => ?_) (fun c4 => ?_)
  · replace h := Md.cond_t h c4
    refine aw_seq (aw_region (s_sa ?_))
    refine aops_nil ?_
    cases Option.some.inj h
    exact aw_ret ⟨rfl, rv r1⟩
  replace h := Md.cond_f h c4
  refine aw_skip (aw_seq (aw_seq (aw_region (s_sa ?_))))
  refine aops_nil (aw_block ?_)
  obtain ⟨o5, ho5, h⟩ := Md.bind_s h
  refine aw_loop_x (ι := {p : Nat × Nat // actorgridlaw17_LexBlanks_loop1 k a1 p.1 p.2 = some o5}) (fun p => (⟨150, [], [(0, .one (CV.ls c_Str a0)), (1, .one (.val (Sv a1))), (5, vI ((p.1.2 : Nat) : Int))], []⟩ : ASt)) (fun p => p.1.1) ⟨(k, 0), ho5⟩ wk 0 (ε := Unit) (fun x => (⟨150, [], [(0, .one (CV.ls c_Str a0)), (1, .one (.val (Sv a1)))], []⟩ : ASt)) (fun x => Sum.inl x = o5) (fun _ _ w h => aw_weak w h) ?_ ?_
  · intro x5_0 hI5
    subst hI5
    replace h := Md.onS_l h
    change AW _ _ (⟨150, [], [(0, .one (CV.ls c_Str a0)), (1, .one (.val (Sv a1)))], []⟩ : ASt) _
    refine aw_seq (aw_region ?_)
    iterate 2 refine s_sa ?_
    refine aops_nil (aw_seq (aw_seq (aw_region (s_sa ?_))))
    refine aops_nil (aw_block ?_)
    obtain ⟨o6, ho6, h⟩ := Md.bind_s h
    refine aw_loop_x (ι := {p : Nat × (List UInt8) × (List UInt8) × Nat // actorgridlaw17_LexBlanks_loop2 k a0 a1 p.1 p.2.1 p.2.2.1 p.2.2.2 = some o6}) (fun p => (⟨150, [], [(0, .one (CV.ls c_Str a0)), (1, .one (.val (Sv a1))), (6, .one (.val (Sv p.1.2.1))), (7, .one (.val (Sv p.1.2.2.1))), (8, vI ((p.1.2.2.2 : Nat) : Int))], []⟩ : ASt)) (fun p => p.1.1) ⟨(k, ([] : List UInt8), ([] : List UInt8), 0), ho6⟩ wk 2 (ε := ((List UInt8) × (List UInt8))) (fun x => (⟨150, [], [(6, .one (.val (Sv x.1))), (7, .one (.val (Sv x.2)))], []⟩ : ASt)) (fun x => Sum.inl x = o6) (fun _ _ w h => aw_weak w h) ?_ ?_
    · intro x6_0 hI6
      subst hI6
      replace h := Md.onS_l h
      change AW _ _ (⟨150, [], [(6, .one (.val (Sv x6_0.1))), (7, .one (.val (Sv x6_0.2)))], []⟩ : ASt) _
      refine aw_seq (aw_region (s_mv ?_))
      obtain ⟨x7, hx7, h⟩ := Md.bind_s h
      refine aops_step1 rfl (ev_call_v (lexer_Tokens_fn k x6_0.1 x7 hx7) rfl [] ai rfl rfl rfl (.inl rfl) rfl) (s_mt ?_)
      iterate 3 refine s_ex ?_
      iterate 3 refine s_sa ?_
      refine aops_nil (aw_seq (aw_region (s_mv ?_)))
      obtain ⟨x8, hx8, h⟩ := Md.bind_s h
      refine aops_step1 rfl (ev_call_v (lexer_Tokens_fn k x6_0.2 x8 hx8) rfl [] ai rfl rfl rfl (.inl rfl) rfl) (s_mt ?_)
      iterate 3 refine s_ex ?_
      iterate 3 refine s_sa ?_
      refine aops_nil (aw_seq (aw_seq (aw_region (s_mv ?_))))
      refine s_cm ?_
      refine s_mv ?_
      refine aops_mid 3 (⟨150, [], [(12, .one (CV.ls c_Token x7.1)), (15, .one (CV.ls c_Token x8.1)), (99, vB ((x7.2.2 != 0) || (x8.2.2 != 0)))], []⟩ : ASt) ?_ ?_
      · rcases Md.bool_or ((x7.2.2 != 0)) with q9 | q9
        · skip
          iterate 2 refine np q9 ?_
          refine s_py q9 ?_
          refine aops_nil ?_
          exact wq q9
        refine y_mv q9 ?_
        refine y_cm q9 ?_
        refine s_pn q9 ?_
        refine aops_nil ?_
        exact wq q9
      refine s_mv ?_
      refine aops_mid 6 (⟨150, [], [(12, .one (CV.ls c_Token x7.1)), (15, .one (CV.ls c_Token x8.1)), (106, vB (((x7.2.2 != 0) || (x8.2.2 != 0)) || (((x7.1.length : Nat) : Int) != ((x8.1.length : Nat) : Int))))], []⟩ : ASt) ?_ ?_
      · rcases Md.bool_or (((x7.2.2 != 0) || (x8.2.2 != 0))) with q10 | q10
        · skip
          iterate 5 refine np q10 ?_
          refine s_py q10 ?_
          refine aops_nil ?_
          exact wq q10
        refine y_mv q10 ?_
        refine y_ln q10 ?_
        refine y_mv q10 ?_
        refine y_ln q10 ?_
        refine y_cm q10 ?_
        refine s_pn q10 ?_
        refine aops_nil ?_
        exact wq q10
      refine aops_nil ?_
      refine aw_cond rfl (fun c11 => ?_) (fun c11 => ?_)
      · replace h := Md.cond_t h c11
        refine aw_seq (aw_region (s_sa ?_))
        refine aops_nil ?_
        cases Option.some.inj h
        exact aw_ret ⟨rfl, rv r1⟩
      replace h := Md.cond_f h c11
      refine aw_skip (aw_seq (aw_seq (aw_region (s_sa ?_))))
      refine aops_nil (aw_block ?_)
      obtain ⟨o12, ho12, h⟩ := Md.bind_s h
      refine aw_loop_x (ι := {p : Nat × Nat // actorgridlaw17_LexBlanks_loop3 k x7 x8 p.1 p.2 = some o12}) (fun p => (⟨150, [], [(12, .one (CV.ls c_Token x7.1)), (15, .one (CV.ls c_Token x8.1)), (18, vI ((p.1.2 : Nat) : Int))], []⟩ : ASt)) (fun p => p.1.1) ⟨(k, 0), ho12⟩ wk 4 (ε := Unit) (fun x => (⟨150, [], [], []⟩ : ASt)) (fun x => Sum.inl x = o12) (fun _ _ w h => aw_weak w h) ?_ ?_
      · intro x12_0 hI12
        subst hI12
        replace h := Md.onS_l h
        change AW _ _ (⟨150, [], [], []⟩ : ASt) _
        refine aw_seq (aw_region (s_sa ?_))
        refine aops_nil ?_
        cases Option.some.inj h
        exact aw_ret ⟨rfl, rv r1⟩
      intro p12
      obtain ⟨⟨n12, s12_0⟩, l12⟩ := p12
      change AW _ _ (⟨150, [], [(12, .one (CV.ls c_Token x7.1)), (15, .one (CV.ls c_Token x8.1)), (18, vI ((s12_0 : Nat) : Int))], []⟩ : ASt) _
      replace l12 : actorgridlaw17_LexBlanks_loop3 k x7 x8 n12 s12_0 = some o12 := l12
      rcases n12 with _ | n12
      · exact absurd (show none = some o12 from l12) nofun
      rw [actorgridlaw17_LexBlanks_loop3] at l12
      refine aw_seq (aw_seq (aw_region ?_))
      iterate 2 refine s_mv ?_
      refine s_ln ?_
      refine s_cm ?_
      refine aops_nil ?_
      refine aw_cond rfl (fun c13 => ?_) (fun c13 => ?_)
      · replace l12 := Md.cond_t l12 c13
        refine aw_skip (aw_seq (aw_block ?_))
        obtain ⟨g14, l12⟩ := Md.ifp_s l12
        obtain ⟨g15, l12⟩ := Md.ifp_s l12
        rcases Md.bool_or ((((x7.1.getD s12_0 default).Kind) != ((x8.1.getD s12_0 default).Kind))) with q16 | q16
        · replace l12 := Md.cond_t l12 q16
          refine aw_seq ?_
          apply aw_draw 35 ((⟨[], .one (CV.ls c_Token x7.1)⟩ : Add) :: ⟨[], vI ((s12_0 : Nat) : Int)⟩ :: ⟨[], .one (.cptr _)⟩ :: ⟨[], .one (.cptr _)⟩ :: ⟨[], vI ((x7.1.getD s12_0 default).Kind)⟩ :: ⟨[], .one (CV.ls c_Token x8.1)⟩ :: ⟨[], vI ((s12_0 : Nat) : Int)⟩ :: ⟨[], .one (.cptr _)⟩ :: ⟨[], .one (.cptr _)⟩ :: ⟨[], vI ((x8.1.getD s12_0 default).Kind)⟩ :: ⟨[], vB (((x7.1.getD s12_0 default).Kind) != ((x8.1.getD s12_0 default).Kind))⟩ :: ⟨[], vB (((x7.1.getD s12_0 default).Kind) != ((x8.1.getD s12_0 default).Kind))⟩ :: ⟨[], .tup []⟩ :: ⟨[], .tup []⟩ :: ⟨[], .tup []⟩ :: ⟨[], .tup []⟩ :: ⟨[], .tup []⟩ :: ⟨[], .tup []⟩ :: ⟨[], .tup []⟩ :: ⟨[], .tup []⟩ :: ⟨[], .tup []⟩ :: ⟨[], .tup []⟩ :: ⟨[], .tup []⟩ :: ⟨[], vB true⟩ :: ⟨[], vB true⟩ :: ⟨[], .tup []⟩ :: ⟨[], .tup []⟩ :: ⟨[], .tup []⟩ :: ⟨[], .tup []⟩ :: ⟨[], .tup []⟩ :: ⟨[], .tup []⟩ :: ⟨[], .tup []⟩ :: ⟨[], .tup []⟩ :: ⟨[], .tup []⟩ :: ⟨[], .tup []⟩ :: []) (by decide) rfl ?hk16x ?hf16x ?ho16x ?hr16x
          case ho16x =>
           refine ob [] (fun S hle hfr => .inl ⟨w0, st_move (hle.e rfl) (hle.d rfl)⟩) (ob [] (fun S hle hfr => .inl ⟨w0, st_move (hle.e rfl) (hle.d rfl)⟩) ?_)
           refine ob [0, 1] (fun S hle hfr => .inl ⟨w0, ev_index_in (hle.e rfl) (hle.e rfl) rfl g14 rfl (hle.d rfl)⟩) ?_
           refine ob [2, 0, 1] (fun S hle hfr => .inl ⟨w0, ev_field_in (hle.e rfl) rfl (hle.d rfl)⟩) ?_
           refine ob [3, 2, 0, 1] (fun S hle hfr => .inl ⟨w0, ev_load_in (hle.e rfl) rfl (hle.d rfl)⟩) ?_
           refine ob [] (fun S hle hfr => .inl ⟨w0, st_move (hle.e rfl) (hle.d rfl)⟩) (ob [] (fun S hle hfr => .inl ⟨w0, st_move (hle.e rfl) (hle.d rfl)⟩) ?_)
           refine ob [5, 6] (fun S hle hfr => .inl ⟨w0, ev_index_in (hle.e rfl) (hle.e rfl) rfl g15 rfl (hle.d rfl)⟩) ?_
           refine ob [7, 5, 6] (fun S hle hfr => .inl ⟨w0, ev_field_in (hle.e rfl) rfl (hle.d rfl)⟩) ?_
           refine ob [8, 7, 5, 6] (fun S hle hfr => .inl ⟨w0, ev_load_in (hle.e rfl) rfl (hle.d rfl)⟩) ?_
           refine ob [4, 9, 3, 8, 2, 7, 0, 1, 5, 6] (fun S hle hfr => .inl ⟨w0, ev_cmp (hle.e rfl) (hle.e rfl) (hle.d rfl) rfl⟩) ?_
           refine ob [10, 4, 9, 3, 8, 2, 7, 0, 1, 5, 6] (fun S hle hfr => .inl ⟨w0, st_move (hle.e rfl) (hle.d rfl)⟩) ?_
           refine ob [11, 10, 4, 9, 3, 8, 2, 7, 0, 1, 5, 6] (fun S hle hfr => nw hle q16) (ob [11, 10, 4, 9, 3, 8, 2, 7, 0, 1, 5, 6] (fun S hle hfr => nw hle q16) ?_)
           refine ob [12, 13, 11, 10, 4, 9, 3, 8, 2, 7, 0, 1, 5, 6] (fun S hle hfr => nw hle q16) ?_
           refine ob [14, 11, 12, 13, 10, 4, 9, 3, 8, 2, 7, 0, 1, 5, 6] (fun S hle hfr => nw hle q16) ?_
           refine ob [15, 11, 14, 10, 12, 13, 4, 9, 3, 8, 2, 7, 0, 1, 5, 6] (fun S hle hfr => nw hle q16) ?_
           refine ob [11, 10, 4, 9, 3, 8, 2, 7, 0, 1, 5, 6] (fun S hle hfr => nw hle q16) (ob [11, 10, 4, 9, 3, 8, 2, 7, 0, 1, 5, 6] (fun S hle hfr => nw hle q16) ?_)
           refine ob [17, 18, 11, 10, 4, 9, 3, 8, 2, 7, 0, 1, 5, 6] (fun S hle hfr => nw hle q16) ?_
           refine ob [19, 11, 17, 18, 10, 4, 9, 3, 8, 2, 7, 0, 1, 5, 6] (fun S hle hfr => nw hle q16) ?_
           refine ob [20, 11, 19, 10, 17, 18, 4, 9, 3, 8, 2, 7, 0, 1, 5, 6] (fun S hle hfr => nw hle q16) ?_
           refine ob [16, 21, 11, 15, 20, 10, 14, 19, 4, 9, 12, 13, 17, 18, 3, 8, 2, 7, 0, 1, 5, 6] (fun S hle hfr => nw hle q16) ?_
           refine ob [11, 22, 10, 16, 21, 4, 9, 15, 20, 3, 8, 14, 19, 2, 7, 12, 13, 17, 18, 0, 1, 5, 6] (fun S hle hfr => .inl ⟨w0, st_pick_yes (hle.e rfl) (by first | rfl | exact q16) (hle.e rfl) (hle.d rfl)⟩) ?_
           refine ob [23, 11, 22, 10, 16, 21, 4, 9, 15, 20, 3, 8, 14, 19, 2, 7, 12, 13, 17, 18, 0, 1, 5, 6] (fun S hle hfr => .inl ⟨w0, st_move (hle.e rfl) (hle.d rfl)⟩) ?_
           refine ob [24, 23, 11, 22, 10, 16, 21, 4, 9, 15, 20, 3, 8, 14, 19, 2, 7, 12, 13, 17, 18, 0, 1, 5, 6] (fun S hle hfr => .inr ⟨.inr (.inl ⟨_, _, _, _, rfl, rfl, (hle.ev (x := .tmp _) rfl (by nofun)), (by rw [hle.nt]; rfl), (by first | rfl | (rw [rfl]; rfl))⟩), rfl, hle.d rfl⟩) ?_
           refine ob [24, 23, 11, 22, 10, 16, 21, 4, 9, 15, 20, 3, 8, 14, 19, 2, 7, 12, 13, 17, 18, 0, 1, 5, 6] (fun S hle hfr => .inr ⟨.inr (.inl ⟨_, _, _, _, rfl, rfl, (hle.ev (x := .tmp _) rfl (by nofun)), (by rw [hle.nt]; rfl), (by first | rfl | (rw [rfl]; rfl))⟩), rfl, hle.d rfl⟩) ?_
           refine ob [25, 26, 24, 23, 11, 22, 10, 16, 21, 4, 9, 15, 20, 3, 8, 14, 19, 2, 7, 12, 13, 17, 18, 0, 1, 5, 6] (fun S hle hfr => .inr ⟨.inr (.inl ⟨_, _, _, _, rfl, rfl, (hle.ev (x := .tmp _) rfl (by nofun)), (by rw [hle.nt]; rfl), (by first | rfl | (rw [rfl]; rfl))⟩), rfl, hle.d rfl⟩) ?_
           refine ob [27, 24, 25, 26, 23, 11, 22, 10, 16, 21, 4, 9, 15, 20, 3, 8, 14, 19, 2, 7, 12, 13, 17, 18, 0, 1, 5, 6] (fun S hle hfr => .inr ⟨.inr (.inl ⟨_, _, _, _, rfl, rfl, (hle.ev (x := .tmp _) rfl (by nofun)), (by rw [hle.nt]; rfl), (by first | rfl | (rw [rfl]; rfl))⟩), rfl, hle.d rfl⟩) ?_
           refine ob [28, 24, 27, 23, 11, 25, 26, 22, 10, 16, 21, 4, 9, 15, 20, 3, 8, 14, 19, 2, 7, 12, 13, 17, 18, 0, 1, 5, 6] (fun S hle hfr => .inr ⟨.inr (.inl ⟨_, _, _, _, rfl, rfl, (hle.ev (x := .tmp _) rfl (by nofun)), (by rw [hle.nt]; rfl), (by first | rfl | (rw [rfl]; rfl))⟩), rfl, hle.d rfl⟩) ?_
           refine ob [24, 23, 11, 22, 10, 16, 21, 4, 9, 15, 20, 3, 8, 14, 19, 2, 7, 12, 13, 17, 18, 0, 1, 5, 6] (fun S hle hfr => .inr ⟨.inr (.inl ⟨_, _, _, _, rfl, rfl, (hle.ev (x := .tmp _) rfl (by nofun)), (by rw [hle.nt]; rfl), (by first | rfl | (rw [rfl]; rfl))⟩), rfl, hle.d rfl⟩) ?_
           refine ob [24, 23, 11, 22, 10, 16, 21, 4, 9, 15, 20, 3, 8, 14, 19, 2, 7, 12, 13, 17, 18, 0, 1, 5, 6] (fun S hle hfr => .inr ⟨.inr (.inl ⟨_, _, _, _, rfl, rfl, (hle.ev (x := .tmp _) rfl (by nofun)), (by rw [hle.nt]; rfl), (by first | rfl | (rw [rfl]; rfl))⟩), rfl, hle.d rfl⟩) ?_
           refine ob [30, 31, 24, 23, 11, 22, 10, 16, 21, 4, 9, 15, 20, 3, 8, 14, 19, 2, 7, 12, 13, 17, 18, 0, 1, 5, 6] (fun S hle hfr => .inr ⟨.inr (.inl ⟨_, _, _, _, rfl, rfl, (hle.ev (x := .tmp _) rfl (by nofun)), (by rw [hle.nt]; rfl), (by first | rfl | (rw [rfl]; rfl))⟩), rfl, hle.d rfl⟩) ?_
           refine ob [32, 24, 30, 31, 23, 11, 22, 10, 16, 21, 4, 9, 15, 20, 3, 8, 14, 19, 2, 7, 12, 13, 17, 18, 0, 1, 5, 6] (fun S hle hfr => .inr ⟨.inr (.inl ⟨_, _, _, _, rfl, rfl, (hle.ev (x := .tmp _) rfl (by nofun)), (by rw [hle.nt]; rfl), (by first | rfl | (rw [rfl]; rfl))⟩), rfl, hle.d rfl⟩) ?_
           refine ob [33, 24, 32, 23, 11, 30, 31, 22, 10, 16, 21, 4, 9, 15, 20, 3, 8, 14, 19, 2, 7, 12, 13, 17, 18, 0, 1, 5, 6] (fun S hle hfr => .inr ⟨.inr (.inl ⟨_, _, _, _, rfl, rfl, (hle.ev (x := .tmp _) rfl (by nofun)), (by rw [hle.nt]; rfl), (by first | rfl | (rw [rfl]; rfl))⟩), rfl, hle.d rfl⟩) ?_
           exact trivial
          case hk16x => rfl
          case hf16x => rfl
          refine aops_no rfl rfl rfl rfl rfl (by decide) (aops_step1 rfl (st_pick_yes rfl (by first | rfl | exact rfl) rfl rfl) (aops_nil (aw_yes rfl (rfl) (aw_seq (aw_region (s_sa ?_))))))
          refine aops_nil ?_
          cases Option.some.inj l12
          replace h := Md.onS_r h
          cases Option.some.inj h
          exact aw_ret ⟨rfl, rv r1⟩
        replace l12 := Md.cond_f l12 q16
        obtain ⟨g17, l12⟩ := Md.ifp_s l12
        obtain ⟨g18, l12⟩ := Md.ifp_s l12
        rcases Md.bool_or ((!(decide (((x7.1.getD s12_0 default).Text) = ((x8.1.getD s12_0 default).Text))))) with q19 | q19
        · replace l12 := Md.cond_t l12 q19
          refine aw_seq ?_
          apply aw_draw 35 ((⟨[], .one (CV.ls c_Token x7.1)⟩ : Add) :: ⟨[], vI ((s12_0 : Nat) : Int)⟩ :: ⟨[], .one (.cptr _)⟩ :: ⟨[], .one (.cptr _)⟩ :: ⟨[], vI ((x7.1.getD s12_0 default).Kind)⟩ :: ⟨[], .one (CV.ls c_Token x8.1)⟩ :: ⟨[], vI ((s12_0 : Nat) : Int)⟩ :: ⟨[], .one (.cptr _)⟩ :: ⟨[], .one (.cptr _)⟩ :: ⟨[], vI ((x8.1.getD s12_0 default).Kind)⟩ :: ⟨[], vB (((x7.1.getD s12_0 default).Kind) != ((x8.1.getD s12_0 default).Kind))⟩ :: ⟨[], vB (((x7.1.getD s12_0 default).Kind) != ((x8.1.getD s12_0 default).Kind))⟩ :: ⟨[], .one (CV.ls c_Token x7.1)⟩ :: ⟨[], vI ((s12_0 : Nat) : Int)⟩ :: ⟨[], .one (.cptr _)⟩ :: ⟨[], .one (.cptr _)⟩ :: ⟨[], .one (.val (Sv ((x7.1.getD s12_0 default).Text)))⟩ :: ⟨[], .one (CV.ls c_Token x8.1)⟩ :: ⟨[], vI ((s12_0 : Nat) : Int)⟩ :: ⟨[], .one (.cptr _)⟩ :: ⟨[], .one (.cptr _)⟩ :: ⟨[], .one (.val (Sv ((x8.1.getD s12_0 default).Text)))⟩ :: ⟨[], vB (!(decide (((x7.1.getD s12_0 default).Text) = ((x8.1.getD s12_0 default).Text))))⟩ :: ⟨[], vB (!(decide (((x7.1.getD s12_0 default).Text) = ((x8.1.getD s12_0 default).Text))))⟩ :: ⟨[], vB (!(decide (((x7.1.getD s12_0 default).Text) = ((x8.1.getD s12_0 default).Text))))⟩ :: ⟨[], .tup []⟩ :: ⟨[], .tup []⟩ :: ⟨[], .tup []⟩ :: ⟨[], .tup []⟩ :: ⟨[], .tup []⟩ :: ⟨[], .tup []⟩ :: ⟨[], .tup []⟩ :: ⟨[], .tup []⟩ :: ⟨[], .tup []⟩ :: ⟨[], .tup []⟩ :: []) (by decide) rfl ?hk17x ?hf17x ?ho17x ?hr17x
          case ho17x =>
           refine ob [] (fun S hle hfr => .inl ⟨w0, st_move (hle.e rfl) (hle.d rfl)⟩) (ob [] (fun S hle hfr => .inl ⟨w0, st_move (hle.e rfl) (hle.d rfl)⟩) ?_)
           refine ob [0, 1] (fun S hle hfr => .inl ⟨w0, ev_index_in (hle.e rfl) (hle.e rfl) rfl g14 rfl (hle.d rfl)⟩) ?_
           refine ob [2, 0, 1] (fun S hle hfr => .inl ⟨w0, ev_field_in (hle.e rfl) rfl (hle.d rfl)⟩) ?_
           refine ob [3, 2, 0, 1] (fun S hle hfr => .inl ⟨w0, ev_load_in (hle.e rfl) rfl (hle.d rfl)⟩) ?_
           refine ob [] (fun S hle hfr => .inl ⟨w0, st_move (hle.e rfl) (hle.d rfl)⟩) (ob [] (fun S hle hfr => .inl ⟨w0, st_move (hle.e rfl) (hle.d rfl)⟩) ?_)
           refine ob [5, 6] (fun S hle hfr => .inl ⟨w0, ev_index_in (hle.e rfl) (hle.e rfl) rfl g15 rfl (hle.d rfl)⟩) ?_
           refine ob [7, 5, 6] (fun S hle hfr => .inl ⟨w0, ev_field_in (hle.e rfl) rfl (hle.d rfl)⟩) ?_
           refine ob [8, 7, 5, 6] (fun S hle hfr => .inl ⟨w0, ev_load_in (hle.e rfl) rfl (hle.d rfl)⟩) ?_
           refine ob [4, 9, 3, 8, 2, 7, 0, 1, 5, 6] (fun S hle hfr => .inl ⟨w0, ev_cmp (hle.e rfl) (hle.e rfl) (hle.d rfl) rfl⟩) ?_
           refine ob [10, 4, 9, 3, 8, 2, 7, 0, 1, 5, 6] (fun S hle hfr => .inl ⟨w0, st_move (hle.e rfl) (hle.d rfl)⟩) ?_
           refine ob [11, 10, 4, 9, 3, 8, 2, 7, 0, 1, 5, 6] (fun S hle hfr => .inl ⟨wy hle q16, st_move (hle.e rfl) (hle.d rfl)⟩) ?_
           refine ob [11, 10, 4, 9, 3, 8, 2, 7, 0, 1, 5, 6] (fun S hle hfr => .inl ⟨wy hle q16, st_move (hle.e rfl) (hle.d rfl)⟩) ?_
           refine ob [12, 13, 11, 10, 4, 9, 3, 8, 2, 7, 0, 1, 5, 6] (fun S hle hfr => .inl ⟨wy hle q16, ev_index_in (hle.e rfl) (hle.e rfl) rfl g17 rfl (hle.d rfl)⟩) ?_
           refine ob [14, 11, 12, 13, 10, 4, 9, 3, 8, 2, 7, 0, 1, 5, 6] (fun S hle hfr => .inl ⟨wy hle q16, ev_field_in (hle.e rfl) rfl (hle.d rfl)⟩) ?_
           refine ob [15, 11, 14, 10, 12, 13, 4, 9, 3, 8, 2, 7, 0, 1, 5, 6] (fun S hle hfr => .inl ⟨wy hle q16, ev_load_in (hle.e rfl) rfl (hle.d rfl)⟩) ?_
           refine ob [11, 10, 4, 9, 3, 8, 2, 7, 0, 1, 5, 6] (fun S hle hfr => .inl ⟨wy hle q16, st_move (hle.e rfl) (hle.d rfl)⟩) ?_
           refine ob [11, 10, 4, 9, 3, 8, 2, 7, 0, 1, 5, 6] (fun S hle hfr => .inl ⟨wy hle q16, st_move (hle.e rfl) (hle.d rfl)⟩) ?_
           refine ob [17, 18, 11, 10, 4, 9, 3, 8, 2, 7, 0, 1, 5, 6] (fun S hle hfr => .inl ⟨wy hle q16, ev_index_in (hle.e rfl) (hle.e rfl) rfl g18 rfl (hle.d rfl)⟩) ?_
           refine ob [19, 11, 17, 18, 10, 4, 9, 3, 8, 2, 7, 0, 1, 5, 6] (fun S hle hfr => .inl ⟨wy hle q16, ev_field_in (hle.e rfl) rfl (hle.d rfl)⟩) ?_
           refine ob [20, 11, 19, 10, 17, 18, 4, 9, 3, 8, 2, 7, 0, 1, 5, 6] (fun S hle hfr => .inl ⟨wy hle q16, ev_load_in (hle.e rfl) rfl (hle.d rfl)⟩) ?_
           refine ob [16, 21, 11, 15, 20, 10, 14, 19, 4, 9, 12, 13, 17, 18, 3, 8, 2, 7, 0, 1, 5, 6] (fun S hle hfr => .inl ⟨wy hle q16, st_str_ne (hle.e rfl) (hle.e rfl) (hle.d rfl)⟩) ?_
           refine ob [11, 22, 10, 16, 21, 4, 9, 15, 20, 3, 8, 14, 19, 2, 7, 12, 13, 17, 18, 0, 1, 5, 6] (fun S hle hfr => .inl ⟨w0, st_pick_no (hle.e rfl) (by first | rfl | exact q16) (hle.e rfl) (hle.d rfl)⟩) ?_
           refine ob [23, 11, 22, 10, 16, 21, 4, 9, 15, 20, 3, 8, 14, 19, 2, 7, 12, 13, 17, 18, 0, 1, 5, 6] (fun S hle hfr => .inl ⟨w0, st_move (hle.e rfl) (hle.d rfl)⟩) ?_
           refine ob [24, 23, 11, 22, 10, 16, 21, 4, 9, 15, 20, 3, 8, 14, 19, 2, 7, 12, 13, 17, 18, 0, 1, 5, 6] (fun S hle hfr => nw hle q19) ?_
           refine ob [24, 23, 11, 22, 10, 16, 21, 4, 9, 15, 20, 3, 8, 14, 19, 2, 7, 12, 13, 17, 18, 0, 1, 5, 6] (fun S hle hfr => nw hle q19) ?_
           refine ob [25, 26, 24, 23, 11, 22, 10, 16, 21, 4, 9, 15, 20, 3, 8, 14, 19, 2, 7, 12, 13, 17, 18, 0, 1, 5, 6] (fun S hle hfr => nw hle q19) ?_
           refine ob [27, 24, 25, 26, 23, 11, 22, 10, 16, 21, 4, 9, 15, 20, 3, 8, 14, 19, 2, 7, 12, 13, 17, 18, 0, 1, 5, 6] (fun S hle hfr => nw hle q19) ?_
           refine ob [28, 24, 27, 23, 11, 25, 26, 22, 10, 16, 21, 4, 9, 15, 20, 3, 8, 14, 19, 2, 7, 12, 13, 17, 18, 0, 1, 5, 6] (fun S hle hfr => nw hle q19) ?_
           refine ob [24, 23, 11, 22, 10, 16, 21, 4, 9, 15, 20, 3, 8, 14, 19, 2, 7, 12, 13, 17, 18, 0, 1, 5, 6] (fun S hle hfr => nw hle q19) ?_
           refine ob [24, 23, 11, 22, 10, 16, 21, 4, 9, 15, 20, 3, 8, 14, 19, 2, 7, 12, 13, 17, 18, 0, 1, 5, 6] (fun S hle hfr => nw hle q19) ?_
           refine ob [30, 31, 24, 23, 11, 22, 10, 16, 21, 4, 9, 15, 20, 3, 8, 14, 19, 2, 7, 12, 13, 17, 18, 0, 1, 5, 6] (fun S hle hfr => nw hle q19) ?_
           refine ob [32, 24, 30, 31, 23, 11, 22, 10, 16, 21, 4, 9, 15, 20, 3, 8, 14, 19, 2, 7, 12, 13, 17, 18, 0, 1, 5, 6] (fun S hle hfr => nw hle q19) ?_
           refine ob [33, 24, 32, 23, 11, 30, 31, 22, 10, 16, 21, 4, 9, 15, 20, 3, 8, 14, 19, 2, 7, 12, 13, 17, 18, 0, 1, 5, 6] (fun S hle hfr => nw hle q19) ?_
           exact trivial
          case hk17x => rfl
          case hf17x => rfl
          refine np q19 ?_
          refine s_py q19 ?_
          refine aops_nil (aw_yes rfl (rfl) (aw_seq (aw_region (s_sa ?_))))
          refine aops_nil ?_
          cases Option.some.inj l12
          replace h := Md.onS_r h
          cases Option.some.inj h
          exact aw_ret ⟨rfl, rv r1⟩
        replace l12 := Md.cond_f l12 q19
        obtain ⟨g20, l12⟩ := Md.ifp_s l12
        obtain ⟨g21, l12⟩ := Md.ifp_s l12
        refine aw_seq ?_
        apply aw_draw 35 ((⟨[], .one (CV.ls c_Token x7.1)⟩ : Add) :: ⟨[], vI ((s12_0 : Nat) : Int)⟩ :: ⟨[], .one (.cptr _)⟩ :: ⟨[], .one (.cptr _)⟩ :: ⟨[], vI ((x7.1.getD s12_0 default).Kind)⟩ :: ⟨[], .one (CV.ls c_Token x8.1)⟩ :: ⟨[], vI ((s12_0 : Nat) : Int)⟩ :: ⟨[], .one (.cptr _)⟩ :: ⟨[], .one (.cptr _)⟩ :: ⟨[], vI ((x8.1.getD s12_0 default).Kind)⟩ :: ⟨[], vB (((x7.1.getD s12_0 default).Kind) != ((x8.1.getD s12_0 default).Kind))⟩ :: ⟨[], vB (((x7.1.getD s12_0 default).Kind) != ((x8.1.getD s12_0 default).Kind))⟩ :: ⟨[], .one (CV.ls c_Token x7.1)⟩ :: ⟨[], vI ((s12_0 : Nat) : Int)⟩ :: ⟨[], .one (.cptr _)⟩ :: ⟨[], .one (.cptr _)⟩ :: ⟨[], .one (.val (Sv ((x7.1.getD s12_0 default).Text)))⟩ :: ⟨[], .one (CV.ls c_Token x8.1)⟩ :: ⟨[], vI ((s12_0 : Nat) : Int)⟩ :: ⟨[], .one (.cptr _)⟩ :: ⟨[], .one (.cptr _)⟩ :: ⟨[], .one (.val (Sv ((x8.1.getD s12_0 default).Text)))⟩ :: ⟨[], vB (!(decide (((x7.1.getD s12_0 default).Text) = ((x8.1.getD s12_0 default).Text))))⟩ :: ⟨[], vB (!(decide (((x7.1.getD s12_0 default).Text) = ((x8.1.getD s12_0 default).Text))))⟩ :: ⟨[], vB (!(decide (((x7.1.getD s12_0 default).Text) = ((x8.1.getD s12_0 default).Text))))⟩ :: ⟨[], .one (CV.ls c_Token x7.1)⟩ :: ⟨[], vI ((s12_0 : Nat) : Int)⟩ :: ⟨[], .one (.cptr _)⟩ :: ⟨[], .one (.cptr _)⟩ :: ⟨[], vI ((x7.1.getD s12_0 default).Num)⟩ :: ⟨[], .one (CV.ls c_Token x8.1)⟩ :: ⟨[], vI ((s12_0 : Nat) : Int)⟩ :: ⟨[], .one (.cptr _)⟩ :: ⟨[], .one (.cptr _)⟩ :: ⟨[], vI ((x8.1.getD s12_0 default).Num)⟩ :: []) (by decide) rfl ?hk18x ?hf18x ?ho18x ?hr18x
        case ho18x =>
         refine ob [] (fun S hle hfr => .inl ⟨w0, st_move (hle.e rfl) (hle.d rfl)⟩) (ob [] (fun S hle hfr => .inl ⟨w0, st_move (hle.e rfl) (hle.d rfl)⟩) ?_)
         refine ob [0, 1] (fun S hle hfr => .inl ⟨w0, ev_index_in (hle.e rfl) (hle.e rfl) rfl g14 rfl (hle.d rfl)⟩) ?_
         refine ob [2, 0, 1] (fun S hle hfr => .inl ⟨w0, ev_field_in (hle.e rfl) rfl (hle.d rfl)⟩) ?_
         refine ob [3, 2, 0, 1] (fun S hle hfr => .inl ⟨w0, ev_load_in (hle.e rfl) rfl (hle.d rfl)⟩) ?_
         refine ob [] (fun S hle hfr => .inl ⟨w0, st_move (hle.e rfl) (hle.d rfl)⟩) (ob [] (fun S hle hfr => .inl ⟨w0, st_move (hle.e rfl) (hle.d rfl)⟩) ?_)
         refine ob [5, 6] (fun S hle hfr => .inl ⟨w0, ev_index_in (hle.e rfl) (hle.e rfl) rfl g15 rfl (hle.d rfl)⟩) ?_
         refine ob [7, 5, 6] (fun S hle hfr => .inl ⟨w0, ev_field_in (hle.e rfl) rfl (hle.d rfl)⟩) ?_
         refine ob [8, 7, 5, 6] (fun S hle hfr => .inl ⟨w0, ev_load_in (hle.e rfl) rfl (hle.d rfl)⟩) ?_
         refine ob [4, 9, 3, 8, 2, 7, 0, 1, 5, 6] (fun S hle hfr => .inl ⟨w0, ev_cmp (hle.e rfl) (hle.e rfl) (hle.d rfl) rfl⟩) ?_
         refine ob [10, 4, 9, 3, 8, 2, 7, 0, 1, 5, 6] (fun S hle hfr => .inl ⟨w0, st_move (hle.e rfl) (hle.d rfl)⟩) ?_
         refine ob [11, 10, 4, 9, 3, 8, 2, 7, 0, 1, 5, 6] (fun S hle hfr => .inl ⟨wy hle q16, st_move (hle.e rfl) (hle.d rfl)⟩) ?_
         refine ob [11, 10, 4, 9, 3, 8, 2, 7, 0, 1, 5, 6] (fun S hle hfr => .inl ⟨wy hle q16, st_move (hle.e rfl) (hle.d rfl)⟩) ?_
         refine ob [12, 13, 11, 10, 4, 9, 3, 8, 2, 7, 0, 1, 5, 6] (fun S hle hfr => .inl ⟨wy hle q16, ev_index_in (hle.e rfl) (hle.e rfl) rfl g17 rfl (hle.d rfl)⟩) ?_
         refine ob [14, 11, 12, 13, 10, 4, 9, 3, 8, 2, 7, 0, 1, 5, 6] (fun S hle hfr => .inl ⟨wy hle q16, ev_field_in (hle.e rfl) rfl (hle.d rfl)⟩) ?_
         refine ob [15, 11, 14, 10, 12, 13, 4, 9, 3, 8, 2, 7, 0, 1, 5, 6] (fun S hle hfr => .inl ⟨wy hle q16, ev_load_in (hle.e rfl) rfl (hle.d rfl)⟩) ?_
         refine ob [11, 10, 4, 9, 3, 8, 2, 7, 0, 1, 5, 6] (fun S hle hfr => .inl ⟨wy hle q16, st_move (hle.e rfl) (hle.d rfl)⟩) ?_
         refine ob [11, 10, 4, 9, 3, 8, 2, 7, 0, 1, 5, 6] (fun S hle hfr => .inl ⟨wy hle q16, st_move (hle.e rfl) (hle.d rfl)⟩) ?_
         refine ob [17, 18, 11, 10, 4, 9, 3, 8, 2, 7, 0, 1, 5, 6] (fun S hle hfr => .inl ⟨wy hle q16, ev_index_in (hle.e rfl) (hle.e rfl) rfl g18 rfl (hle.d rfl)⟩) ?_
         refine ob [19, 11, 17, 18, 10, 4, 9, 3, 8, 2, 7, 0, 1, 5, 6] (fun S hle hfr => .inl ⟨wy hle q16, ev_field_in (hle.e rfl) rfl (hle.d rfl)⟩) ?_
         refine ob [20, 11, 19, 10, 17, 18, 4, 9, 3, 8, 2, 7, 0, 1, 5, 6] (fun S hle hfr => .inl ⟨wy hle q16, ev_load_in (hle.e rfl) rfl (hle.d rfl)⟩) ?_
         refine ob [16, 21, 11, 15, 20, 10, 14, 19, 4, 9, 12, 13, 17, 18, 3, 8, 2, 7, 0, 1, 5, 6] (fun S hle hfr => .inl ⟨wy hle q16, st_str_ne (hle.e rfl) (hle.e rfl) (hle.d rfl)⟩) ?_
         refine ob [11, 22, 10, 16, 21, 4, 9, 15, 20, 3, 8, 14, 19, 2, 7, 12, 13, 17, 18, 0, 1, 5, 6] (fun S hle hfr => .inl ⟨w0, st_pick_no (hle.e rfl) (by first | rfl | exact q16) (hle.e rfl) (hle.d rfl)⟩) ?_
         refine ob [23, 11, 22, 10, 16, 21, 4, 9, 15, 20, 3, 8, 14, 19, 2, 7, 12, 13, 17, 18, 0, 1, 5, 6] (fun S hle hfr => .inl ⟨w0, st_move (hle.e rfl) (hle.d rfl)⟩) ?_
         refine ob [24, 23, 11, 22, 10, 16, 21, 4, 9, 15, 20, 3, 8, 14, 19, 2, 7, 12, 13, 17, 18, 0, 1, 5, 6] (fun S hle hfr => .inl ⟨wy hle q19, st_move (hle.e rfl) (hle.d rfl)⟩) ?_
         refine ob [24, 23, 11, 22, 10, 16, 21, 4, 9, 15, 20, 3, 8, 14, 19, 2, 7, 12, 13, 17, 18, 0, 1, 5, 6] (fun S hle hfr => .inl ⟨wy hle q19, st_move (hle.e rfl) (hle.d rfl)⟩) ?_
         refine ob [25, 26, 24, 23, 11, 22, 10, 16, 21, 4, 9, 15, 20, 3, 8, 14, 19, 2, 7, 12, 13, 17, 18, 0, 1, 5, 6] (fun S hle hfr => .inl ⟨wy hle q19, ev_index_in (hle.e rfl) (hle.e rfl) rfl g20 rfl (hle.d rfl)⟩) ?_
         refine ob [27, 24, 25, 26, 23, 11, 22, 10, 16, 21, 4, 9, 15, 20, 3, 8, 14, 19, 2, 7, 12, 13, 17, 18, 0, 1, 5, 6] (fun S hle hfr => .inl ⟨wy hle q19, ev_field_in (hle.e rfl) rfl (hle.d rfl)⟩) ?_
         refine ob [28, 24, 27, 23, 11, 25, 26, 22, 10, 16, 21, 4, 9, 15, 20, 3, 8, 14, 19, 2, 7, 12, 13, 17, 18, 0, 1, 5, 6] (fun S hle hfr => .inl ⟨wy hle q19, ev_load_in (hle.e rfl) rfl (hle.d rfl)⟩) ?_
         refine ob [24, 23, 11, 22, 10, 16, 21, 4, 9, 15, 20, 3, 8, 14, 19, 2, 7, 12, 13, 17, 18, 0, 1, 5, 6] (fun S hle hfr => .inl ⟨wy hle q19, st_move (hle.e rfl) (hle.d rfl)⟩) ?_
         refine ob [24, 23, 11, 22, 10, 16, 21, 4, 9, 15, 20, 3, 8, 14, 19, 2, 7, 12, 13, 17, 18, 0, 1, 5, 6] (fun S hle hfr => .inl ⟨wy hle q19, st_move (hle.e rfl) (hle.d rfl)⟩) ?_
         refine ob [30, 31, 24, 23, 11, 22, 10, 16, 21, 4, 9, 15, 20, 3, 8, 14, 19, 2, 7, 12, 13, 17, 18, 0, 1, 5, 6] (fun S hle hfr => .inl ⟨wy hle q19, ev_index_in (hle.e rfl) (hle.e rfl) rfl g21 rfl (hle.d rfl)⟩) ?_
         refine ob [32, 24, 30, 31, 23, 11, 22, 10, 16, 21, 4, 9, 15, 20, 3, 8, 14, 19, 2, 7, 12, 13, 17, 18, 0, 1, 5, 6] (fun S hle hfr => .inl ⟨wy hle q19, ev_field_in (hle.e rfl) rfl (hle.d rfl)⟩) ?_
         refine ob [33, 24, 32, 23, 11, 30, 31, 22, 10, 16, 21, 4, 9, 15, 20, 3, 8, 14, 19, 2, 7, 12, 13, 17, 18, 0, 1, 5, 6] (fun S hle hfr => .inl ⟨wy hle q19, ev_load_in (hle.e rfl) rfl (hle.d rfl)⟩) ?_
         exact trivial
        case hk18x => rfl
        case hf18x => rfl
        refine y_cm q19 ?_
        refine s_pn q19 ?_
        refine aops_nil ?_
        refine aw_cond rfl (fun c22 => ?_) (fun c22 => ?_)
        · replace l12 := Md.cond_t l12 c22
          refine aw_seq (aw_region (s_sa ?_))
          refine aops_nil ?_
          cases Option.some.inj l12
          replace h := Md.onS_r h
          cases Option.some.inj h
          exact aw_ret ⟨rfl, rv r1⟩
        replace l12 := Md.cond_f l12 c22
        refine aw_skip (aw_region (s_mv ?_))
        obtain ⟨g23, l12⟩ := Md.ifp_s l12
        refine aops_step1 rfl (ev_add rfl rfl rfl (Md.nat_add g23)) (s_sa ?_)
        refine aops_nil ?_
        exact ⟨⟨(n12, (s12_0 + 1)), l12⟩, Nat.lt_succ_self _, wk⟩
      replace l12 := Md.cond_f l12 c13
      refine aw_exit ?_
      show ∃ _x : Unit, _ = _ ∧ Weak _ _
      exact ⟨(), Option.some.inj l12, wk⟩
    intro p6
    obtain ⟨⟨n6, s6_0, s6_1, s6_2⟩, l6⟩ := p6
    change AW _ _ (⟨150, [], [(0, .one (CV.ls c_Str a0)), (1, .one (.val (Sv a1))), (6, .one (.val (Sv s6_0))), (7, .one (.val (Sv s6_1))), (8, vI ((s6_2 : Nat) : Int))], []⟩ : ASt) _
    replace l6 : actorgridlaw17_LexBlanks_loop2 k a0 a1 n6 s6_0 s6_1 s6_2 = some o6 := l6
    rcases n6 with _ | n6
    · exact absurd (show none = some o6 from l6) nofun
    rw [actorgridlaw17_LexBlanks_loop2] at l6
    refine aw_seq (aw_seq (aw_region ?_))
    iterate 2 refine s_mv ?_
    refine s_ln ?_
    refine s_cm ?_
    refine aops_nil ?_
    refine aw_cond rfl (fun c24 => ?_) (fun c24 => ?_)
    · replace l6 := Md.cond_t l6 c24
      refine aw_skip (aw_seq (aw_block (aw_seq (aw_seq (aw_region ?_)))))
      iterate 2 refine s_mv ?_
      obtain ⟨g25, l6⟩ := Md.ifp_s l6
      refine aops_step1 rfl (ev_index_in rfl rfl rfl g25 rfl rfl) (aops_step1 rfl (ev_load_in rfl rfl rfl) ?_)
      obtain ⟨x26, hx26, l6⟩ := Md.bind_s l6
      refine aops_step1 rfl (ev_call_v (lexer_Tokens_fn k (a0.getD s6_2 default) x26 hx26) rfl [] ai rfl rfl rfl (.inl rfl) rfl) (s_mt ?_)
      iterate 3 refine s_ex ?_
      iterate 3 refine s_sa ?_
      refine aops_nil (aw_seq (aw_region (s_mv ?_)))
      refine s_cm ?_
      refine s_mv ?_
      obtain ⟨o27, j27, l6⟩ := Md.bind_s l6
      refine aops_cut 7 (ε := Bool) (fun x27 => (⟨150, [], [(0, .one (CV.ls c_Str a0)), (1, .one (.val (Sv a1))), (6, .one (.val (Sv s6_0))), (7, .one (.val (Sv s6_1))), (8, vI ((s6_2 : Nat) : Int)), (63, vB x27)], []⟩ : ASt)) (fun x27 => x27 = o27) ?_ ?_
      · intro x27 hI27
        subst hI27
        change AOps _ _ _ (⟨150, [], [(0, .one (CV.ls c_Str a0)), (1, .one (.val (Sv a1))), (6, .one (.val (Sv s6_0))), (7, .one (.val (Sv s6_1))), (8, vI ((s6_2 : Nat) : Int)), (63, vB x27)], []⟩ : ASt) _
        refine aops_nil ?_
        refine aw_cond rfl (fun c28 => ?_) (fun c28 => ?_)
        · replace l6 := Md.cond_t l6 c28
          refine aw_seq (aw_region (s_sa ?_))
          refine aops_nil ?_
          cases Option.some.inj l6
          replace h := Md.onS_r h
          cases Option.some.inj h
          exact aw_ret ⟨rfl, rv r1⟩
        replace l6 := Md.cond_f l6 c28
        refine aw_skip (aw_seq (aw_region ?_))
        iterate 3 refine s_mv ?_
        obtain ⟨g29, l6⟩ := Md.ifp_s l6
        refine aops_step1 rfl (ev_index_in rfl rfl rfl g29 rfl rfl) (aops_step1 rfl (ev_load_in rfl rfl rfl) ?_)
        obtain ⟨g30, l6⟩ := Md.ifp_s l6
        refine aops_step1 rfl (st_str_add rfl rfl rfl g30) ?_
        obtain ⟨g31, l6⟩ := Md.ifp_s l6
        refine aops_step1 rfl (st_str_add rfl rfl rfl g31) (s_sa ?_)
        refine aops_nil (aw_region (s_mv ?_))
        obtain ⟨g32, l6⟩ := Md.ifp_s l6
        refine aops_step1 rfl (st_str_add rfl rfl rfl g32) ?_
        iterate 2 refine s_mv ?_
        obtain ⟨g33, l6⟩ := Md.ifp_s l6
        refine aops_step1 rfl (ev_index_in rfl rfl rfl g33 rfl rfl) (aops_step1 rfl (ev_load_in rfl rfl rfl) ?_)
        obtain ⟨g34, l6⟩ := Md.ifp_s l6
        refine aops_step1 rfl (st_str_add rfl rfl rfl g34) ?_
        obtain ⟨g35, l6⟩ := Md.ifp_s l6
        refine aops_step1 rfl (st_str_add rfl rfl rfl g35) (s_mv ?_)
        obtain ⟨g36, l6⟩ := Md.ifp_s l6
        refine aops_step1 rfl (st_str_add rfl rfl rfl g36) ?_
        obtain ⟨g37, l6⟩ := Md.ifp_s l6
        refine aops_step1 rfl (st_str_add rfl rfl rfl g37) (s_sa ?_)
        refine aops_nil (aw_region (s_mv ?_))
        obtain ⟨g38, l6⟩ := Md.ifp_s l6
        refine aops_step1 rfl (ev_add rfl rfl rfl (Md.nat_add g38)) (s_sa ?_)
        refine aops_nil ?_
        exact ⟨⟨(n6, ((s6_0 ++ (a0.getD s6_2 default)) ++ ([10] : List UInt8)), (((((s6_1 ++ ([32, 9] : List UInt8)) ++ (a0.getD s6_2 default)) ++ ([10, 13, 47, 47] : List UInt8)) ++ a1) ++ ([10] : List UInt8)), (s6_2 + 1)), l6⟩, Nat.lt_succ_self _, wk⟩
      rcases Md.bool_or ((x26.2.2 != 0)) with q27 | q27
      · replace j27 := Md.cond_t j27 q27
        iterate 6 refine np q27 ?_
        refine s_py q27 ?_
        refine aops_nil ?_
        show ∃ _x : Bool, _ = _ ∧ Weak _ _
        exact ⟨true, Option.some.inj j27, wk⟩
      replace j27 := Md.cond_f j27 q27
      iterate 2 refine y_mv q27 ?_
      obtain ⟨g39, j27⟩ := Md.ifp_s j27
      refine aops_yes rfl rfl rfl rfl q27 (ev_index_in rfl rfl rfl g39 rfl rfl) (aops_yes rfl rfl rfl rfl q27 (ev_load_in rfl rfl rfl) ?_)
      refine aops_yes rfl rfl rfl rfl q27 (st_len_str rfl rfl) (y_cm q27 ?_)
      refine s_pn q27 ?_
      refine aops_nil ?_
      show ∃ _x : Bool, _ = _ ∧ Weak _ _
      exact ⟨(decide ((((a0.getD s6_2 default).length : Nat) : Int) > 50)), Option.some.inj j27, wk⟩
    replace l6 := Md.cond_f l6 c24
    refine aw_exit ?_
    show ∃ _x : (List UInt8) × (List UInt8), _ = _ ∧ Weak _ _
    exact ⟨(s6_0, s6_1), Option.some.inj l6, wk⟩
  intro p5
  obtain ⟨⟨n5, s5_0⟩, l5⟩ := p5
  change AW _ _ (⟨150, [], [(0, .one (CV.ls c_Str a0)), (1, .one (.val (Sv a1))), (5, vI ((s5_0 : Nat) : Int))], []⟩ : ASt) _
  replace l5 : actorgridlaw17_LexBlanks_loop1 k a1 n5 s5_0 = some o5 := l5
  rcases n5 with _ | n5
  · exact absurd (show none = some o5 from l5) nofun
  rw [actorgridlaw17_LexBlanks_loop1] at l5
  refine aw_seq (aw_seq (aw_region ?_))
  iterate 2 refine s_mv ?_
  refine aops_step1 rfl (st_len_str rfl rfl) (s_cm ?_)
  refine aops_nil ?_
  refine aw_cond rfl (fun c40 => ?_) (fun c40 => ?_)
  · replace l5 := Md.cond_t l5 c40
    refine aw_skip (aw_seq (aw_block (aw_seq (aw_region ?_))))
    iterate 2 refine s_mv ?_
    obtain ⟨g41, l5⟩ := Md.ifp_s l5
    refine aops_step1 rfl (st_index_str rfl rfl rfl g41 rfl) (s_cm ?_)
    refine aops_nil ?_
    refine aw_cond rfl (fun c42 => ?_) (fun c42 => ?_)
    · replace l5 := Md.cond_t l5 c42
      refine aw_seq (aw_region (s_sa ?_))
      refine aops_nil ?_
      cases Option.some.inj l5
      replace h := Md.onS_r h
      cases Option.some.inj h
      exact aw_ret ⟨rfl, rv r1⟩
    replace l5 := Md.cond_f l5 c42
    refine aw_skip (aw_region (s_mv ?_))
    obtain ⟨g43, l5⟩ := Md.ifp_s l5
    refine aops_step1 rfl (ev_add rfl rfl rfl (Md.nat_add g43)) (s_sa ?_)
    refine aops_nil ?_
    exact ⟨⟨(n5, (s5_0 + 1)), l5⟩, Nat.lt_succ_self _, wk⟩
  replace l5 := Md.cond_f l5 c40
  refine aw_exit ?_
  show ∃ _x : Unit, _ = _ ∧ Weak _ _
  exact ⟨(), Option.some.inj l5, wk⟩
set_option maxHeartbeats 2000000 in
theorem actorgridlaw17_LexPlaces_fn (k : Nat) (a0 : List UInt8) (r : Bool) (h : actorgridlaw17_LexPlaces k a0 = some r) : FnC Tryd.prog 13 [.one (.val (Sv a0))] [] (Det (vB r) []) := by
  unfold actorgridlaw17_LexPlaces at h
  refine fn_intro' 130 Tryd.func13 rfl rfl rfl (aw_seq (aw_region (s_sa ?_)))
  refine aops_nil (aw_seq (aw_seq (aw_region ?_)))
  obtain ⟨x1, hx1, h⟩ := Md.bind_s h
  refine aops_step1 rfl (ev_call_v (actorgridlaw17_awake_fn k x1 hx1) rfl [] ai rfl rfl rfl (.inl rfl) rfl) (s_nt ?_)
  refine aops_nil ?_
  refine aw_cond rfl (fun c2 => ?_) (fun c2 => ?_)
  · replace h := Md.cond_t h c2
    refine aw_seq (aw_region (s_sa ?_))
    refine aops_nil ?_
    cases Option.some.inj h
    exact aw_ret ⟨rfl, rv r1⟩
  replace h := Md.cond_f h c2
  refine aw_skip (aw_seq (aw_seq (aw_region (s_mv ?_))))
  refine aops_step1 rfl (st_len_str rfl rfl) (s_cm ?_)
  refine aops_nil ?_
  refine aw_cond rfl (fun c3 => ?_) (fun c3 => ?_)
  · replace h := Md.cond_t h c3
    refine aw_seq (aw_region (s_sa ?_))
    refine aops_nil ?_
    cases Option.some.inj h
    exact aw_ret ⟨rfl, rv r1⟩
  replace h := Md.cond_f h c3
  refine aw_skip (aw_seq (aw_region (s_mv ?_)))
  obtain ⟨x4, hx4, h⟩ := Md.bind_s h
  refine aops_step1 rfl (ev_call_v (lexer_Tokens_fn k a0 x4 hx4) rfl [] ai rfl rfl rfl (.inl rfl) rfl) (s_mt ?_)
  iterate 3 refine s_ex ?_
  iterate 3 refine s_sa ?_
  refine aops_nil (aw_seq (aw_seq (aw_region (s_mv ?_))))
  refine s_cm ?_
  refine aops_nil ?_
  refine aw_cond rfl (fun c5 => ?_) (fun c5 => ?_)
  · replace h := Md.cond_t h c5
    refine aw_seq (aw_region (s_mv ?_))
    refine s_ln ?_
    refine s_cm ?_
    refine s_mv ?_
    refine aops_mid 3 (⟨130, [], [(0, .one (.val (Sv a0))), (2, vB false), (4, vI x4.2.1), (27, vB ((((x4.1.length : Nat) : Int) == 0) && (decide (x4.2.1 ≥ 0))))], []⟩ : ASt) ?_ ?_
    · rcases Md.bool_or ((((x4.1.length : Nat) : Int) == 0)) with q6 | q6
      · skip
        refine y_mv q6 ?_
        refine y_cm q6 ?_
        refine s_py q6 ?_
        refine aops_nil ?_
        exact wq q6
      iterate 2 refine np q6 ?_
      refine s_pn q6 ?_
      refine aops_nil ?_
      exact wq q6
    refine s_mv ?_
    refine aops_mid 5 (⟨130, [], [(2, vB false), (33, vB (((((x4.1.length : Nat) : Int) == 0) && (decide (x4.2.1 ≥ 0))) && (decide (x4.2.1 < ((a0.length : Nat) : Int)))))], []⟩ : ASt) ?_ ?_
    · rcases Md.bool_or (((((x4.1.length : Nat) : Int) == 0) && (decide (x4.2.1 ≥ 0)))) with q7 | q7
      · skip
        iterate 2 refine y_mv q7 ?_
        refine aops_yes rfl rfl rfl rfl q7 (st_len_str rfl rfl) (y_cm q7 ?_)
        refine s_py q7 ?_
        refine aops_nil ?_
        exact wq q7
      iterate 4 refine np q7 ?_
      refine s_pn q7 ?_
      refine aops_nil ?_
      exact wq q7
    refine s_sa ?_
    refine aops_nil ?_
    cases Option.some.inj h
    exact aw_ret ⟨rfl, rv r1⟩
  replace h := Md.cond_f h c5
  refine aw_skip (aw_seq (aw_seq (aw_region (s_sa ?_))))
  refine aops_nil (aw_block ?_)
  obtain ⟨o8, ho8, h⟩ := Md.bind_s h
  refine aw_loop_x (ι := {p : Nat × Nat // actorgridlaw17_LexPlaces_loop1 k a0 x4 p.1 p.2 = some o8}) (fun p => (⟨130, [], [(0, .one (.val (Sv a0))), (3, .one (CV.ls c_Token x4.1)), (6, vI ((p.1.2 : Nat) : Int))], []⟩ : ASt)) (fun p => p.1.1) ⟨(k, 0), ho8⟩ wk 0 (ε := Unit) (fun x => (⟨130, [], [], []⟩ : ASt)) (fun x => Sum.inl x = o8) (fun _ _ w h => aw_weak w h) ?_ ?_
  · intro x8_0 hI8
    subst hI8
    replace h := Md.onS_l h
    change AW _ _ (⟨130, [], [], []⟩ : ASt) _
    refine aw_seq (aw_region (s_sa ?_))
    refine aops_nil ?_
    cases Option.some.inj h
    exact aw_ret ⟨rfl, rv r1⟩
  intro p8
  obtain ⟨⟨n8, s8_0⟩, l8⟩ := p8
  change AW _ _ (⟨130, [], [(0, .one (.val (Sv a0))), (3, .one (CV.ls c_Token x4.1)), (6, vI ((s8_0 : Nat) : Int))], []⟩ : ASt) _
  replace l8 : actorgridlaw17_LexPlaces_loop1 k a0 x4 n8 s8_0 = some o8 := l8
  rcases n8 with _ | n8
  · exact absurd (show none = some o8 from l8) nofun
  rw [actorgridlaw17_LexPlaces_loop1] at l8
  refine aw_seq (aw_seq (aw_region ?_))
  iterate 2 refine s_mv ?_
  refine s_ln ?_
  refine s_cm ?_
  refine aops_nil ?_
  refine aw_cond rfl (fun c9 => ?_) (fun c9 => ?_)
  · replace l8 := Md.cond_t l8 c9
    refine aw_skip ?_
    obtain ⟨o10, j10, l8⟩ := Md.bind_s l8
    refine aw_cut (ε := Unit) (fun x => (⟨130, [], [(0, .one (.val (Sv a0))), (3, .one (CV.ls c_Token x4.1)), (6, vI ((s8_0 : Nat) : Int))], []⟩ : ASt)) (fun x => Sum.inl x = o10) ?_ ?_
    · intro x10_0 hI10
      subst hI10
      replace l8 := Md.onS_l l8
      change AW _ _ (⟨130, [], [(0, .one (.val (Sv a0))), (3, .one (CV.ls c_Token x4.1)), (6, vI ((s8_0 : Nat) : Int))], []⟩ : ASt) _
      refine aw_region (s_mv ?_)
      obtain ⟨g11, l8⟩ := Md.ifp_s l8
      refine aops_step1 rfl (ev_add rfl rfl rfl (Md.nat_add g11)) (s_sa ?_)
      refine aops_nil ?_
      exact ⟨⟨(n8, (s8_0 + 1)), l8⟩, Nat.lt_succ_self _, wk⟩
    refine aw_block (aw_seq ?_)
    obtain ⟨g12, j10⟩ := Md.ifp_s j10
    rcases Md.bool_or ((decide (((x4.1.getD s8_0 default).At) < 0))) with q13 | q13
    · replace j10 := Md.cond_t j10 q13
      refine aw_seq ?_
      apply aw_draw 31 ((⟨[], .one (CV.ls c_Token x4.1)⟩ : Add) :: ⟨[], vI ((s8_0 : Nat) : Int)⟩ :: ⟨[], .one (.cptr _)⟩ :: ⟨[], .one (.cptr _)⟩ :: ⟨[], vI ((x4.1.getD s8_0 default).At)⟩ :: ⟨[], vB (decide (((x4.1.getD s8_0 default).At) < 0))⟩ :: ⟨[], vB (decide (((x4.1.getD s8_0 default).At) < 0))⟩ :: ⟨[], .tup []⟩ :: ⟨[], .tup []⟩ :: ⟨[], .tup []⟩ :: ⟨[], .tup []⟩ :: ⟨[], .tup []⟩ :: ⟨[], .tup []⟩ :: ⟨[], .tup []⟩ :: ⟨[], .tup []⟩ :: ⟨[], vB true⟩ :: ⟨[], vB true⟩ :: ⟨[], .tup []⟩ :: ⟨[], .tup []⟩ :: ⟨[], .tup []⟩ :: ⟨[], .tup []⟩ :: ⟨[], .tup []⟩ :: ⟨[], .tup []⟩ :: ⟨[], .tup []⟩ :: ⟨[], .tup []⟩ :: ⟨[], .tup []⟩ :: ⟨[], .tup []⟩ :: ⟨[], .tup []⟩ :: ⟨[], .tup []⟩ :: ⟨[], .tup []⟩ :: ⟨[], .tup []⟩ :: []) (by decide) rfl ?hk43x ?hf43x ?ho43x ?hr43x
      case ho43x =>
       refine ob [] (fun S hle hfr => .inl ⟨w0, st_move (hle.e rfl) (hle.d rfl)⟩) (ob [] (fun S hle hfr => .inl ⟨w0, st_move (hle.e rfl) (hle.d rfl)⟩) ?_)
       refine ob [0, 1] (fun S hle hfr => .inl ⟨w0, ev_index_in (hle.e rfl) (hle.e rfl) rfl g12 rfl (hle.d rfl)⟩) ?_
       refine ob [2, 0, 1] (fun S hle hfr => .inl ⟨w0, ev_field_in (hle.e rfl) rfl (hle.d rfl)⟩) ?_
       refine ob [3, 2, 0, 1] (fun S hle hfr => .inl ⟨w0, ev_load_in (hle.e rfl) rfl (hle.d rfl)⟩) ?_
       refine ob [4, 3, 2, 0, 1] (fun S hle hfr => .inl ⟨w0, ev_cmp (hle.e rfl) (hle.e rfl) (hle.d rfl) rfl⟩) ?_
       refine ob [5, 4, 3, 2, 0, 1] (fun S hle hfr => .inl ⟨w0, st_move (hle.e rfl) (hle.d rfl)⟩) (ob [6, 5, 4, 3, 2, 0, 1] (fun S hle hfr => nw hle q13) ?_)
       refine ob [6, 5, 4, 3, 2, 0, 1] (fun S hle hfr => nw hle q13) (ob [7, 8, 6, 5, 4, 3, 2, 0, 1] (fun S hle hfr => nw hle q13) ?_)
       refine ob [9, 6, 7, 8, 5, 4, 3, 2, 0, 1] (fun S hle hfr => nw hle q13) (ob [10, 6, 9, 5, 7, 8, 4, 3, 2, 0, 1] (fun S hle hfr => nw hle q13) ?_)
       refine ob [6, 5, 4, 3, 2, 0, 1] (fun S hle hfr => nw hle q13) (ob [12, 6, 5, 4, 3, 2, 0, 1] (fun S hle hfr => nw hle q13) ?_)
       refine ob [11, 13, 6, 10, 12, 5, 9, 4, 7, 8, 3, 2, 0, 1] (fun S hle hfr => nw hle q13) ?_
       refine ob [6, 14, 5, 11, 13, 4, 10, 12, 3, 9, 2, 7, 8, 0, 1] (fun S hle hfr => .inl ⟨w0, st_pick_yes (hle.e rfl) (by first | rfl | exact q13) (hle.e rfl) (hle.d rfl)⟩) ?_
       refine ob [15, 6, 14, 5, 11, 13, 4, 10, 12, 3, 9, 2, 7, 8, 0, 1] (fun S hle hfr => .inl ⟨w0, st_move (hle.e rfl) (hle.d rfl)⟩) ?_
       refine ob [16, 15, 6, 14, 5, 11, 13, 4, 10, 12, 3, 9, 2, 7, 8, 0, 1] (fun S hle hfr => .inr ⟨.inr (.inl ⟨_, _, _, _, rfl, rfl, (hle.ev (x := .tmp _) rfl (by nofun)), (by rw [hle.nt]; rfl), (by first | rfl | (rw [rfl]; rfl))⟩), rfl, hle.d rfl⟩) ?_
       refine ob [17, 16, 15, 6, 14, 5, 11, 13, 4, 10, 12, 3, 9, 2, 7, 8, 0, 1] (fun S hle hfr => .inr ⟨.inr (.inl ⟨_, _, _, _, rfl, rfl, (hle.ev (x := .tmp _) rfl (by nofun)), (by rw [hle.nt]; rfl), (by first | rfl | (rw [rfl]; rfl))⟩), rfl, hle.d rfl⟩) ?_
       refine ob [18, 16, 17, 15, 6, 14, 5, 11, 13, 4, 10, 12, 3, 9, 2, 7, 8, 0, 1] (fun S hle hfr => .inr ⟨.inr (.inl ⟨_, _, _, _, rfl, rfl, (hle.ev (x := .tmp _) rfl (by nofun)), (by rw [hle.nt]; rfl), (by first | rfl | (rw [rfl]; rfl))⟩), rfl, hle.d rfl⟩) ?_
       refine ob [19, 18, 16, 17, 15, 6, 14, 5, 11, 13, 4, 10, 12, 3, 9, 2, 7, 8, 0, 1] (fun S hle hfr => .inr ⟨.inr (.inr ⟨_, _, _, rfl, rfl, (hle.ev (x := .tmp _) rfl (by nofun)), (by rw [hle.nt]; rfl), rfl⟩), rfl, hle.d rfl⟩) ?_
       refine ob [19, 18, 16, 17, 15, 6, 14, 5, 11, 13, 4, 10, 12, 3, 9, 2, 7, 8, 0, 1] (fun S hle hfr => .inr ⟨.inr (.inr ⟨_, _, _, rfl, rfl, (hle.ev (x := .tmp _) rfl (by nofun)), (by rw [hle.nt]; rfl), rfl⟩), rfl, hle.d rfl⟩) ?_
       refine ob [20, 21, 19, 18, 16, 17, 15, 6, 14, 5, 11, 13, 4, 10, 12, 3, 9, 2, 7, 8, 0, 1] (fun S hle hfr => .inr ⟨.inr (.inr ⟨_, _, _, rfl, rfl, (hle.ev (x := .tmp _) rfl (by nofun)), (by rw [hle.nt]; rfl), rfl⟩), rfl, hle.d rfl⟩) ?_
       refine ob [22, 19, 20, 21, 18, 16, 17, 15, 6, 14, 5, 11, 13, 4, 10, 12, 3, 9, 2, 7, 8, 0, 1] (fun S hle hfr => .inr ⟨.inr (.inr ⟨_, _, _, rfl, rfl, (hle.ev (x := .tmp _) rfl (by nofun)), (by rw [hle.nt]; rfl), rfl⟩), rfl, hle.d rfl⟩) ?_
       refine ob [23, 19, 22, 18, 16, 20, 21, 17, 15, 6, 14, 5, 11, 13, 4, 10, 12, 3, 9, 2, 7, 8, 0, 1] (fun S hle hfr => .inr ⟨.inr (.inr ⟨_, _, _, rfl, rfl, (hle.ev (x := .tmp _) rfl (by nofun)), (by rw [hle.nt]; rfl), rfl⟩), rfl, hle.d rfl⟩) ?_
       refine ob [19, 18, 16, 17, 15, 6, 14, 5, 11, 13, 4, 10, 12, 3, 9, 2, 7, 8, 0, 1] (fun S hle hfr => .inr ⟨.inr (.inr ⟨_, _, _, rfl, rfl, (hle.ev (x := .tmp _) rfl (by nofun)), (by rw [hle.nt]; rfl), rfl⟩), rfl, hle.d rfl⟩) ?_
       refine ob [19, 18, 16, 17, 15, 6, 14, 5, 11, 13, 4, 10, 12, 3, 9, 2, 7, 8, 0, 1] (fun S hle hfr => .inr ⟨.inr (.inr ⟨_, _, _, rfl, rfl, (hle.ev (x := .tmp _) rfl (by nofun)), (by rw [hle.nt]; rfl), rfl⟩), rfl, hle.d rfl⟩) ?_
       refine ob [26, 19, 18, 16, 17, 15, 6, 14, 5, 11, 13, 4, 10, 12, 3, 9, 2, 7, 8, 0, 1] (fun S hle hfr => .inr ⟨.inr (.inr ⟨_, _, _, rfl, rfl, (hle.ev (x := .tmp _) rfl (by nofun)), (by rw [hle.nt]; rfl), rfl⟩), rfl, hle.d rfl⟩) ?_
       refine ob [25, 27, 19, 26, 18, 16, 17, 15, 6, 14, 5, 11, 13, 4, 10, 12, 3, 9, 2, 7, 8, 0, 1] (fun S hle hfr => .inr ⟨.inr (.inr ⟨_, _, _, rfl, rfl, (hle.ev (x := .tmp _) rfl (by nofun)), (by rw [hle.nt]; rfl), rfl⟩), rfl, hle.d rfl⟩) ?_
       refine ob [28, 19, 25, 27, 18, 16, 26, 17, 15, 6, 14, 5, 11, 13, 4, 10, 12, 3, 9, 2, 7, 8, 0, 1] (fun S hle hfr => .inr ⟨.inr (.inr ⟨_, _, _, rfl, rfl, (hle.ev (x := .tmp _) rfl (by nofun)), (by rw [hle.nt]; rfl), rfl⟩), rfl, hle.d rfl⟩) ?_
       refine ob [29, 19, 28, 18, 16, 25, 27, 17, 15, 6, 26, 14, 5, 11, 13, 4, 10, 12, 3, 9, 2, 7, 8, 0, 1] (fun S hle hfr => .inr ⟨.inr (.inr ⟨_, _, _, rfl, rfl, (hle.ev (x := .tmp _) rfl (by nofun)), (by rw [hle.nt]; rfl), rfl⟩), rfl, hle.d rfl⟩) ?_
       exact trivial
      case hk43x => rfl
      case hf43x => rfl
      refine aops_und rfl rfl rfl rfl rfl (aops_no rfl rfl rfl rfl rfl (by decide) (aops_step1 rfl (st_pick_yes rfl (by first | rfl | exact rfl) rfl rfl) (aops_nil ?_)))
      refine aw_yes rfl (rfl) (aw_seq (aw_region (s_sa ?_)))
      refine aops_nil ?_
      cases Option.some.inj j10
      replace l8 := Md.onS_r l8
      cases Option.some.inj l8
      replace h := Md.onS_r h
      cases Option.some.inj h
      exact aw_ret ⟨rfl, rv r1⟩
    replace j10 := Md.cond_f j10 q13
    obtain ⟨g14, j10⟩ := Md.ifp_s j10
    rcases Md.bool_or ((decide (((x4.1.getD s8_0 default).At) ≥ ((a0.length : Nat) : Int)))) with q15 | q15
    · replace j10 := Md.cond_t j10 q15
      refine aw_seq ?_
      apply aw_draw 31 ((⟨[], .one (CV.ls c_Token x4.1)⟩ : Add) :: ⟨[], vI ((s8_0 : Nat) : Int)⟩ :: ⟨[], .one (.cptr _)⟩ :: ⟨[], .one (.cptr _)⟩ :: ⟨[], vI ((x4.1.getD s8_0 default).At)⟩ :: ⟨[], vB (decide (((x4.1.getD s8_0 default).At) < 0))⟩ :: ⟨[], vB (decide (((x4.1.getD s8_0 default).At) < 0))⟩ :: ⟨[], .one (CV.ls c_Token x4.1)⟩ :: ⟨[], vI ((s8_0 : Nat) : Int)⟩ :: ⟨[], .one (.cptr _)⟩ :: ⟨[], .one (.cptr _)⟩ :: ⟨[], vI ((x4.1.getD s8_0 default).At)⟩ :: ⟨[], .one (.val (Sv a0))⟩ :: ⟨[], vI ((a0.length : Nat) : Int)⟩ :: ⟨[], vB (decide (((x4.1.getD s8_0 default).At) ≥ ((a0.length : Nat) : Int)))⟩ :: ⟨[], vB (decide (((x4.1.getD s8_0 default).At) ≥ ((a0.length : Nat) : Int)))⟩ :: ⟨[], vB (decide (((x4.1.getD s8_0 default).At) ≥ ((a0.length : Nat) : Int)))⟩ :: ⟨[], .tup []⟩ :: ⟨[], .tup []⟩ :: ⟨[], .tup []⟩ :: ⟨[], .tup []⟩ :: ⟨[], .tup []⟩ :: ⟨[], .tup []⟩ :: ⟨[], .tup []⟩ :: ⟨[], .tup []⟩ :: ⟨[], .tup []⟩ :: ⟨[], .tup []⟩ :: ⟨[], .tup []⟩ :: ⟨[], .tup []⟩ :: ⟨[], .tup []⟩ :: ⟨[], .tup []⟩ :: []) (by decide) rfl ?hk44x ?hf44x ?ho44x ?hr44x
      case ho44x =>
       refine ob [] (fun S hle hfr => .inl ⟨w0, st_move (hle.e rfl) (hle.d rfl)⟩) (ob [] (fun S hle hfr => .inl ⟨w0, st_move (hle.e rfl) (hle.d rfl)⟩) ?_)
       refine ob [0, 1] (fun S hle hfr => .inl ⟨w0, ev_index_in (hle.e rfl) (hle.e rfl) rfl g12 rfl (hle.d rfl)⟩) ?_
       refine ob [2, 0, 1] (fun S hle hfr => .inl ⟨w0, ev_field_in (hle.e rfl) rfl (hle.d rfl)⟩) ?_
       refine ob [3, 2, 0, 1] (fun S hle hfr => .inl ⟨w0, ev_load_in (hle.e rfl) rfl (hle.d rfl)⟩) ?_
       refine ob [4, 3, 2, 0, 1] (fun S hle hfr => .inl ⟨w0, ev_cmp (hle.e rfl) (hle.e rfl) (hle.d rfl) rfl⟩) ?_
       refine ob [5, 4, 3, 2, 0, 1] (fun S hle hfr => .inl ⟨w0, st_move (hle.e rfl) (hle.d rfl)⟩) ?_
       refine ob [6, 5, 4, 3, 2, 0, 1] (fun S hle hfr => .inl ⟨wy hle q13, st_move (hle.e rfl) (hle.d rfl)⟩) ?_
       refine ob [6, 5, 4, 3, 2, 0, 1] (fun S hle hfr => .inl ⟨wy hle q13, st_move (hle.e rfl) (hle.d rfl)⟩) ?_
       refine ob [7, 8, 6, 5, 4, 3, 2, 0, 1] (fun S hle hfr => .inl ⟨wy hle q13, ev_index_in (hle.e rfl) (hle.e rfl) rfl g14 rfl (hle.d rfl)⟩) ?_
       refine ob [9, 6, 7, 8, 5, 4, 3, 2, 0, 1] (fun S hle hfr => .inl ⟨wy hle q13, ev_field_in (hle.e rfl) rfl (hle.d rfl)⟩) ?_
       refine ob [10, 6, 9, 5, 7, 8, 4, 3, 2, 0, 1] (fun S hle hfr => .inl ⟨wy hle q13, ev_load_in (hle.e rfl) rfl (hle.d rfl)⟩) ?_
       refine ob [6, 5, 4, 3, 2, 0, 1] (fun S hle hfr => .inl ⟨wy hle q13, st_move (hle.e rfl) (hle.d rfl)⟩) ?_
       refine ob [12, 6, 5, 4, 3, 2, 0, 1] (fun S hle hfr => .inl ⟨wy hle q13, st_len_str (hle.e rfl) (hle.d rfl)⟩) ?_
       refine ob [11, 13, 6, 10, 12, 5, 9, 4, 7, 8, 3, 2, 0, 1] (fun S hle hfr => .inl ⟨wy hle q13, ev_cmp (hle.e rfl) (hle.e rfl) (hle.d rfl) rfl⟩) ?_
       refine ob [6, 14, 5, 11, 13, 4, 10, 12, 3, 9, 2, 7, 8, 0, 1] (fun S hle hfr => .inl ⟨w0, st_pick_no (hle.e rfl) (by first | rfl | exact q13) (hle.e rfl) (hle.d rfl)⟩) ?_
       refine ob [15, 6, 14, 5, 11, 13, 4, 10, 12, 3, 9, 2, 7, 8, 0, 1] (fun S hle hfr => .inl ⟨w0, st_move (hle.e rfl) (hle.d rfl)⟩) ?_
       refine ob [16, 15, 6, 14, 5, 11, 13, 4, 10, 12, 3, 9, 2, 7, 8, 0, 1] (fun S hle hfr => nw hle q15) ?_
       refine ob [17, 16, 15, 6, 14, 5, 11, 13, 4, 10, 12, 3, 9, 2, 7, 8, 0, 1] (fun S hle hfr => nw hle q15) ?_
       refine ob [18, 16, 17, 15, 6, 14, 5, 11, 13, 4, 10, 12, 3, 9, 2, 7, 8, 0, 1] (fun S hle hfr => nw hle q15) ?_
       refine ob [19, 18, 16, 17, 15, 6, 14, 5, 11, 13, 4, 10, 12, 3, 9, 2, 7, 8, 0, 1] (fun S hle hfr => .inr ⟨.inr (.inr ⟨_, _, _, rfl, rfl, (hle.ev (x := .tmp _) rfl (by nofun)), (by rw [hle.nt]; rfl), rfl⟩), rfl, hle.d rfl⟩) ?_
       refine ob [19, 18, 16, 17, 15, 6, 14, 5, 11, 13, 4, 10, 12, 3, 9, 2, 7, 8, 0, 1] (fun S hle hfr => .inr ⟨.inr (.inr ⟨_, _, _, rfl, rfl, (hle.ev (x := .tmp _) rfl (by nofun)), (by rw [hle.nt]; rfl), rfl⟩), rfl, hle.d rfl⟩) ?_
       refine ob [20, 21, 19, 18, 16, 17, 15, 6, 14, 5, 11, 13, 4, 10, 12, 3, 9, 2, 7, 8, 0, 1] (fun S hle hfr => .inr ⟨.inr (.inr ⟨_, _, _, rfl, rfl, (hle.ev (x := .tmp _) rfl (by nofun)), (by rw [hle.nt]; rfl), rfl⟩), rfl, hle.d rfl⟩) ?_
       refine ob [22, 19, 20, 21, 18, 16, 17, 15, 6, 14, 5, 11, 13, 4, 10, 12, 3, 9, 2, 7, 8, 0, 1] (fun S hle hfr => .inr ⟨.inr (.inr ⟨_, _, _, rfl, rfl, (hle.ev (x := .tmp _) rfl (by nofun)), (by rw [hle.nt]; rfl), rfl⟩), rfl, hle.d rfl⟩) ?_
       refine ob [23, 19, 22, 18, 16, 20, 21, 17, 15, 6, 14, 5, 11, 13, 4, 10, 12, 3, 9, 2, 7, 8, 0, 1] (fun S hle hfr => .inr ⟨.inr (.inr ⟨_, _, _, rfl, rfl, (hle.ev (x := .tmp _) rfl (by nofun)), (by rw [hle.nt]; rfl), rfl⟩), rfl, hle.d rfl⟩) ?_
       refine ob [19, 18, 16, 17, 15, 6, 14, 5, 11, 13, 4, 10, 12, 3, 9, 2, 7, 8, 0, 1] (fun S hle hfr => .inr ⟨.inr (.inr ⟨_, _, _, rfl, rfl, (hle.ev (x := .tmp _) rfl (by nofun)), (by rw [hle.nt]; rfl), rfl⟩), rfl, hle.d rfl⟩) ?_
       refine ob [19, 18, 16, 17, 15, 6, 14, 5, 11, 13, 4, 10, 12, 3, 9, 2, 7, 8, 0, 1] (fun S hle hfr => .inr ⟨.inr (.inr ⟨_, _, _, rfl, rfl, (hle.ev (x := .tmp _) rfl (by nofun)), (by rw [hle.nt]; rfl), rfl⟩), rfl, hle.d rfl⟩) ?_
       refine ob [26, 19, 18, 16, 17, 15, 6, 14, 5, 11, 13, 4, 10, 12, 3, 9, 2, 7, 8, 0, 1] (fun S hle hfr => .inr ⟨.inr (.inr ⟨_, _, _, rfl, rfl, (hle.ev (x := .tmp _) rfl (by nofun)), (by rw [hle.nt]; rfl), rfl⟩), rfl, hle.d rfl⟩) ?_
       refine ob [25, 27, 19, 26, 18, 16, 17, 15, 6, 14, 5, 11, 13, 4, 10, 12, 3, 9, 2, 7, 8, 0, 1] (fun S hle hfr => .inr ⟨.inr (.inr ⟨_, _, _, rfl, rfl, (hle.ev (x := .tmp _) rfl (by nofun)), (by rw [hle.nt]; rfl), rfl⟩), rfl, hle.d rfl⟩) ?_
       refine ob [28, 19, 25, 27, 18, 16, 26, 17, 15, 6, 14, 5, 11, 13, 4, 10, 12, 3, 9, 2, 7, 8, 0, 1] (fun S hle hfr => .inr ⟨.inr (.inr ⟨_, _, _, rfl, rfl, (hle.ev (x := .tmp _) rfl (by nofun)), (by rw [hle.nt]; rfl), rfl⟩), rfl, hle.d rfl⟩) ?_
       refine ob [29, 19, 28, 18, 16, 25, 27, 17, 15, 6, 26, 14, 5, 11, 13, 4, 10, 12, 3, 9, 2, 7, 8, 0, 1] (fun S hle hfr => .inr ⟨.inr (.inr ⟨_, _, _, rfl, rfl, (hle.ev (x := .tmp _) rfl (by nofun)), (by rw [hle.nt]; rfl), rfl⟩), rfl, hle.d rfl⟩) ?_
       exact trivial
      case hk44x => rfl
      case hf44x => rfl
      refine aops_und rfl rfl rfl rfl rfl (np q15 ?_)
      refine s_py q15 ?_
      refine aops_nil (aw_yes rfl (rfl) (aw_seq (aw_region (s_sa ?_))))
      refine aops_nil ?_
      cases Option.some.inj j10
      replace l8 := Md.onS_r l8
      cases Option.some.inj l8
      replace h := Md.onS_r h
      cases Option.some.inj h
      exact aw_ret ⟨rfl, rv r1⟩
    replace j10 := Md.cond_f j10 q15
    rcases Md.bool_or ((decide (((s8_0 : Nat) : Int) > 0))) with q16 | q16
    · replace j10 := Md.cond_t j10 q16
      obtain ⟨g17, j10⟩ := Md.ifp_s j10
      obtain ⟨g18, j10⟩ := Md.ifp_s j10
      refine aw_seq ?_
      apply aw_draw 31 ((⟨[], .one (CV.ls c_Token x4.1)⟩ : Add) :: ⟨[], vI ((s8_0 : Nat) : Int)⟩ :: ⟨[], .one (.cptr _)⟩ :: ⟨[], .one (.cptr _)⟩ :: ⟨[], vI ((x4.1.getD s8_0 default).At)⟩ :: ⟨[], vB (decide (((x4.1.getD s8_0 default).At) < 0))⟩ :: ⟨[], vB (decide (((x4.1.getD s8_0 default).At) < 0))⟩ :: ⟨[], .one (CV.ls c_Token x4.1)⟩ :: ⟨[], vI ((s8_0 : Nat) : Int)⟩ :: ⟨[], .one (.cptr _)⟩ :: ⟨[], .one (.cptr _)⟩ :: ⟨[], vI ((x4.1.getD s8_0 default).At)⟩ :: ⟨[], .one (.val (Sv a0))⟩ :: ⟨[], vI ((a0.length : Nat) : Int)⟩ :: ⟨[], vB (decide (((x4.1.getD s8_0 default).At) ≥ ((a0.length : Nat) : Int)))⟩ :: ⟨[], vB (decide (((x4.1.getD s8_0 default).At) ≥ ((a0.length : Nat) : Int)))⟩ :: ⟨[], vB (decide (((x4.1.getD s8_0 default).At) ≥ ((a0.length : Nat) : Int)))⟩ :: ⟨[], vI ((s8_0 : Nat) : Int)⟩ :: ⟨[], vB (decide (((s8_0 : Nat) : Int) > 0))⟩ :: ⟨[], vB (decide (((s8_0 : Nat) : Int) > 0))⟩ :: ⟨[], .one (CV.ls c_Token x4.1)⟩ :: ⟨[], vI ((s8_0 : Nat) : Int)⟩ :: ⟨[], .one (.cptr _)⟩ :: ⟨[], .one (.cptr _)⟩ :: ⟨[], vI ((x4.1.getD s8_0 default).At)⟩ :: ⟨[], .one (CV.ls c_Token x4.1)⟩ :: ⟨[], vI ((s8_0 : Nat) : Int)⟩ :: ⟨[], vI (Md.W (((s8_0 : Nat) : Int) - 1))⟩ :: ⟨[], .one (.cptr _)⟩ :: ⟨[], .one (.cptr _)⟩ :: ⟨[], vI ((x4.1.getD (((Md.W (((s8_0 : Nat) : Int) - 1))).toNat) default).At)⟩ :: []) (by decide) rfl ?hk45x ?hf45x ?ho45x ?hr45x
      case ho45x =>
       refine ob [] (fun S hle hfr => .inl ⟨w0, st_move (hle.e rfl) (hle.d rfl)⟩) (ob [] (fun S hle hfr => .inl ⟨w0, st_move (hle.e rfl) (hle.d rfl)⟩) ?_)
       refine ob [0, 1] (fun S hle hfr => .inl ⟨w0, ev_index_in (hle.e rfl) (hle.e rfl) rfl g12 rfl (hle.d rfl)⟩) ?_
       refine ob [2, 0, 1] (fun S hle hfr => .inl ⟨w0, ev_field_in (hle.e rfl) rfl (hle.d rfl)⟩) ?_
       refine ob [3, 2, 0, 1] (fun S hle hfr => .inl ⟨w0, ev_load_in (hle.e rfl) rfl (hle.d rfl)⟩) ?_
       refine ob [4, 3, 2, 0, 1] (fun S hle hfr => .inl ⟨w0, ev_cmp (hle.e rfl) (hle.e rfl) (hle.d rfl) rfl⟩) ?_
       refine ob [5, 4, 3, 2, 0, 1] (fun S hle hfr => .inl ⟨w0, st_move (hle.e rfl) (hle.d rfl)⟩) ?_
       refine ob [6, 5, 4, 3, 2, 0, 1] (fun S hle hfr => .inl ⟨wy hle q13, st_move (hle.e rfl) (hle.d rfl)⟩) ?_
       refine ob [6, 5, 4, 3, 2, 0, 1] (fun S hle hfr => .inl ⟨wy hle q13, st_move (hle.e rfl) (hle.d rfl)⟩) ?_
       refine ob [7, 8, 6, 5, 4, 3, 2, 0, 1] (fun S hle hfr => .inl ⟨wy hle q13, ev_index_in (hle.e rfl) (hle.e rfl) rfl g14 rfl (hle.d rfl)⟩) ?_
       refine ob [9, 6, 7, 8, 5, 4, 3, 2, 0, 1] (fun S hle hfr => .inl ⟨wy hle q13, ev_field_in (hle.e rfl) rfl (hle.d rfl)⟩) ?_
       refine ob [10, 6, 9, 5, 7, 8, 4, 3, 2, 0, 1] (fun S hle hfr => .inl ⟨wy hle q13, ev_load_in (hle.e rfl) rfl (hle.d rfl)⟩) ?_
       refine ob [6, 5, 4, 3, 2, 0, 1] (fun S hle hfr => .inl ⟨wy hle q13, st_move (hle.e rfl) (hle.d rfl)⟩) ?_
       refine ob [12, 6, 5, 4, 3, 2, 0, 1] (fun S hle hfr => .inl ⟨wy hle q13, st_len_str (hle.e rfl) (hle.d rfl)⟩) ?_
       refine ob [11, 13, 6, 10, 12, 5, 9, 4, 7, 8, 3, 2, 0, 1] (fun S hle hfr => .inl ⟨wy hle q13, ev_cmp (hle.e rfl) (hle.e rfl) (hle.d rfl) rfl⟩) ?_
       refine ob [6, 14, 5, 11, 13, 4, 10, 12, 3, 9, 2, 7, 8, 0, 1] (fun S hle hfr => .inl ⟨w0, st_pick_no (hle.e rfl) (by first | rfl | exact q13) (hle.e rfl) (hle.d rfl)⟩) ?_
       refine ob [15, 6, 14, 5, 11, 13, 4, 10, 12, 3, 9, 2, 7, 8, 0, 1] (fun S hle hfr => .inl ⟨w0, st_move (hle.e rfl) (hle.d rfl)⟩) ?_
       refine ob [16, 15, 6, 14, 5, 11, 13, 4, 10, 12, 3, 9, 2, 7, 8, 0, 1] (fun S hle hfr => .inl ⟨wy hle q15, st_move (hle.e rfl) (hle.d rfl)⟩) ?_
       refine ob [17, 16, 15, 6, 14, 5, 11, 13, 4, 10, 12, 3, 9, 2, 7, 8, 0, 1] (fun S hle hfr => .inl ⟨wy hle q15, ev_cmp (hle.e rfl) (hle.e rfl) (hle.d rfl) rfl⟩) ?_
       refine ob [18, 16, 17, 15, 6, 14, 5, 11, 13, 4, 10, 12, 3, 9, 2, 7, 8, 0, 1] (fun S hle hfr => .inl ⟨wy hle q15, st_move (hle.e rfl) (hle.d rfl)⟩) ?_
       refine ob [19, 18, 16, 17, 15, 6, 14, 5, 11, 13, 4, 10, 12, 3, 9, 2, 7, 8, 0, 1] (fun S hle hfr => .inl ⟨wy hle q16, st_move (hle.e rfl) (hle.d rfl)⟩) ?_
       refine ob [19, 18, 16, 17, 15, 6, 14, 5, 11, 13, 4, 10, 12, 3, 9, 2, 7, 8, 0, 1] (fun S hle hfr => .inl ⟨wy hle q16, st_move (hle.e rfl) (hle.d rfl)⟩) ?_
       refine ob [20, 21, 19, 18, 16, 17, 15, 6, 14, 5, 11, 13, 4, 10, 12, 3, 9, 2, 7, 8, 0, 1] (fun S hle hfr => .inl ⟨wy hle q16, ev_index_in (hle.e rfl) (hle.e rfl) rfl g17 rfl (hle.d rfl)⟩) ?_
       refine ob [22, 19, 20, 21, 18, 16, 17, 15, 6, 14, 5, 11, 13, 4, 10, 12, 3, 9, 2, 7, 8, 0, 1] (fun S hle hfr => .inl ⟨wy hle q16, ev_field_in (hle.e rfl) rfl (hle.d rfl)⟩) ?_
       refine ob [23, 19, 22, 18, 16, 20, 21, 17, 15, 6, 14, 5, 11, 13, 4, 10, 12, 3, 9, 2, 7, 8, 0, 1] (fun S hle hfr => .inl ⟨wy hle q16, ev_load_in (hle.e rfl) rfl (hle.d rfl)⟩) ?_
       refine ob [19, 18, 16, 17, 15, 6, 14, 5, 11, 13, 4, 10, 12, 3, 9, 2, 7, 8, 0, 1] (fun S hle hfr => .inl ⟨wy hle q16, st_move (hle.e rfl) (hle.d rfl)⟩) ?_
       refine ob [19, 18, 16, 17, 15, 6, 14, 5, 11, 13, 4, 10, 12, 3, 9, 2, 7, 8, 0, 1] (fun S hle hfr => .inl ⟨wy hle q16, st_move (hle.e rfl) (hle.d rfl)⟩) ?_
       refine ob [26, 19, 18, 16, 17, 15, 6, 14, 5, 11, 13, 4, 10, 12, 3, 9, 2, 7, 8, 0, 1] (fun S hle hfr => .inl ⟨wy hle q16, ev_sub (hle.e rfl) (hle.e rfl) (hle.d rfl) (Md.wrap_W _)⟩) ?_
       refine ob [25, 27, 19, 26, 18, 16, 17, 15, 6, 14, 5, 11, 13, 4, 10, 12, 3, 9, 2, 7, 8, 0, 1] (fun S hle hfr => .inl ⟨wy hle q16, ev_index_in (hle.e rfl) (hle.e rfl) (Md.idx_eq g18) (Md.idx_lt g18) rfl (hle.d rfl)⟩) ?_
       refine ob [28, 19, 25, 27, 18, 16, 26, 17, 15, 6, 14, 5, 11, 13, 4, 10, 12, 3, 9, 2, 7, 8, 0, 1] (fun S hle hfr => .inl ⟨wy hle q16, ev_field_in (hle.e rfl) rfl (hle.d rfl)⟩) ?_
       refine ob [29, 19, 28, 18, 16, 25, 27, 17, 15, 6, 26, 14, 5, 11, 13, 4, 10, 12, 3, 9, 2, 7, 8, 0, 1] (fun S hle hfr => .inl ⟨wy hle q16, ev_load_in (hle.e rfl) rfl (hle.d rfl)⟩) ?_
       exact trivial
      case hk45x => rfl
      case hf45x => rfl
      refine y_cm q16 ?_
      refine aops_yes rfl rfl rfl rfl q15 (st_pick_yes rfl (by first | rfl | exact q16) rfl rfl) (s_pn q15 ?_)
      refine aops_nil ?_
      refine aw_cond rfl (fun c19 => ?_) (fun c19 => ?_)
      · replace j10 := Md.cond_t j10 c19
        refine aw_seq (aw_region (s_sa ?_))
        refine aops_nil ?_
        cases Option.some.inj j10
        replace l8 := Md.onS_r l8
        cases Option.some.inj l8
        replace h := Md.onS_r h
        cases Option.some.inj h
        exact aw_ret ⟨rfl, rv r1⟩
      replace j10 := Md.cond_f j10 c19
      refine aw_skip (aw_seq (aw_seq (aw_region ?_)))
      iterate 2 refine s_mv ?_
      obtain ⟨g20, j10⟩ := Md.ifp_s j10
      refine aops_step1 rfl (ev_index_in rfl rfl rfl g20 rfl rfl) (aops_step1 rfl (ev_field_in rfl rfl rfl) (aops_step1 rfl (ev_load_in rfl rfl rfl) (s_cm ?_)))
      refine aops_nil ?_
      refine aw_cond rfl (fun c21 => ?_) (fun c21 => ?_)
      · replace j10 := Md.cond_t j10 c21
        refine aw_seq (aw_seq (aw_region ?_))
        iterate 3 refine s_mv ?_
        obtain ⟨g22, j10⟩ := Md.ifp_s j10
        refine aops_step1 rfl (ev_index_in rfl rfl rfl g22 rfl rfl) (aops_step1 rfl (ev_field_in rfl rfl rfl) (aops_step1 rfl (ev_load_in rfl rfl rfl) ?_))
        obtain ⟨g23, j10⟩ := Md.ifp_s j10
        refine aops_step1 rfl (st_index_str rfl rfl (Md.idx_eq g23) (Md.idx_lt g23) rfl) (s_cm ?_)
        refine aops_nil ?_
        refine aw_cond rfl (fun c24 => ?_) (fun c24 => ?_)
        · replace j10 := Md.cond_t j10 c24
          refine aw_seq (aw_region (s_sa ?_))
          refine aops_nil ?_
          cases Option.some.inj j10
          replace l8 := Md.onS_r l8
          cases Option.some.inj l8
          replace h := Md.onS_r h
          cases Option.some.inj h
          exact aw_ret ⟨rfl, rv r1⟩
        replace j10 := Md.cond_f j10 c24
        refine aw_skip (aw_exit ?_)
        show ∃ _x : Unit, _ = _ ∧ Weak _ _
        exact ⟨(), Option.some.inj j10, wk⟩
      replace j10 := Md.cond_f j10 c21
      refine aw_skip (aw_seq (aw_region ?_))
      iterate 2 refine s_mv ?_
      obtain ⟨g25, j10⟩ := Md.ifp_s j10
      refine aops_step1 rfl (ev_index_in rfl rfl rfl g25 rfl rfl) (aops_step1 rfl (ev_field_in rfl rfl rfl) (aops_step1 rfl (ev_load_in rfl rfl rfl) ?_))
      refine aops_step1 rfl (st_len_str rfl rfl) (s_sa ?_)
      refine aops_nil ?_
      rcases Md.bool_or ((decide (((((x4.1.getD s8_0 default).Text).length : Nat) : Int) < 1))) with q26 | q26
      · replace j10 := Md.cond_t j10 q26
        refine aw_seq ?_
        apply aw_draw 34 ((⟨[], vI ((((x4.1.getD s8_0 default).Text).length : Nat) : Int)⟩ : Add) :: ⟨[], vB (decide (((((x4.1.getD s8_0 default).Text).length : Nat) : Int) < 1))⟩ :: ⟨[], vB (decide (((((x4.1.getD s8_0 default).Text).length : Nat) : Int) < 1))⟩ :: ⟨[], .tup []⟩ :: ⟨[], .tup []⟩ :: ⟨[], .tup []⟩ :: ⟨[], .tup []⟩ :: ⟨[], .tup []⟩ :: ⟨[], .tup []⟩ :: ⟨[], .tup []⟩ :: ⟨[], .tup []⟩ :: ⟨[], .tup []⟩ :: ⟨[], .tup []⟩ :: ⟨[], vB true⟩ :: ⟨[], vB true⟩ :: ⟨[], .tup []⟩ :: ⟨[], .tup []⟩ :: ⟨[], .tup []⟩ :: ⟨[], .tup []⟩ :: ⟨[], .tup []⟩ :: ⟨[], .tup []⟩ :: ⟨[], .tup []⟩ :: ⟨[], .tup []⟩ :: ⟨[], .tup []⟩ :: ⟨[], .tup []⟩ :: ⟨[], .tup []⟩ :: ⟨[], .tup []⟩ :: ⟨[], .tup []⟩ :: ⟨[], .tup []⟩ :: ⟨[], .tup []⟩ :: ⟨[], .tup []⟩ :: ⟨[], .tup []⟩ :: ⟨[], .tup []⟩ :: ⟨[], .tup []⟩ :: []) (by decide) rfl ?hk46x ?hf46x ?ho46x ?hr46x
        case ho46x =>
         refine ob [] (fun S hle hfr => .inl ⟨w0, st_move (hle.e rfl) (hle.d rfl)⟩) (ob [0] (fun S hle hfr => .inl ⟨w0, ev_cmp (hle.e rfl) (hle.e rfl) (hle.d rfl) rfl⟩) ?_)
         refine ob [1, 0] (fun S hle hfr => .inl ⟨w0, st_move (hle.e rfl) (hle.d rfl)⟩) (ob [2, 1, 0] (fun S hle hfr => nw hle q26) ?_)
         refine ob [2, 1, 0] (fun S hle hfr => nw hle q26) (ob [3, 4, 2, 1, 0] (fun S hle hfr => nw hle q26) (ob [5, 2, 3, 4, 1, 0] (fun S hle hfr => nw hle q26) ?_))
         refine ob [6, 2, 5, 1, 3, 4, 0] (fun S hle hfr => nw hle q26) (ob [2, 1, 0] (fun S hle hfr => nw hle q26) ?_)
         refine ob [7, 8, 2, 6, 1, 5, 0, 3, 4] (fun S hle hfr => nw hle q26) (ob [2, 1, 0] (fun S hle hfr => nw hle q26) (ob [10, 2, 1, 0] (fun S hle hfr => nw hle q26) ?_))
         refine ob [9, 11, 2, 7, 8, 10, 1, 6, 0, 5, 3, 4] (fun S hle hfr => nw hle q26) ?_
         refine ob [2, 12, 1, 9, 11, 0, 7, 8, 10, 6, 5, 3, 4] (fun S hle hfr => .inl ⟨w0, st_pick_yes (hle.e rfl) (by first | rfl | exact q26) (hle.e rfl) (hle.d rfl)⟩) ?_
         refine ob [13, 2, 12, 1, 9, 11, 0, 7, 8, 10, 6, 5, 3, 4] (fun S hle hfr => .inl ⟨w0, st_move (hle.e rfl) (hle.d rfl)⟩) ?_
         iterate 3 refine ob [14, 13, 2, 12, 1, 9, 11, 0, 7, 8, 10, 6, 5, 3, 4] (fun S hle hfr => .inr ⟨.inr (.inl ⟨_, _, _, _, rfl, rfl, (hle.ev (x := .tmp _) rfl (by nofun)), (by rw [hle.nt]; rfl), (by first | rfl | (rw [rfl]; rfl))⟩), rfl, hle.d rfl⟩) ?_
         refine ob [16, 17, 14, 13, 2, 12, 1, 9, 11, 0, 7, 8, 10, 6, 5, 3, 4] (fun S hle hfr => .inr ⟨.inr (.inl ⟨_, _, _, _, rfl, rfl, (hle.ev (x := .tmp _) rfl (by nofun)), (by rw [hle.nt]; rfl), (by first | rfl | (rw [rfl]; rfl))⟩), rfl, hle.d rfl⟩) ?_
         refine ob [18, 14, 16, 17, 13, 2, 12, 1, 9, 11, 0, 7, 8, 10, 6, 5, 3, 4] (fun S hle hfr => .inr ⟨.inr (.inl ⟨_, _, _, _, rfl, rfl, (hle.ev (x := .tmp _) rfl (by nofun)), (by rw [hle.nt]; rfl), (by first | rfl | (rw [rfl]; rfl))⟩), rfl, hle.d rfl⟩) ?_
         refine ob [19, 14, 18, 13, 2, 16, 17, 12, 1, 9, 11, 0, 7, 8, 10, 6, 5, 3, 4] (fun S hle hfr => .inr ⟨.inr (.inl ⟨_, _, _, _, rfl, rfl, (hle.ev (x := .tmp _) rfl (by nofun)), (by rw [hle.nt]; rfl), (by first | rfl | (rw [rfl]; rfl))⟩), rfl, hle.d rfl⟩) ?_
         refine ob [14, 13, 2, 12, 1, 9, 11, 0, 7, 8, 10, 6, 5, 3, 4] (fun S hle hfr => .inr ⟨.inr (.inl ⟨_, _, _, _, rfl, rfl, (hle.ev (x := .tmp _) rfl (by nofun)), (by rw [hle.nt]; rfl), (by first | rfl | (rw [rfl]; rfl))⟩), rfl, hle.d rfl⟩) ?_
         refine ob [14, 13, 2, 12, 1, 9, 11, 0, 7, 8, 10, 6, 5, 3, 4] (fun S hle hfr => .inr ⟨.inr (.inl ⟨_, _, _, _, rfl, rfl, (hle.ev (x := .tmp _) rfl (by nofun)), (by rw [hle.nt]; rfl), (by first | rfl | (rw [rfl]; rfl))⟩), rfl, hle.d rfl⟩) ?_
         refine ob [21, 22, 14, 13, 2, 12, 1, 9, 11, 0, 7, 8, 10, 6, 5, 3, 4] (fun S hle hfr => .inr ⟨.inr (.inl ⟨_, _, _, _, rfl, rfl, (hle.ev (x := .tmp _) rfl (by nofun)), (by rw [hle.nt]; rfl), (by first | rfl | (rw [rfl]; rfl))⟩), rfl, hle.d rfl⟩) ?_
         refine ob [23, 14, 21, 22, 13, 2, 12, 1, 9, 11, 0, 7, 8, 10, 6, 5, 3, 4] (fun S hle hfr => .inr ⟨.inr (.inl ⟨_, _, _, _, rfl, rfl, (hle.ev (x := .tmp _) rfl (by nofun)), (by rw [hle.nt]; rfl), (by first | rfl | (rw [rfl]; rfl))⟩), rfl, hle.d rfl⟩) ?_
         refine ob [24, 14, 23, 13, 2, 21, 22, 12, 1, 9, 11, 0, 7, 8, 10, 6, 5, 3, 4] (fun S hle hfr => .inr ⟨.inr (.inl ⟨_, _, _, _, rfl, rfl, (hle.ev (x := .tmp _) rfl (by nofun)), (by rw [hle.nt]; rfl), (by first | rfl | (rw [rfl]; rfl))⟩), rfl, hle.d rfl⟩) ?_
         refine ob [14, 13, 2, 12, 1, 9, 11, 0, 7, 8, 10, 6, 5, 3, 4] (fun S hle hfr => .inr ⟨.inr (.inl ⟨_, _, _, _, rfl, rfl, (hle.ev (x := .tmp _) rfl (by nofun)), (by rw [hle.nt]; rfl), (by first | rfl | (rw [rfl]; rfl))⟩), rfl, hle.d rfl⟩) ?_
         refine ob [25, 26, 14, 24, 13, 2, 23, 12, 1, 21, 22, 9, 11, 0, 7, 8, 10, 6, 5, 3, 4] (fun S hle hfr => .inr ⟨.inr (.inl ⟨_, _, _, _, rfl, rfl, (hle.ev (x := .tmp _) rfl (by nofun)), (by rw [hle.nt]; rfl), (by first | rfl | (rw [rfl]; rfl))⟩), rfl, hle.d rfl⟩) ?_
         refine ob [15, 20, 27, 14, 19, 25, 26, 13, 2, 18, 24, 12, 1, 16, 17, 23, 9, 11, 0, 21, 22, 7, 8, 10, 6, 5, 3, 4] (fun S hle hfr => .inr ⟨.inr (.inl ⟨_, _, _, _, rfl, rfl, (hle.ev (x := .tmp _) rfl (by nofun)), (by rw [hle.nt]; rfl), (by first | rfl | (rw [rfl]; rfl))⟩), rfl, hle.d rfl⟩) ?_
         refine ob [14, 13, 2, 12, 1, 9, 11, 0, 7, 8, 10, 6, 5, 3, 4] (fun S hle hfr => .inr ⟨.inr (.inl ⟨_, _, _, _, rfl, rfl, (hle.ev (x := .tmp _) rfl (by nofun)), (by rw [hle.nt]; rfl), (by first | rfl | (rw [rfl]; rfl))⟩), rfl, hle.d rfl⟩) ?_
         refine ob [14, 13, 2, 12, 1, 9, 11, 0, 7, 8, 10, 6, 5, 3, 4] (fun S hle hfr => .inr ⟨.inr (.inl ⟨_, _, _, _, rfl, rfl, (hle.ev (x := .tmp _) rfl (by nofun)), (by rw [hle.nt]; rfl), (by first | rfl | (rw [rfl]; rfl))⟩), rfl, hle.d rfl⟩) ?_
         refine ob [29, 30, 14, 13, 2, 12, 1, 9, 11, 0, 7, 8, 10, 6, 5, 3, 4] (fun S hle hfr => .inr ⟨.inr (.inl ⟨_, _, _, _, rfl, rfl, (hle.ev (x := .tmp _) rfl (by nofun)), (by rw [hle.nt]; rfl), (by first | rfl | (rw [rfl]; rfl))⟩), rfl, hle.d rfl⟩) ?_
         refine ob [31, 14, 29, 30, 13, 2, 12, 1, 9, 11, 0, 7, 8, 10, 6, 5, 3, 4] (fun S hle hfr => .inr ⟨.inr (.inl ⟨_, _, _, _, rfl, rfl, (hle.ev (x := .tmp _) rfl (by nofun)), (by rw [hle.nt]; rfl), (by first | rfl | (rw [rfl]; rfl))⟩), rfl, hle.d rfl⟩) ?_
         refine ob [32, 14, 31, 13, 2, 29, 30, 12, 1, 9, 11, 0, 7, 8, 10, 6, 5, 3, 4] (fun S hle hfr => .inr ⟨.inr (.inl ⟨_, _, _, _, rfl, rfl, (hle.ev (x := .tmp _) rfl (by nofun)), (by rw [hle.nt]; rfl), (by first | rfl | (rw [rfl]; rfl))⟩), rfl, hle.d rfl⟩) ?_
         exact trivial
        case hk46x => rfl
        case hf46x => rfl
        refine aops_no rfl rfl rfl rfl rfl (by decide) (aops_step1 rfl (st_pick_yes rfl (by first | rfl | exact rfl) rfl rfl) (aops_nil (aw_yes rfl (rfl) (aw_seq (aw_region (s_sa ?_))))))
        refine aops_nil ?_
        cases Option.some.inj j10
        replace l8 := Md.onS_r l8
        cases Option.some.inj l8
        replace h := Md.onS_r h
        cases Option.some.inj h
        exact aw_ret ⟨rfl, rv r1⟩
      replace j10 := Md.cond_f j10 q26
      obtain ⟨g27, j10⟩ := Md.ifp_s j10
      rcases Md.bool_or ((decide ((Md.W (((x4.1.getD s8_0 default).At) + ((((x4.1.getD s8_0 default).Text).length : Nat) : Int))) > ((a0.length : Nat) : Int)))) with q28 | q28
      · replace j10 := Md.cond_t j10 q28
        refine aw_seq ?_
        apply aw_draw 34 ((⟨[], vI ((((x4.1.getD s8_0 default).Text).length : Nat) : Int)⟩ : Add) :: ⟨[], vB (decide (((((x4.1.getD s8_0 default).Text).length : Nat) : Int) < 1))⟩ :: ⟨[], vB (decide (((((x4.1.getD s8_0 default).Text).length : Nat) : Int) < 1))⟩ :: ⟨[], .one (CV.ls c_Token x4.1)⟩ :: ⟨[], vI ((s8_0 : Nat) : Int)⟩ :: ⟨[], .one (.cptr _)⟩ :: ⟨[], .one (.cptr _)⟩ :: ⟨[], vI ((x4.1.getD s8_0 default).At)⟩ :: ⟨[], vI ((((x4.1.getD s8_0 default).Text).length : Nat) : Int)⟩ :: ⟨[], vI (Md.W (((x4.1.getD s8_0 default).At) + ((((x4.1.getD s8_0 default).Text).length : Nat) : Int)))⟩ :: ⟨[], .one (.val (Sv a0))⟩ :: ⟨[], vI ((a0.length : Nat) : Int)⟩ :: ⟨[], vB (decide ((Md.W (((x4.1.getD s8_0 default).At) + ((((x4.1.getD s8_0 default).Text).length : Nat) : Int))) > ((a0.length : Nat) : Int)))⟩ :: ⟨[], vB (decide ((Md.W (((x4.1.getD s8_0 default).At) + ((((x4.1.getD s8_0 default).Text).length : Nat) : Int))) > ((a0.length : Nat) : Int)))⟩ :: ⟨[], vB (decide ((Md.W (((x4.1.getD s8_0 default).At) + ((((x4.1.getD s8_0 default).Text).length : Nat) : Int))) > ((a0.length : Nat) : Int)))⟩ :: ⟨[], .tup []⟩ :: ⟨[], .tup []⟩ :: ⟨[], .tup []⟩ :: ⟨[], .tup []⟩ :: ⟨[], .tup []⟩ :: ⟨[], .tup []⟩ :: ⟨[], .tup []⟩ :: ⟨[], .tup []⟩ :: ⟨[], .tup []⟩ :: ⟨[], .tup []⟩ :: ⟨[], .tup []⟩ :: ⟨[], .tup []⟩ :: ⟨[], .tup []⟩ :: ⟨[], .tup []⟩ :: ⟨[], .tup []⟩ :: ⟨[], .tup []⟩ :: ⟨[], .tup []⟩ :: ⟨[], .tup []⟩ :: ⟨[], .tup []⟩ :: []) (by decide) rfl ?hk47x ?hf47x ?ho47x ?hr47x
        case ho47x =>
         refine ob [] (fun S hle hfr => .inl ⟨w0, st_move (hle.e rfl) (hle.d rfl)⟩) (ob [0] (fun S hle hfr => .inl ⟨w0, ev_cmp (hle.e rfl) (hle.e rfl) (hle.d rfl) rfl⟩) ?_)
         refine ob [1, 0] (fun S hle hfr => .inl ⟨w0, st_move (hle.e rfl) (hle.d rfl)⟩) ?_
         refine ob [2, 1, 0] (fun S hle hfr => .inl ⟨wy hle q26, st_move (hle.e rfl) (hle.d rfl)⟩) ?_
         refine ob [2, 1, 0] (fun S hle hfr => .inl ⟨wy hle q26, st_move (hle.e rfl) (hle.d rfl)⟩) ?_
         refine ob [3, 4, 2, 1, 0] (fun S hle hfr => .inl ⟨wy hle q26, ev_index_in (hle.e rfl) (hle.e rfl) rfl g27 rfl (hle.d rfl)⟩) ?_
         refine ob [5, 2, 3, 4, 1, 0] (fun S hle hfr => .inl ⟨wy hle q26, ev_field_in (hle.e rfl) rfl (hle.d rfl)⟩) ?_
         refine ob [6, 2, 5, 1, 3, 4, 0] (fun S hle hfr => .inl ⟨wy hle q26, ev_load_in (hle.e rfl) rfl (hle.d rfl)⟩) ?_
         refine ob [2, 1, 0] (fun S hle hfr => .inl ⟨wy hle q26, st_move (hle.e rfl) (hle.d rfl)⟩) ?_
         refine ob [7, 8, 2, 6, 1, 5, 0, 3, 4] (fun S hle hfr => .inl ⟨wy hle q26, ev_add (hle.e rfl) (hle.e rfl) (hle.d rfl) (Md.wrap_W _)⟩) ?_
         refine ob [2, 1, 0] (fun S hle hfr => .inl ⟨wy hle q26, st_move (hle.e rfl) (hle.d rfl)⟩) ?_
         refine ob [10, 2, 1, 0] (fun S hle hfr => .inl ⟨wy hle q26, st_len_str (hle.e rfl) (hle.d rfl)⟩) ?_
         refine ob [9, 11, 2, 7, 8, 10, 1, 6, 0, 5, 3, 4] (fun S hle hfr => .inl ⟨wy hle q26, ev_cmp (hle.e rfl) (hle.e rfl) (hle.d rfl) rfl⟩) ?_
         refine ob [2, 12, 1, 9, 11, 0, 7, 8, 10, 6, 5, 3, 4] (fun S hle hfr => .inl ⟨w0, st_pick_no (hle.e rfl) (by first | rfl | exact q26) (hle.e rfl) (hle.d rfl)⟩) ?_
         refine ob [13, 2, 12, 1, 9, 11, 0, 7, 8, 10, 6, 5, 3, 4] (fun S hle hfr => .inl ⟨w0, st_move (hle.e rfl) (hle.d rfl)⟩) ?_
         iterate 3 refine ob [14, 13, 2, 12, 1, 9, 11, 0, 7, 8, 10, 6, 5, 3, 4] (fun S hle hfr => nw hle q28) ?_
         refine ob [16, 17, 14, 13, 2, 12, 1, 9, 11, 0, 7, 8, 10, 6, 5, 3, 4] (fun S hle hfr => nw hle q28) ?_
         refine ob [18, 14, 16, 17, 13, 2, 12, 1, 9, 11, 0, 7, 8, 10, 6, 5, 3, 4] (fun S hle hfr => nw hle q28) ?_
         refine ob [19, 14, 18, 13, 2, 16, 17, 12, 1, 9, 11, 0, 7, 8, 10, 6, 5, 3, 4] (fun S hle hfr => nw hle q28) ?_
         refine ob [14, 13, 2, 12, 1, 9, 11, 0, 7, 8, 10, 6, 5, 3, 4] (fun S hle hfr => nw hle q28) ?_
         refine ob [14, 13, 2, 12, 1, 9, 11, 0, 7, 8, 10, 6, 5, 3, 4] (fun S hle hfr => nw hle q28) ?_
         refine ob [21, 22, 14, 13, 2, 12, 1, 9, 11, 0, 7, 8, 10, 6, 5, 3, 4] (fun S hle hfr => nw hle q28) ?_
         refine ob [23, 14, 21, 22, 13, 2, 12, 1, 9, 11, 0, 7, 8, 10, 6, 5, 3, 4] (fun S hle hfr => nw hle q28) ?_
         refine ob [24, 14, 23, 13, 2, 21, 22, 12, 1, 9, 11, 0, 7, 8, 10, 6, 5, 3, 4] (fun S hle hfr => nw hle q28) ?_
         refine ob [14, 13, 2, 12, 1, 9, 11, 0, 7, 8, 10, 6, 5, 3, 4] (fun S hle hfr => nw hle q28) ?_
         refine ob [25, 26, 14, 24, 13, 2, 23, 12, 1, 21, 22, 9, 11, 0, 7, 8, 10, 6, 5, 3, 4] (fun S hle hfr => nw hle q28) ?_
         refine ob [15, 20, 27, 14, 19, 25, 26, 13, 2, 18, 24, 12, 1, 16, 17, 23, 9, 11, 0, 21, 22, 7, 8, 10, 6, 5, 3, 4] (fun S hle hfr => nw hle q28) ?_
         refine ob [14, 13, 2, 12, 1, 9, 11, 0, 7, 8, 10, 6, 5, 3, 4] (fun S hle hfr => nw hle q28) ?_
         refine ob [14, 13, 2, 12, 1, 9, 11, 0, 7, 8, 10, 6, 5, 3, 4] (fun S hle hfr => nw hle q28) ?_
         refine ob [29, 30, 14, 13, 2, 12, 1, 9, 11, 0, 7, 8, 10, 6, 5, 3, 4] (fun S hle hfr => nw hle q28) ?_
         refine ob [31, 14, 29, 30, 13, 2, 12, 1, 9, 11, 0, 7, 8, 10, 6, 5, 3, 4] (fun S hle hfr => nw hle q28) ?_
         refine ob [32, 14, 31, 13, 2, 29, 30, 12, 1, 9, 11, 0, 7, 8, 10, 6, 5, 3, 4] (fun S hle hfr => nw hle q28) ?_
         exact trivial
        case hk47x => rfl
        case hf47x => rfl
        refine np q28 ?_
        refine s_py q28 ?_
        refine aops_nil (aw_yes rfl (rfl) (aw_seq (aw_region (s_sa ?_))))
        refine aops_nil ?_
        cases Option.some.inj j10
        replace l8 := Md.onS_r l8
        cases Option.some.inj l8
        replace h := Md.onS_r h
        cases Option.some.inj h
        exact aw_ret ⟨rfl, rv r1⟩
      replace j10 := Md.cond_f j10 q28
      obtain ⟨g29, j10⟩ := Md.ifp_s j10
      obtain ⟨g30, j10⟩ := Md.ifp_s j10
      obtain ⟨g31, j10⟩ := Md.ifp_s j10
      obtain ⟨g32, j10⟩ := Md.ifp_s j10
      obtain ⟨g33, j10⟩ := Md.ifp_s j10
      obtain ⟨g34, j10⟩ := Md.ifp_s j10
      refine aw_seq ?_
      apply aw_draw 34 ((⟨[], vI ((((x4.1.getD s8_0 default).Text).length : Nat) : Int)⟩ : Add) :: ⟨[], vB (decide (((((x4.1.getD s8_0 default).Text).length : Nat) : Int) < 1))⟩ :: ⟨[], vB (decide (((((x4.1.getD s8_0 default).Text).length : Nat) : Int) < 1))⟩ :: ⟨[], .one (CV.ls c_Token x4.1)⟩ :: ⟨[], vI ((s8_0 : Nat) : Int)⟩ :: ⟨[], .one (.cptr _)⟩ :: ⟨[], .one (.cptr _)⟩ :: ⟨[], vI ((x4.1.getD s8_0 default).At)⟩ :: ⟨[], vI ((((x4.1.getD s8_0 default).Text).length : Nat) : Int)⟩ :: ⟨[], vI (Md.W (((x4.1.getD s8_0 default).At) + ((((x4.1.getD s8_0 default).Text).length : Nat) : Int)))⟩ :: ⟨[], .one (.val (Sv a0))⟩ :: ⟨[], vI ((a0.length : Nat) : Int)⟩ :: ⟨[], vB (decide ((Md.W (((x4.1.getD s8_0 default).At) + ((((x4.1.getD s8_0 default).Text).length : Nat) : Int))) > ((a0.length : Nat) : Int)))⟩ :: ⟨[], vB (decide ((Md.W (((x4.1.getD s8_0 default).At) + ((((x4.1.getD s8_0 default).Text).length : Nat) : Int))) > ((a0.length : Nat) : Int)))⟩ :: ⟨[], vB (decide ((Md.W (((x4.1.getD s8_0 default).At) + ((((x4.1.getD s8_0 default).Text).length : Nat) : Int))) > ((a0.length : Nat) : Int)))⟩ :: ⟨[], .one (.val (Sv a0))⟩ :: ⟨[], .one (CV.ls c_Token x4.1)⟩ :: ⟨[], vI ((s8_0 : Nat) : Int)⟩ :: ⟨[], .one (.cptr _)⟩ :: ⟨[], .one (.cptr _)⟩ :: ⟨[], vI ((x4.1.getD s8_0 default).At)⟩ :: ⟨[], .one (CV.ls c_Token x4.1)⟩ :: ⟨[], vI ((s8_0 : Nat) : Int)⟩ :: ⟨[], .one (.cptr _)⟩ :: ⟨[], .one (.cptr _)⟩ :: ⟨[], vI ((x4.1.getD s8_0 default).At)⟩ :: ⟨[], vI ((((x4.1.getD s8_0 default).Text).length : Nat) : Int)⟩ :: ⟨[], vI (Md.W (((x4.1.getD s8_0 default).At) + ((((x4.1.getD s8_0 default).Text).length : Nat) : Int)))⟩ :: ⟨[], .one (.val (Sv ((a0.drop ((((x4.1.getD s8_0 default).At)).toNat)).take (((Md.W (((x4.1.getD s8_0 default).At) + ((((x4.1.getD s8_0 default).Text).length : Nat) : Int)))).toNat - ((((x4.1.getD s8_0 default).At)).toNat)))))⟩ :: ⟨[], .one (CV.ls c_Token x4.1)⟩ :: ⟨[], vI ((s8_0 : Nat) : Int)⟩ :: ⟨[], .one (.cptr _)⟩ :: ⟨[], .one (.cptr _)⟩ :: ⟨[], .one (.val (Sv ((x4.1.getD s8_0 default).Text)))⟩ :: []) (by decide) rfl ?hk48x ?hf48x ?ho48x ?hr48x
      case ho48x =>
       refine ob [] (fun S hle hfr => .inl ⟨w0, st_move (hle.e rfl) (hle.d rfl)⟩) (ob [0] (fun S hle hfr => .inl ⟨w0, ev_cmp (hle.e rfl) (hle.e rfl) (hle.d rfl) rfl⟩) ?_)
       refine ob [1, 0] (fun S hle hfr => .inl ⟨w0, st_move (hle.e rfl) (hle.d rfl)⟩) ?_
       refine ob [2, 1, 0] (fun S hle hfr => .inl ⟨wy hle q26, st_move (hle.e rfl) (hle.d rfl)⟩) ?_
       refine ob [2, 1, 0] (fun S hle hfr => .inl ⟨wy hle q26, st_move (hle.e rfl) (hle.d rfl)⟩) ?_
       refine ob [3, 4, 2, 1, 0] (fun S hle hfr => .inl ⟨wy hle q26, ev_index_in (hle.e rfl) (hle.e rfl) rfl g27 rfl (hle.d rfl)⟩) ?_
       refine ob [5, 2, 3, 4, 1, 0] (fun S hle hfr => .inl ⟨wy hle q26, ev_field_in (hle.e rfl) rfl (hle.d rfl)⟩) ?_
       refine ob [6, 2, 5, 1, 3, 4, 0] (fun S hle hfr => .inl ⟨wy hle q26, ev_load_in (hle.e rfl) rfl (hle.d rfl)⟩) ?_
       refine ob [2, 1, 0] (fun S hle hfr => .inl ⟨wy hle q26, st_move (hle.e rfl) (hle.d rfl)⟩) ?_
       refine ob [7, 8, 2, 6, 1, 5, 0, 3, 4] (fun S hle hfr => .inl ⟨wy hle q26, ev_add (hle.e rfl) (hle.e rfl) (hle.d rfl) (Md.wrap_W _)⟩) ?_
       refine ob [2, 1, 0] (fun S hle hfr => .inl ⟨wy hle q26, st_move (hle.e rfl) (hle.d rfl)⟩) ?_
       refine ob [10, 2, 1, 0] (fun S hle hfr => .inl ⟨wy hle q26, st_len_str (hle.e rfl) (hle.d rfl)⟩) ?_
       refine ob [9, 11, 2, 7, 8, 10, 1, 6, 0, 5, 3, 4] (fun S hle hfr => .inl ⟨wy hle q26, ev_cmp (hle.e rfl) (hle.e rfl) (hle.d rfl) rfl⟩) ?_
       refine ob [2, 12, 1, 9, 11, 0, 7, 8, 10, 6, 5, 3, 4] (fun S hle hfr => .inl ⟨w0, st_pick_no (hle.e rfl) (by first | rfl | exact q26) (hle.e rfl) (hle.d rfl)⟩) ?_
       refine ob [13, 2, 12, 1, 9, 11, 0, 7, 8, 10, 6, 5, 3, 4] (fun S hle hfr => .inl ⟨w0, st_move (hle.e rfl) (hle.d rfl)⟩) ?_
       iterate 3 refine ob [14, 13, 2, 12, 1, 9, 11, 0, 7, 8, 10, 6, 5, 3, 4] (fun S hle hfr => .inl ⟨wy hle q28, st_move (hle.e rfl) (hle.d rfl)⟩) ?_
       refine ob [16, 17, 14, 13, 2, 12, 1, 9, 11, 0, 7, 8, 10, 6, 5, 3, 4] (fun S hle hfr => .inl ⟨wy hle q28, ev_index_in (hle.e rfl) (hle.e rfl) rfl g29 rfl (hle.d rfl)⟩) ?_
       refine ob [18, 14, 16, 17, 13, 2, 12, 1, 9, 11, 0, 7, 8, 10, 6, 5, 3, 4] (fun S hle hfr => .inl ⟨wy hle q28, ev_field_in (hle.e rfl) rfl (hle.d rfl)⟩) ?_
       refine ob [19, 14, 18, 13, 2, 16, 17, 12, 1, 9, 11, 0, 7, 8, 10, 6, 5, 3, 4] (fun S hle hfr => .inl ⟨wy hle q28, ev_load_in (hle.e rfl) rfl (hle.d rfl)⟩) ?_
       refine ob [14, 13, 2, 12, 1, 9, 11, 0, 7, 8, 10, 6, 5, 3, 4] (fun S hle hfr => .inl ⟨wy hle q28, st_move (hle.e rfl) (hle.d rfl)⟩) ?_
       refine ob [14, 13, 2, 12, 1, 9, 11, 0, 7, 8, 10, 6, 5, 3, 4] (fun S hle hfr => .inl ⟨wy hle q28, st_move (hle.e rfl) (hle.d rfl)⟩) ?_
       refine ob [21, 22, 14, 13, 2, 12, 1, 9, 11, 0, 7, 8, 10, 6, 5, 3, 4] (fun S hle hfr => .inl ⟨wy hle q28, ev_index_in (hle.e rfl) (hle.e rfl) rfl g30 rfl (hle.d rfl)⟩) ?_
       refine ob [23, 14, 21, 22, 13, 2, 12, 1, 9, 11, 0, 7, 8, 10, 6, 5, 3, 4] (fun S hle hfr => .inl ⟨wy hle q28, ev_field_in (hle.e rfl) rfl (hle.d rfl)⟩) ?_
       refine ob [24, 14, 23, 13, 2, 21, 22, 12, 1, 9, 11, 0, 7, 8, 10, 6, 5, 3, 4] (fun S hle hfr => .inl ⟨wy hle q28, ev_load_in (hle.e rfl) rfl (hle.d rfl)⟩) ?_
       refine ob [14, 13, 2, 12, 1, 9, 11, 0, 7, 8, 10, 6, 5, 3, 4] (fun S hle hfr => .inl ⟨wy hle q28, st_move (hle.e rfl) (hle.d rfl)⟩) ?_
       refine ob [25, 26, 14, 24, 13, 2, 23, 12, 1, 21, 22, 9, 11, 0, 7, 8, 10, 6, 5, 3, 4] (fun S hle hfr => .inl ⟨wy hle q28, ev_add (hle.e rfl) (hle.e rfl) (hle.d rfl) (Md.wrap_W _)⟩) ?_
       refine ob [15, 20, 27, 14, 19, 25, 26, 13, 2, 18, 24, 12, 1, 16, 17, 23, 9, 11, 0, 21, 22, 7, 8, 10, 6, 5, 3, 4] (fun S hle hfr => .inl ⟨wy hle q28, st_cut_both_s (hle.e rfl) ⟨_, _, (hle.e rfl), (Md.nn_eq g31)⟩ ⟨_, _, (hle.e rfl), (Md.nn_eq g32)⟩ g33 (hle.d rfl)⟩) ?_
       refine ob [14, 13, 2, 12, 1, 9, 11, 0, 7, 8, 10, 6, 5, 3, 4] (fun S hle hfr => .inl ⟨wy hle q28, st_move (hle.e rfl) (hle.d rfl)⟩) ?_
       refine ob [14, 13, 2, 12, 1, 9, 11, 0, 7, 8, 10, 6, 5, 3, 4] (fun S hle hfr => .inl ⟨wy hle q28, st_move (hle.e rfl) (hle.d rfl)⟩) ?_
       refine ob [29, 30, 14, 13, 2, 12, 1, 9, 11, 0, 7, 8, 10, 6, 5, 3, 4] (fun S hle hfr => .inl ⟨wy hle q28, ev_index_in (hle.e rfl) (hle.e rfl) rfl g34 rfl (hle.d rfl)⟩) ?_
       refine ob [31, 14, 29, 30, 13, 2, 12, 1, 9, 11, 0, 7, 8, 10, 6, 5, 3, 4] (fun S hle hfr => .inl ⟨wy hle q28, ev_field_in (hle.e rfl) rfl (hle.d rfl)⟩) ?_
       refine ob [32, 14, 31, 13, 2, 29, 30, 12, 1, 9, 11, 0, 7, 8, 10, 6, 5, 3, 4] (fun S hle hfr => .inl ⟨wy hle q28, ev_load_in (hle.e rfl) rfl (hle.d rfl)⟩) ?_
       exact trivial
      case hk48x => rfl
      case hf48x => rfl
      refine aops_yes rfl rfl rfl rfl q28 (st_str_ne rfl rfl rfl) (s_pn q28 ?_)
      refine aops_nil ?_
      refine aw_cond rfl (fun c35 => ?_) (fun c35 => ?_)
      · replace j10 := Md.cond_t j10 c35
        refine aw_seq (aw_region (s_sa ?_))
        refine aops_nil ?_
        cases Option.some.inj j10
        replace l8 := Md.onS_r l8
        cases Option.some.inj l8
        replace h := Md.onS_r h
        cases Option.some.inj h
        exact aw_ret ⟨rfl, rv r1⟩
      replace j10 := Md.cond_f j10 c35
      refine aw_skip ?_
      show ∃ _x : Unit, _ = _ ∧ Weak _ _
      exact ⟨(), Option.some.inj j10, wk⟩
    replace j10 := Md.cond_f j10 q16
    refine aw_seq ?_
    apply aw_draw 31 ((⟨[], .one (CV.ls c_Token x4.1)⟩ : Add) :: ⟨[], vI ((s8_0 : Nat) : Int)⟩ :: ⟨[], .one (.cptr _)⟩ :: ⟨[], .one (.cptr _)⟩ :: ⟨[], vI ((x4.1.getD s8_0 default).At)⟩ :: ⟨[], vB (decide (((x4.1.getD s8_0 default).At) < 0))⟩ :: ⟨[], vB (decide (((x4.1.getD s8_0 default).At) < 0))⟩ :: ⟨[], .one (CV.ls c_Token x4.1)⟩ :: ⟨[], vI ((s8_0 : Nat) : Int)⟩ :: ⟨[], .one (.cptr _)⟩ :: ⟨[], .one (.cptr _)⟩ :: ⟨[], vI ((x4.1.getD s8_0 default).At)⟩ :: ⟨[], .one (.val (Sv a0))⟩ :: ⟨[], vI ((a0.length : Nat) : Int)⟩ :: ⟨[], vB (decide (((x4.1.getD s8_0 default).At) ≥ ((a0.length : Nat) : Int)))⟩ :: ⟨[], vB (decide (((x4.1.getD s8_0 default).At) ≥ ((a0.length : Nat) : Int)))⟩ :: ⟨[], vB (decide (((x4.1.getD s8_0 default).At) ≥ ((a0.length : Nat) : Int)))⟩ :: ⟨[], vI ((s8_0 : Nat) : Int)⟩ :: ⟨[], vB (decide (((s8_0 : Nat) : Int) > 0))⟩ :: ⟨[], vB (decide (((s8_0 : Nat) : Int) > 0))⟩ :: ⟨[], .tup []⟩ :: ⟨[], .tup []⟩ :: ⟨[], .tup []⟩ :: ⟨[], .tup []⟩ :: ⟨[], .tup []⟩ :: ⟨[], .tup []⟩ :: ⟨[], .tup []⟩ :: ⟨[], .tup []⟩ :: ⟨[], .tup []⟩ :: ⟨[], .tup []⟩ :: ⟨[], .tup []⟩ :: []) (by decide) rfl ?hk49x ?hf49x ?ho49x ?hr49x
    case ho49x =>
     refine ob [] (fun S hle hfr => .inl ⟨w0, st_move (hle.e rfl) (hle.d rfl)⟩) (ob [] (fun S hle hfr => .inl ⟨w0, st_move (hle.e rfl) (hle.d rfl)⟩) ?_)
     refine ob [0, 1] (fun S hle hfr => .inl ⟨w0, ev_index_in (hle.e rfl) (hle.e rfl) rfl g12 rfl (hle.d rfl)⟩) ?_
     refine ob [2, 0, 1] (fun S hle hfr => .inl ⟨w0, ev_field_in (hle.e rfl) rfl (hle.d rfl)⟩) ?_
     refine ob [3, 2, 0, 1] (fun S hle hfr => .inl ⟨w0, ev_load_in (hle.e rfl) rfl (hle.d rfl)⟩) ?_
     refine ob [4, 3, 2, 0, 1] (fun S hle hfr => .inl ⟨w0, ev_cmp (hle.e rfl) (hle.e rfl) (hle.d rfl) rfl⟩) ?_
     refine ob [5, 4, 3, 2, 0, 1] (fun S hle hfr => .inl ⟨w0, st_move (hle.e rfl) (hle.d rfl)⟩) ?_
     refine ob [6, 5, 4, 3, 2, 0, 1] (fun S hle hfr => .inl ⟨wy hle q13, st_move (hle.e rfl) (hle.d rfl)⟩) ?_
     refine ob [6, 5, 4, 3, 2, 0, 1] (fun S hle hfr => .inl ⟨wy hle q13, st_move (hle.e rfl) (hle.d rfl)⟩) ?_
     refine ob [7, 8, 6, 5, 4, 3, 2, 0, 1] (fun S hle hfr => .inl ⟨wy hle q13, ev_index_in (hle.e rfl) (hle.e rfl) rfl g14 rfl (hle.d rfl)⟩) ?_
     refine ob [9, 6, 7, 8, 5, 4, 3, 2, 0, 1] (fun S hle hfr => .inl ⟨wy hle q13, ev_field_in (hle.e rfl) rfl (hle.d rfl)⟩) ?_
     refine ob [10, 6, 9, 5, 7, 8, 4, 3, 2, 0, 1] (fun S hle hfr => .inl ⟨wy hle q13, ev_load_in (hle.e rfl) rfl (hle.d rfl)⟩) ?_
     refine ob [6, 5, 4, 3, 2, 0, 1] (fun S hle hfr => .inl ⟨wy hle q13, st_move (hle.e rfl) (hle.d rfl)⟩) ?_
     refine ob [12, 6, 5, 4, 3, 2, 0, 1] (fun S hle hfr => .inl ⟨wy hle q13, st_len_str (hle.e rfl) (hle.d rfl)⟩) ?_
     refine ob [11, 13, 6, 10, 12, 5, 9, 4, 7, 8, 3, 2, 0, 1] (fun S hle hfr => .inl ⟨wy hle q13, ev_cmp (hle.e rfl) (hle.e rfl) (hle.d rfl) rfl⟩) ?_
     refine ob [6, 14, 5, 11, 13, 4, 10, 12, 3, 9, 2, 7, 8, 0, 1] (fun S hle hfr => .inl ⟨w0, st_pick_no (hle.e rfl) (by first | rfl | exact q13) (hle.e rfl) (hle.d rfl)⟩) ?_
     refine ob [15, 6, 14, 5, 11, 13, 4, 10, 12, 3, 9, 2, 7, 8, 0, 1] (fun S hle hfr => .inl ⟨w0, st_move (hle.e rfl) (hle.d rfl)⟩) ?_
     refine ob [16, 15, 6, 14, 5, 11, 13, 4, 10, 12, 3, 9, 2, 7, 8, 0, 1] (fun S hle hfr => .inl ⟨wy hle q15, st_move (hle.e rfl) (hle.d rfl)⟩) ?_
     refine ob [17, 16, 15, 6, 14, 5, 11, 13, 4, 10, 12, 3, 9, 2, 7, 8, 0, 1] (fun S hle hfr => .inl ⟨wy hle q15, ev_cmp (hle.e rfl) (hle.e rfl) (hle.d rfl) rfl⟩) ?_
     refine ob [18, 16, 17, 15, 6, 14, 5, 11, 13, 4, 10, 12, 3, 9, 2, 7, 8, 0, 1] (fun S hle hfr => .inl ⟨wy hle q15, st_move (hle.e rfl) (hle.d rfl)⟩) ?_
     refine ob [19, 18, 16, 17, 15, 6, 14, 5, 11, 13, 4, 10, 12, 3, 9, 2, 7, 8, 0, 1] (fun S hle hfr => nw hle q16) ?_
     refine ob [19, 18, 16, 17, 15, 6, 14, 5, 11, 13, 4, 10, 12, 3, 9, 2, 7, 8, 0, 1] (fun S hle hfr => nw hle q16) ?_
     refine ob [20, 21, 19, 18, 16, 17, 15, 6, 14, 5, 11, 13, 4, 10, 12, 3, 9, 2, 7, 8, 0, 1] (fun S hle hfr => nw hle q16) ?_
     refine ob [22, 19, 20, 21, 18, 16, 17, 15, 6, 14, 5, 11, 13, 4, 10, 12, 3, 9, 2, 7, 8, 0, 1] (fun S hle hfr => nw hle q16) ?_
     refine ob [23, 19, 22, 18, 16, 20, 21, 17, 15, 6, 14, 5, 11, 13, 4, 10, 12, 3, 9, 2, 7, 8, 0, 1] (fun S hle hfr => nw hle q16) ?_
     refine ob [19, 18, 16, 17, 15, 6, 14, 5, 11, 13, 4, 10, 12, 3, 9, 2, 7, 8, 0, 1] (fun S hle hfr => nw hle q16) ?_
     refine ob [19, 18, 16, 17, 15, 6, 14, 5, 11, 13, 4, 10, 12, 3, 9, 2, 7, 8, 0, 1] (fun S hle hfr => nw hle q16) ?_
     refine ob [26, 19, 18, 16, 17, 15, 6, 14, 5, 11, 13, 4, 10, 12, 3, 9, 2, 7, 8, 0, 1] (fun S hle hfr => nw hle q16) ?_
     refine ob [25, 27, 19, 26, 18, 16, 17, 15, 6, 14, 5, 11, 13, 4, 10, 12, 3, 9, 2, 7, 8, 0, 1] (fun S hle hfr => nw hle q16) ?_
     refine ob [28, 19, 25, 27, 18, 16, 26, 17, 15, 6, 14, 5, 11, 13, 4, 10, 12, 3, 9, 2, 7, 8, 0, 1] (fun S hle hfr => nw hle q16) ?_
     refine ob [29, 19, 28, 18, 16, 25, 27, 17, 15, 6, 26, 14, 5, 11, 13, 4, 10, 12, 3, 9, 2, 7, 8, 0, 1] (fun S hle hfr => nw hle q16) ?_
     exact trivial
    case hk49x => rfl
    case hf49x => rfl
    refine np q16 ?_
    refine aops_yes rfl rfl rfl rfl q15 (st_pick_no rfl (by first | rfl | exact q16) rfl rfl) (s_pn q15 ?_)
    refine aops_nil (aw_no rfl (rfl) (aw_skip (aw_seq (aw_seq (aw_region ?_)))))
    iterate 2 refine s_mv ?_
    obtain ⟨g36, j10⟩ := Md.ifp_s j10
    refine aops_step1 rfl (ev_index_in rfl rfl rfl g36 rfl rfl) (aops_step1 rfl (ev_field_in rfl rfl rfl) (aops_step1 rfl (ev_load_in rfl rfl rfl) (s_cm ?_)))
    refine aops_nil ?_
    refine aw_cond rfl (fun c37 => ?_) (fun c37 => ?_)
    · replace j10 := Md.cond_t j10 c37
      refine aw_seq (aw_seq (aw_region ?_))
      iterate 3 refine s_mv ?_
      obtain ⟨g38, j10⟩ := Md.ifp_s j10
      refine aops_step1 rfl (ev_index_in rfl rfl rfl g38 rfl rfl) (aops_step1 rfl (ev_field_in rfl rfl rfl) (aops_step1 rfl (ev_load_in rfl rfl rfl) ?_))
      obtain ⟨g39, j10⟩ := Md.ifp_s j10
      refine aops_step1 rfl (st_index_str rfl rfl (Md.idx_eq g39) (Md.idx_lt g39) rfl) (s_cm ?_)
      refine aops_nil ?_
      refine aw_cond rfl (fun c40 => ?_) (fun c40 => ?_)
      · replace j10 := Md.cond_t j10 c40
        refine aw_seq (aw_region (s_sa ?_))
        refine aops_nil ?_
        cases Option.some.inj j10
        replace l8 := Md.onS_r l8
        cases Option.some.inj l8
        replace h := Md.onS_r h
        cases Option.some.inj h
        exact aw_ret ⟨rfl, rv r1⟩
      replace j10 := Md.cond_f j10 c40
      refine aw_skip (aw_exit ?_)
      show ∃ _x : Unit, _ = _ ∧ Weak _ _
      exact ⟨(), Option.some.inj j10, wk⟩
    replace j10 := Md.cond_f j10 c37
    refine aw_skip (aw_seq (aw_region ?_))
    iterate 2 refine s_mv ?_
    obtain ⟨g41, j10⟩ := Md.ifp_s j10
    refine aops_step1 rfl (ev_index_in rfl rfl rfl g41 rfl rfl) (aops_step1 rfl (ev_field_in rfl rfl rfl) (aops_step1 rfl (ev_load_in rfl rfl rfl) ?_))
    refine aops_step1 rfl (st_len_str rfl rfl) (s_sa ?_)
    refine aops_nil ?_
    rcases Md.bool_or ((decide (((((x4.1.getD s8_0 default).Text).length : Nat) : Int) < 1))) with q42 | q42
    · replace j10 := Md.cond_t j10 q42
      refine aw_seq ?_
      apply aw_draw 34 ((⟨[], vI ((((x4.1.getD s8_0 default).Text).length : Nat) : Int)⟩ : Add) :: ⟨[], vB (decide (((((x4.1.getD s8_0 default).Text).length : Nat) : Int) < 1))⟩ :: ⟨[], vB (decide (((((x4.1.getD s8_0 default).Text).length : Nat) : Int) < 1))⟩ :: ⟨[], .tup []⟩ :: ⟨[], .tup []⟩ :: ⟨[], .tup []⟩ :: ⟨[], .tup []⟩ :: ⟨[], .tup []⟩ :: ⟨[], .tup []⟩ :: ⟨[], .tup []⟩ :: ⟨[], .tup []⟩ :: ⟨[], .tup []⟩ :: ⟨[], .tup []⟩ :: ⟨[], vB true⟩ :: ⟨[], vB true⟩ :: ⟨[], .tup []⟩ :: ⟨[], .tup []⟩ :: ⟨[], .tup []⟩ :: ⟨[], .tup []⟩ :: ⟨[], .tup []⟩ :: ⟨[], .tup []⟩ :: ⟨[], .tup []⟩ :: ⟨[], .tup []⟩ :: ⟨[], .tup []⟩ :: ⟨[], .tup []⟩ :: ⟨[], .tup []⟩ :: ⟨[], .tup []⟩ :: ⟨[], .tup []⟩ :: ⟨[], .tup []⟩ :: ⟨[], .tup []⟩ :: ⟨[], .tup []⟩ :: ⟨[], .tup []⟩ :: ⟨[], .tup []⟩ :: ⟨[], .tup []⟩ :: []) (by decide) rfl ?hk50x ?hf50x ?ho50x ?hr50x
      case ho50x =>
       refine ob [] (fun S hle hfr => .inl ⟨w0, st_move (hle.e rfl) (hle.d rfl)⟩) (ob [0] (fun S hle hfr => .inl ⟨w0, ev_cmp (hle.e rfl) (hle.e rfl) (hle.d rfl) rfl⟩) ?_)
       refine ob [1, 0] (fun S hle hfr => .inl ⟨w0, st_move (hle.e rfl) (hle.d rfl)⟩) (ob [2, 1, 0] (fun S hle hfr => nw hle q42) ?_)
       refine ob [2, 1, 0] (fun S hle hfr => nw hle q42) (ob [3, 4, 2, 1, 0] (fun S hle hfr => nw hle q42) (ob [5, 2, 3, 4, 1, 0] (fun S hle hfr => nw hle q42) ?_))
       refine ob [6, 2, 5, 1, 3, 4, 0] (fun S hle hfr => nw hle q42) (ob [2, 1, 0] (fun S hle hfr => nw hle q42) ?_)
       refine ob [7, 8, 2, 6, 1, 5, 0, 3, 4] (fun S hle hfr => nw hle q42) (ob [2, 1, 0] (fun S hle hfr => nw hle q42) (ob [10, 2, 1, 0] (fun S hle hfr => nw hle q42) ?_))
       refine ob [9, 11, 2, 7, 8, 10, 1, 6, 0, 5, 3, 4] (fun S hle hfr => nw hle q42) ?_
       refine ob [2, 12, 1, 9, 11, 0, 7, 8, 10, 6, 5, 3, 4] (fun S hle hfr => .inl ⟨w0, st_pick_yes (hle.e rfl) (by first | rfl | exact q42) (hle.e rfl) (hle.d rfl)⟩) ?_
       refine ob [13, 2, 12, 1, 9, 11, 0, 7, 8, 10, 6, 5, 3, 4] (fun S hle hfr => .inl ⟨w0, st_move (hle.e rfl) (hle.d rfl)⟩) ?_
       iterate 3 refine ob [14, 13, 2, 12, 1, 9, 11, 0, 7, 8, 10, 6, 5, 3, 4] (fun S hle hfr => .inr ⟨.inr (.inl ⟨_, _, _, _, rfl, rfl, (hle.ev (x := .tmp _) rfl (by nofun)), (by rw [hle.nt]; rfl), (by first | rfl | (rw [rfl]; rfl))⟩), rfl, hle.d rfl⟩) ?_
       refine ob [16, 17, 14, 13, 2, 12, 1, 9, 11, 0, 7, 8, 10, 6, 5, 3, 4] (fun S hle hfr => .inr ⟨.inr (.inl ⟨_, _, _, _, rfl, rfl, (hle.ev (x := .tmp _) rfl (by nofun)), (by rw [hle.nt]; rfl), (by first | rfl | (rw [rfl]; rfl))⟩), rfl, hle.d rfl⟩) ?_
       refine ob [18, 14, 16, 17, 13, 2, 12, 1, 9, 11, 0, 7, 8, 10, 6, 5, 3, 4] (fun S hle hfr => .inr ⟨.inr (.inl ⟨_, _, _, _, rfl, rfl, (hle.ev (x := .tmp _) rfl (by nofun)), (by rw [hle.nt]; rfl), (by first | rfl | (rw [rfl]; rfl))⟩), rfl, hle.d rfl⟩) ?_
       refine ob [19, 14, 18, 13, 2, 16, 17, 12, 1, 9, 11, 0, 7, 8, 10, 6, 5, 3, 4] (fun S hle hfr => .inr ⟨.inr (.inl ⟨_, _, _, _, rfl, rfl, (hle.ev (x := .tmp _) rfl (by nofun)), (by rw [hle.nt]; rfl), (by first | rfl | (rw [rfl]; rfl))⟩), rfl, hle.d rfl⟩) ?_
       refine ob [14, 13, 2, 12, 1, 9, 11, 0, 7, 8, 10, 6, 5, 3, 4] (fun S hle hfr => .inr ⟨.inr (.inl ⟨_, _, _, _, rfl, rfl, (hle.ev (x := .tmp _) rfl (by nofun)), (by rw [hle.nt]; rfl), (by first | rfl | (rw [rfl]; rfl))⟩), rfl, hle.d rfl⟩) ?_
       refine ob [14, 13, 2, 12, 1, 9, 11, 0, 7, 8, 10, 6, 5, 3, 4] (fun S hle hfr => .inr ⟨.inr (.inl ⟨_, _, _, _, rfl, rfl, (hle.ev (x := .tmp _) rfl (by nofun)), (by rw [hle.nt]; rfl), (by first | rfl | (rw [rfl]; rfl))⟩), rfl, hle.d rfl⟩) ?_
       refine ob [21, 22, 14, 13, 2, 12, 1, 9, 11, 0, 7, 8, 10, 6, 5, 3, 4] (fun S hle hfr => .inr ⟨.inr (.inl ⟨_, _, _, _, rfl, rfl, (hle.ev (x := .tmp _) rfl (by nofun)), (by rw [hle.nt]; rfl), (by first | rfl | (rw [rfl]; rfl))⟩), rfl, hle.d rfl⟩) ?_
       refine ob [23, 14, 21, 22, 13, 2, 12, 1, 9, 11, 0, 7, 8, 10, 6, 5, 3, 4] (fun S hle hfr => .inr ⟨.inr (.inl ⟨_, _, _, _, rfl, rfl, (hle.ev (x := .tmp _) rfl (by nofun)), (by rw [hle.nt]; rfl), (by first | rfl | (rw [rfl]; rfl))⟩), rfl, hle.d rfl⟩) ?_
       refine ob [24, 14, 23, 13, 2, 21, 22, 12, 1, 9, 11, 0, 7, 8, 10, 6, 5, 3, 4] (fun S hle hfr => .inr ⟨.inr (.inl ⟨_, _, _, _, rfl, rfl, (hle.ev (x := .tmp _) rfl (by nofun)), (by rw [hle.nt]; rfl), (by first | rfl | (rw [rfl]; rfl))⟩), rfl, hle.d rfl⟩) ?_
       refine ob [14, 13, 2, 12, 1, 9, 11, 0, 7, 8, 10, 6, 5, 3, 4] (fun S hle hfr => .inr ⟨.inr (.inl ⟨_, _, _, _, rfl, rfl, (hle.ev (x := .tmp _) rfl (by nofun)), (by rw [hle.nt]; rfl), (by first | rfl | (rw [rfl]; rfl))⟩), rfl, hle.d rfl⟩) ?_
       refine ob [25, 26, 14, 24, 13, 2, 23, 12, 1, 21, 22, 9, 11, 0, 7, 8, 10, 6, 5, 3, 4] (fun S hle hfr => .inr ⟨.inr (.inl ⟨_, _, _, _, rfl, rfl, (hle.ev (x := .tmp _) rfl (by nofun)), (by rw [hle.nt]; rfl), (by first | rfl | (rw [rfl]; rfl))⟩), rfl, hle.d rfl⟩) ?_
       refine ob [15, 20, 27, 14, 19, 25, 26, 13, 2, 18, 24, 12, 1, 16, 17, 23, 9, 11, 0, 21, 22, 7, 8, 10, 6, 5, 3, 4] (fun S hle hfr => .inr ⟨.inr (.inl ⟨_, _, _, _, rfl, rfl, (hle.ev (x := .tmp _) rfl (by nofun)), (by rw [hle.nt]; rfl), (by first | rfl | (rw [rfl]; rfl))⟩), rfl, hle.d rfl⟩) ?_
       refine ob [14, 13, 2, 12, 1, 9, 11, 0, 7, 8, 10, 6, 5, 3, 4] (fun S hle hfr => .inr ⟨.inr (.inl ⟨_, _, _, _, rfl, rfl, (hle.ev (x := .tmp _) rfl (by nofun)), (by rw [hle.nt]; rfl), (by first | rfl | (rw [rfl]; rfl))⟩), rfl, hle.d rfl⟩) ?_
       refine ob [14, 13, 2, 12, 1, 9, 11, 0, 7, 8, 10, 6, 5, 3, 4] (fun S hle hfr => .inr ⟨.inr (.inl ⟨_, _, _, _, rfl, rfl, (hle.ev (x := .tmp _) rfl (by nofun)), (by rw [hle.nt]; rfl), (by first | rfl | (rw [rfl]; rfl))⟩), rfl, hle.d rfl⟩) ?_
       refine ob [29, 30, 14, 13, 2, 12, 1, 9, 11, 0, 7, 8, 10, 6, 5, 3, 4] (fun S hle hfr => .inr ⟨.inr (.inl ⟨_, _, _, _, rfl, rfl, (hle.ev (x := .tmp _) rfl (by nofun)), (by rw [hle.nt]; rfl), (by first | rfl | (rw [rfl]; rfl))⟩), rfl, hle.d rfl⟩) ?_
       refine ob [31, 14, 29, 30, 13, 2, 12, 1, 9, 11, 0, 7, 8, 10, 6, 5, 3, 4] (fun S hle hfr => .inr ⟨.inr (.inl ⟨_, _, _, _, rfl, rfl, (hle.ev (x := .tmp _) rfl (by nofun)), (by rw [hle.nt]; rfl), (by first | rfl | (rw [rfl]; rfl))⟩), rfl, hle.d rfl⟩) ?_
       refine ob [32, 14, 31, 13, 2, 29, 30, 12, 1, 9, 11, 0, 7, 8, 10, 6, 5, 3, 4] (fun S hle hfr => .inr ⟨.inr (.inl ⟨_, _, _, _, rfl, rfl, (hle.ev (x := .tmp _) rfl (by nofun)), (by rw [hle.nt]; rfl), (by first | rfl | (rw [rfl]; rfl))⟩), rfl, hle.d rfl⟩) ?_
       exact trivial
      case hk50x => rfl
      case hf50x => rfl
      refine aops_no rfl rfl rfl rfl rfl (by decide) (aops_step1 rfl (st_pick_yes rfl (by first | rfl | exact rfl) rfl rfl) (aops_nil (aw_yes rfl (rfl) (aw_seq (aw_region (s_sa ?_))))))
      refine aops_nil ?_
      cases Option.some.inj j10
      replace l8 := Md.onS_r l8
      cases Option.some.inj l8
      replace h := Md.onS_r h
      cases Option.some.inj h
      exact aw_ret ⟨rfl, rv r1⟩
    replace j10 := Md.cond_f j10 q42
    obtain ⟨g43, j10⟩ := Md.ifp_s j10
    rcases Md.bool_or ((decide ((Md.W (((x4.1.getD s8_0 default).At) + ((((x4.1.getD s8_0 default).Text).length : Nat) : Int))) > ((a0.length : Nat) : Int)))) with q44 | q44
    · replace j10 := Md.cond_t j10 q44
      refine aw_seq ?_
      apply aw_draw 34 ((⟨[], vI ((((x4.1.getD s8_0 default).Text).length : Nat) : Int)⟩ : Add) :: ⟨[], vB (decide (((((x4.1.getD s8_0 default).Text).length : Nat) : Int) < 1))⟩ :: ⟨[], vB (decide (((((x4.1.getD s8_0 default).Text).length : Nat) : Int) < 1))⟩ :: ⟨[], .one (CV.ls c_Token x4.1)⟩ :: ⟨[], vI ((s8_0 : Nat) : Int)⟩ :: ⟨[], .one (.cptr _)⟩ :: ⟨[], .one (.cptr _)⟩ :: ⟨[], vI ((x4.1.getD s8_0 default).At)⟩ :: ⟨[], vI ((((x4.1.getD s8_0 default).Text).length : Nat) : Int)⟩ :: ⟨[], vI (Md.W (((x4.1.getD s8_0 default).At) + ((((x4.1.getD s8_0 default).Text).length : Nat) : Int)))⟩ :: ⟨[], .one (.val (Sv a0))⟩ :: ⟨[], vI ((a0.length : Nat) : Int)⟩ :: ⟨[], vB (decide ((Md.W (((x4.1.getD s8_0 default).At) + ((((x4.1.getD s8_0 default).Text).length : Nat) : Int))) > ((a0.length : Nat) : Int)))⟩ :: ⟨[], vB (decide ((Md.W (((x4.1.getD s8_0 default).At) + ((((x4.1.getD s8_0 default).Text).length : Nat) : Int))) > ((a0.length : Nat) : Int)))⟩ :: ⟨[], vB (decide ((Md.W (((x4.1.getD s8_0 default).At) + ((((x4.1.getD s8_0 default).Text).length : Nat) : Int))) > ((a0.length : Nat) : Int)))⟩ :: ⟨[], .tup []⟩ :: ⟨[], .tup []⟩ :: ⟨[], .tup []⟩ :: ⟨[], .tup []⟩ :: ⟨[], .tup []⟩ :: ⟨[], .tup []⟩ :: ⟨[], .tup []⟩ :: ⟨[], .tup []⟩ :: ⟨[], .tup []⟩ :: ⟨[], .tup []⟩ :: ⟨[], .tup []⟩ :: ⟨[], .tup []⟩ :: ⟨[], .tup []⟩ :: ⟨[], .tup []⟩ :: ⟨[], .tup []⟩ :: ⟨[], .tup []⟩ :: ⟨[], .tup []⟩ :: ⟨[], .tup []⟩ :: ⟨[], .tup []⟩ :: []) (by decide) rfl ?hk51x ?hf51x ?ho51x ?hr51x
      case ho51x =>
       refine ob [] (fun S hle hfr => .inl ⟨w0, st_move (hle.e rfl) (hle.d rfl)⟩) (ob [0] (fun S hle hfr => .inl ⟨w0, ev_cmp (hle.e rfl) (hle.e rfl) (hle.d rfl) rfl⟩) ?_)
       refine ob [1, 0] (fun S hle hfr => .inl ⟨w0, st_move (hle.e rfl) (hle.d rfl)⟩) ?_
       refine ob [2, 1, 0] (fun S hle hfr => .inl ⟨wy hle q42, st_move (hle.e rfl) (hle.d rfl)⟩) ?_
       refine ob [2, 1, 0] (fun S hle hfr => .inl ⟨wy hle q42, st_move (hle.e rfl) (hle.d rfl)⟩) ?_
       refine ob [3, 4, 2, 1, 0] (fun S hle hfr => .inl ⟨wy hle q42, ev_index_in (hle.e rfl) (hle.e rfl) rfl g43 rfl (hle.d rfl)⟩) ?_
       refine ob [5, 2, 3, 4, 1, 0] (fun S hle hfr => .inl ⟨wy hle q42, ev_field_in (hle.e rfl) rfl (hle.d rfl)⟩) ?_
       refine ob [6, 2, 5, 1, 3, 4, 0] (fun S hle hfr => .inl ⟨wy hle q42, ev_load_in (hle.e rfl) rfl (hle.d rfl)⟩) ?_
       refine ob [2, 1, 0] (fun S hle hfr => .inl ⟨wy hle q42, st_move (hle.e rfl) (hle.d rfl)⟩) ?_
       refine ob [7, 8, 2, 6, 1, 5, 0, 3, 4] (fun S hle hfr => .inl ⟨wy hle q42, ev_add (hle.e rfl) (hle.e rfl) (hle.d rfl) (Md.wrap_W _)⟩) ?_
       refine ob [2, 1, 0] (fun S hle hfr => .inl ⟨wy hle q42, st_move (hle.e rfl) (hle.d rfl)⟩) ?_
       refine ob [10, 2, 1, 0] (fun S hle hfr => .inl ⟨wy hle q42, st_len_str (hle.e rfl) (hle.d rfl)⟩) ?_
       refine ob [9, 11, 2, 7, 8, 10, 1, 6, 0, 5, 3, 4] (fun S hle hfr => .inl ⟨wy hle q42, ev_cmp (hle.e rfl) (hle.e rfl) (hle.d rfl) rfl⟩) ?_
       refine ob [2, 12, 1, 9, 11, 0, 7, 8, 10, 6, 5, 3, 4] (fun S hle hfr => .inl ⟨w0, st_pick_no (hle.e rfl) (by first | rfl | exact q42) (hle.e rfl) (hle.d rfl)⟩) ?_
       refine ob [13, 2, 12, 1, 9, 11, 0, 7, 8, 10, 6, 5, 3, 4] (fun S hle hfr => .inl ⟨w0, st_move (hle.e rfl) (hle.d rfl)⟩) ?_
       iterate 3 refine ob [14, 13, 2, 12, 1, 9, 11, 0, 7, 8, 10, 6, 5, 3, 4] (fun S hle hfr => nw hle q44) ?_
       refine ob [16, 17, 14, 13, 2, 12, 1, 9, 11, 0, 7, 8, 10, 6, 5, 3, 4] (fun S hle hfr => nw hle q44) ?_
       refine ob [18, 14, 16, 17, 13, 2, 12, 1, 9, 11, 0, 7, 8, 10, 6, 5, 3, 4] (fun S hle hfr => nw hle q44) ?_
       refine ob [19, 14, 18, 13, 2, 16, 17, 12, 1, 9, 11, 0, 7, 8, 10, 6, 5, 3, 4] (fun S hle hfr => nw hle q44) ?_
       refine ob [14, 13, 2, 12, 1, 9, 11, 0, 7, 8, 10, 6, 5, 3, 4] (fun S hle hfr => nw hle q44) ?_
       refine ob [14, 13, 2, 12, 1, 9, 11, 0, 7, 8, 10, 6, 5, 3, 4] (fun S hle hfr => nw hle q44) ?_
       refine ob [21, 22, 14, 13, 2, 12, 1, 9, 11, 0, 7, 8, 10, 6, 5, 3, 4] (fun S hle hfr => nw hle q44) ?_
       refine ob [23, 14, 21, 22, 13, 2, 12, 1, 9, 11, 0, 7, 8, 10, 6, 5, 3, 4] (fun S hle hfr => nw hle q44) ?_
       refine ob [24, 14, 23, 13, 2, 21, 22, 12, 1, 9, 11, 0, 7, 8, 10, 6, 5, 3, 4] (fun S hle hfr => nw hle q44) ?_
       refine ob [14, 13, 2, 12, 1, 9, 11, 0, 7, 8, 10, 6, 5, 3, 4] (fun S hle hfr => nw hle q44) ?_
       refine ob [25, 26, 14, 24, 13, 2, 23, 12, 1, 21, 22, 9, 11, 0, 7, 8, 10, 6, 5, 3, 4] (fun S hle hfr => nw hle q44) ?_
       refine ob [15, 20, 27, 14, 19, 25, 26, 13, 2, 18, 24, 12, 1, 16, 17, 23, 9, 11, 0, 21, 22, 7, 8, 10, 6, 5, 3, 4] (fun S hle hfr => nw hle q44) ?_
       refine ob [14, 13, 2, 12, 1, 9, 11, 0, 7, 8, 10, 6, 5, 3, 4] (fun S hle hfr => nw hle q44) ?_
       refine ob [14, 13, 2, 12, 1, 9, 11, 0, 7, 8, 10, 6, 5, 3, 4] (fun S hle hfr => nw hle q44) ?_
       refine ob [29, 30, 14, 13, 2, 12, 1, 9, 11, 0, 7, 8, 10, 6, 5, 3, 4] (fun S hle hfr => nw hle q44) ?_
       refine ob [31, 14, 29, 30, 13, 2, 12, 1, 9, 11, 0, 7, 8, 10, 6, 5, 3, 4] (fun S hle hfr => nw hle q44) ?_
       refine ob [32, 14, 31, 13, 2, 29, 30, 12, 1, 9, 11, 0, 7, 8, 10, 6, 5, 3, 4] (fun S hle hfr => nw hle q44) ?_
       exact trivial
      case hk51x => rfl
      case hf51x => rfl
      refine np q44 ?_
      refine s_py q44 ?_
      refine aops_nil (aw_yes rfl (rfl) (aw_seq (aw_region (s_sa ?_))))
      refine aops_nil ?_
      cases Option.some.inj j10
      replace l8 := Md.onS_r l8
      cases Option.some.inj l8
      replace h := Md.onS_r h
      cases Option.some.inj h
      exact aw_ret ⟨rfl, rv r1⟩
    replace j10 := Md.cond_f j10 q44
    obtain ⟨g45, j10⟩ := Md.ifp_s j10
    obtain ⟨g46, j10⟩ := Md.ifp_s j10
    obtain ⟨g47, j10⟩ := Md.ifp_s j10
    obtain ⟨g48, j10⟩ := Md.ifp_s j10
    obtain ⟨g49, j10⟩ := Md.ifp_s j10
    obtain ⟨g50, j10⟩ := Md.ifp_s j10
    refine aw_seq ?_
    apply aw_draw 34 ((⟨[], vI ((((x4.1.getD s8_0 default).Text).length : Nat) : Int)⟩ : Add) :: ⟨[], vB (decide (((((x4.1.getD s8_0 default).Text).length : Nat) : Int) < 1))⟩ :: ⟨[], vB (decide (((((x4.1.getD s8_0 default).Text).length : Nat) : Int) < 1))⟩ :: ⟨[], .one (CV.ls c_Token x4.1)⟩ :: ⟨[], vI ((s8_0 : Nat) : Int)⟩ :: ⟨[], .one (.cptr _)⟩ :: ⟨[], .one (.cptr _)⟩ :: ⟨[], vI ((x4.1.getD s8_0 default).At)⟩ :: ⟨[], vI ((((x4.1.getD s8_0 default).Text).length : Nat) : Int)⟩ :: ⟨[], vI (Md.W (((x4.1.getD s8_0 default).At) + ((((x4.1.getD s8_0 default).Text).length : Nat) : Int)))⟩ :: ⟨[], .one (.val (Sv a0))⟩ :: ⟨[], vI ((a0.length : Nat) : Int)⟩ :: ⟨[], vB (decide ((Md.W (((x4.1.getD s8_0 default).At) + ((((x4.1.getD s8_0 default).Text).length : Nat) : Int))) > ((a0.length : Nat) : Int)))⟩ :: ⟨[], vB (decide ((Md.W (((x4.1.getD s8_0 default).At) + ((((x4.1.getD s8_0 default).Text).length : Nat) : Int))) > ((a0.length : Nat) : Int)))⟩ :: ⟨[], vB (decide ((Md.W (((x4.1.getD s8_0 default).At) + ((((x4.1.getD s8_0 default).Text).length : Nat) : Int))) > ((a0.length : Nat) : Int)))⟩ :: ⟨[], .one (.val (Sv a0))⟩ :: ⟨[], .one (CV.ls c_Token x4.1)⟩ :: ⟨[], vI ((s8_0 : Nat) : Int)⟩ :: ⟨[], .one (.cptr _)⟩ :: ⟨[], .one (.cptr _)⟩ :: ⟨[], vI ((x4.1.getD s8_0 default).At)⟩ :: ⟨[], .one (CV.ls c_Token x4.1)⟩ :: ⟨[], vI ((s8_0 : Nat) : Int)⟩ :: ⟨[], .one (.cptr _)⟩ :: ⟨[], .one (.cptr _)⟩ :: ⟨[], vI ((x4.1.getD s8_0 default).At)⟩ :: ⟨[], vI ((((x4.1.getD s8_0 default).Text).length : Nat) : Int)⟩ :: ⟨[], vI (Md.W (((x4.1.getD s8_0 default).At) + ((((x4.1.getD s8_0 default).Text).length : Nat) : Int)))⟩ :: ⟨[], .one (.val (Sv ((a0.drop ((((x4.1.getD s8_0 default).At)).toNat)).take (((Md.W (((x4.1.getD s8_0 default).At) + ((((x4.1.getD s8_0 default).Text).length : Nat) : Int)))).toNat - ((((x4.1.getD s8_0 default).At)).toNat)))))⟩ :: ⟨[], .one (CV.ls c_Token x4.1)⟩ :: ⟨[], vI ((s8_0 : Nat) : Int)⟩ :: ⟨[], .one (.cptr _)⟩ :: ⟨[], .one (.cptr _)⟩ :: ⟨[], .one (.val (Sv ((x4.1.getD s8_0 default).Text)))⟩ :: []) (by decide) rfl ?hk52x ?hf52x ?ho52x ?hr52x
    case ho52x =>
     refine ob [] (fun S hle hfr => .inl ⟨w0, st_move (hle.e rfl) (hle.d rfl)⟩) (ob [0] (fun S hle hfr => .inl ⟨w0, ev_cmp (hle.e rfl) (hle.e rfl) (hle.d rfl) rfl⟩) ?_)
     refine ob [1, 0] (fun S hle hfr => .inl ⟨w0, st_move (hle.e rfl) (hle.d rfl)⟩) ?_
     refine ob [2, 1, 0] (fun S hle hfr => .inl ⟨wy hle q42, st_move (hle.e rfl) (hle.d rfl)⟩) ?_
     refine ob [2, 1, 0] (fun S hle hfr => .inl ⟨wy hle q42, st_move (hle.e rfl) (hle.d rfl)⟩) ?_
     refine ob [3, 4, 2, 1, 0] (fun S hle hfr => .inl ⟨wy hle q42, ev_index_in (hle.e rfl) (hle.e rfl) rfl g43 rfl (hle.d rfl)⟩) ?_
     refine ob [5, 2, 3, 4, 1, 0] (fun S hle hfr => .inl ⟨wy hle q42, ev_field_in (hle.e rfl) rfl (hle.d rfl)⟩) ?_
     refine ob [6, 2, 5, 1, 3, 4, 0] (fun S hle hfr => .inl ⟨wy hle q42, ev_load_in (hle.e rfl) rfl (hle.d rfl)⟩) ?_
     refine ob [2, 1, 0] (fun S hle hfr => .inl ⟨wy hle q42, st_move (hle.e rfl) (hle.d rfl)⟩) ?_
     refine ob [7, 8, 2, 6, 1, 5, 0, 3, 4] (fun S hle hfr => .inl ⟨wy hle q42, ev_add (hle.e rfl) (hle.e rfl) (hle.d rfl) (Md.wrap_W _)⟩) ?_
     refine ob [2, 1, 0] (fun S hle hfr => .inl ⟨wy hle q42, st_move (hle.e rfl) (hle.d rfl)⟩) ?_
     refine ob [10, 2, 1, 0] (fun S hle hfr => .inl ⟨wy hle q42, st_len_str (hle.e rfl) (hle.d rfl)⟩) ?_
     refine ob [9, 11, 2, 7, 8, 10, 1, 6, 0, 5, 3, 4] (fun S hle hfr => .inl ⟨wy hle q42, ev_cmp (hle.e rfl) (hle.e rfl) (hle.d rfl) rfl⟩) ?_
     refine ob [2, 12, 1, 9, 11, 0, 7, 8, 10, 6, 5, 3, 4] (fun S hle hfr => .inl ⟨w0, st_pick_no (hle.e rfl) (by first | rfl | exact q42) (hle.e rfl) (hle.d rfl)⟩) ?_
     refine ob [13, 2, 12, 1, 9, 11, 0, 7, 8, 10, 6, 5, 3, 4] (fun S hle hfr => .inl ⟨w0, st_move (hle.e rfl) (hle.d rfl)⟩) ?_
     iterate 3 refine ob [14, 13, 2, 12, 1, 9, 11, 0, 7, 8, 10, 6, 5, 3, 4] (fun S hle hfr => .inl ⟨wy hle q44, st_move (hle.e rfl) (hle.d rfl)⟩) ?_
     refine ob [16, 17, 14, 13, 2, 12, 1, 9, 11, 0, 7, 8, 10, 6, 5, 3, 4] (fun S hle hfr => .inl ⟨wy hle q44, ev_index_in (hle.e rfl) (hle.e rfl) rfl g45 rfl (hle.d rfl)⟩) ?_
     refine ob [18, 14, 16, 17, 13, 2, 12, 1, 9, 11, 0, 7, 8, 10, 6, 5, 3, 4] (fun S hle hfr => .inl ⟨wy hle q44, ev_field_in (hle.e rfl) rfl (hle.d rfl)⟩) ?_
     refine ob [19, 14, 18, 13, 2, 16, 17, 12, 1, 9, 11, 0, 7, 8, 10, 6, 5, 3, 4] (fun S hle hfr => .inl ⟨wy hle q44, ev_load_in (hle.e rfl) rfl (hle.d rfl)⟩) ?_
     refine ob [14, 13, 2, 12, 1, 9, 11, 0, 7, 8, 10, 6, 5, 3, 4] (fun S hle hfr => .inl ⟨wy hle q44, st_move (hle.e rfl) (hle.d rfl)⟩) ?_
     refine ob [14, 13, 2, 12, 1, 9, 11, 0, 7, 8, 10, 6, 5, 3, 4] (fun S hle hfr => .inl ⟨wy hle q44, st_move (hle.e rfl) (hle.d rfl)⟩) ?_
     refine ob [21, 22, 14, 13, 2, 12, 1, 9, 11, 0, 7, 8, 10, 6, 5, 3, 4] (fun S hle hfr => .inl ⟨wy hle q44, ev_index_in (hle.e rfl) (hle.e rfl) rfl g46 rfl (hle.d rfl)⟩) ?_
     refine ob [23, 14, 21, 22, 13, 2, 12, 1, 9, 11, 0, 7, 8, 10, 6, 5, 3, 4] (fun S hle hfr => .inl ⟨wy hle q44, ev_field_in (hle.e rfl) rfl (hle.d rfl)⟩) ?_
     refine ob [24, 14, 23, 13, 2, 21, 22, 12, 1, 9, 11, 0, 7, 8, 10, 6, 5, 3, 4] (fun S hle hfr => .inl ⟨wy hle q44, ev_load_in (hle.e rfl) rfl (hle.d rfl)⟩) ?_
     refine ob [14, 13, 2, 12, 1, 9, 11, 0, 7, 8, 10, 6, 5, 3, 4] (fun S hle hfr => .inl ⟨wy hle q44, st_move (hle.e rfl) (hle.d rfl)⟩) ?_
     refine ob [25, 26, 14, 24, 13, 2, 23, 12, 1, 21, 22, 9, 11, 0, 7, 8, 10, 6, 5, 3, 4] (fun S hle hfr => .inl ⟨wy hle q44, ev_add (hle.e rfl) (hle.e rfl) (hle.d rfl) (Md.wrap_W _)⟩) ?_
     refine ob [15, 20, 27, 14, 19, 25, 26, 13, 2, 18, 24, 12, 1, 16, 17, 23, 9, 11, 0, 21, 22, 7, 8, 10, 6, 5, 3, 4] (fun S hle hfr => .inl ⟨wy hle q44, st_cut_both_s (hle.e rfl) ⟨_, _, (hle.e rfl), (Md.nn_eq g47)⟩ ⟨_, _, (hle.e rfl), (Md.nn_eq g48)⟩ g49 (hle.d rfl)⟩) ?_
     refine ob [14, 13, 2, 12, 1, 9, 11, 0, 7, 8, 10, 6, 5, 3, 4] (fun S hle hfr => .inl ⟨wy hle q44, st_move (hle.e rfl) (hle.d rfl)⟩) ?_
     refine ob [14, 13, 2, 12, 1, 9, 11, 0, 7, 8, 10, 6, 5, 3, 4] (fun S hle hfr => .inl ⟨wy hle q44, st_move (hle.e rfl) (hle.d rfl)⟩) ?_
     refine ob [29, 30, 14, 13, 2, 12, 1, 9, 11, 0, 7, 8, 10, 6, 5, 3, 4] (fun S hle hfr => .inl ⟨wy hle q44, ev_index_in (hle.e rfl) (hle.e rfl) rfl g50 rfl (hle.d rfl)⟩) ?_
     refine ob [31, 14, 29, 30, 13, 2, 12, 1, 9, 11, 0, 7, 8, 10, 6, 5, 3, 4] (fun S hle hfr => .inl ⟨wy hle q44, ev_field_in (hle.e rfl) rfl (hle.d rfl)⟩) ?_
     refine ob [32, 14, 31, 13, 2, 29, 30, 12, 1, 9, 11, 0, 7, 8, 10, 6, 5, 3, 4] (fun S hle hfr => .inl ⟨wy hle q44, ev_load_in (hle.e rfl) rfl (hle.d rfl)⟩) ?_
     exact trivial
    case hk52x => rfl
    case hf52x => rfl
    refine aops_yes rfl rfl rfl rfl q44 (st_str_ne rfl rfl rfl) (s_pn q44 ?_)
    refine aops_nil ?_
    refine aw_cond rfl (fun c51 => ?_) (fun c51 => ?_)
    · replace j10 := Md.cond_t j10 c51
      refine aw_seq (aw_region (s_sa ?_))
      refine aops_nil ?_
      cases Option.some.inj j10
      replace l8 := Md.onS_r l8
      cases Option.some.inj l8
      replace h := Md.onS_r h
      cases Option.some.inj h
      exact aw_ret ⟨rfl, rv r1⟩
    replace j10 := Md.cond_f j10 c51
    refine aw_skip ?_
    show ∃ _x : Unit, _ = _ ∧ Weak _ _
    exact ⟨(), Option.some.inj j10, wk⟩
  replace l8 := Md.cond_f l8 c9
  refine aw_exit ?_
  show ∃ _x : Unit, _ = _ ∧ Weak _ _
  exact ⟨(), Option.some.inj l8, wk⟩
end Md
end Go.Proofs.YtjpiiejdaiaocaaDoor
