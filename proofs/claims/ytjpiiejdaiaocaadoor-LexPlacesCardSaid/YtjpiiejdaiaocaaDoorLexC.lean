/-
  LexC: where a function's model gives a value, the function returns what reads as it (printed by wip/tools/auto.py). Condition of each: the model gives a value.
-/
import Derived.Test.YtjpiiejdaiaocaaDoorLexCM
import Derived.Test.YtjpiiejdaiaocaaDoorTy
import Derived.Test.YtjpiiejdaiaocaaDoorAbsS
import Derived.Test.YtjpiiejdaiaocaaDoorLexB
namespace Go.Proofs.YtjpiiejdaiaocaaDoor
open Go.ChangeShapes Go.WideShapes Go.RowKit
open Abs
set_option linter.unusedVariables false
set_option linter.unusedSimpArgs false
set_option maxRecDepth 10000
namespace Md
set_option maxHeartbeats 2000000 in
theorem lexer_Tokens_fn (k : Nat) (a0 : List UInt8) (r : (List Token) × Int × Int) (h : lexer_Tokens k a0 = some r) : FnC Tryd.prog 29 [.one (.val (Sv a0))] [] (Det (.tup [.one (CV.ls c_Token r.1), vI r.2.1, vI r.2.2]) []) := by
  unfold lexer_Tokens at h
  refine fn_intro' 46 Tryd.func29 rfl rfl rfl (aw_seq (aw_region ?_))
  iterate 3 refine s_sa ?_
  refine aops_nil (aw_seq (aw_seq (aw_region (s_mv ?_))))
  refine aops_step1 rfl (st_len_str rfl rfl) (s_cm ?_)
  refine aops_nil ?_
  refine aw_cond rfl (fun c1 => ?_) (fun c1 => ?_)
  · replace h := Md.cond_t h c1
    refine aw_seq (aw_region ?_)
    iterate 3 refine s_sa ?_
    refine aops_nil ?_
    cases Option.some.inj h
    exact aw_ret ⟨rfl, rv (rn (.cons o1 (.cons o1 (.cons o1 .nil))))⟩
  replace h := Md.cond_f h c1
  refine aw_skip (aw_seq (aw_seq (aw_region (s_mv ?_))))
  obtain ⟨x2, hx2, h⟩ := Md.bind_s h
  refine aops_step1 rfl (ev_call_v (lexer_skip_fn k a0 x2 hx2) rfl [] ai rfl rfl rfl (.inl rfl) rfl) (s_sa ?_)
  refine aops_nil (aw_block (aw_own_nil 2 0 49 4 (lsEl c_Token []) rfl rfl ?_))
  obtain ⟨o3, ho3, h⟩ := Md.bind_s h
  refine aw_loop_x (ι := {p : Nat × Int × (List Token) // lexer_Tokens_loop1 k a0 p.1 p.2.1 p.2.2 = some o3}) (fun p => (⟨46, [], [(0, .one (.val (Sv a0))), (2, .one (.own 0)), (5, vI p.1.2.1)], [(0, some (.row 49 4 p.1.2.2.length (lsEl c_Token p.1.2.2)))]⟩ : ASt)) (fun p => p.1.1) ⟨(k, x2, ([] : List Token)), ho3⟩ wk 0 (ε := (List Token)) (fun x => (⟨46, [], [(2, .one (.own 0))], [(0, some (.row 49 4 x.length (lsEl c_Token x)))]⟩ : ASt)) (fun x => Sum.inl x = o3) (fun _ _ w h => aw_weak w h) ?_ ?_
  · intro x3_0 hI3
    subst hI3
    replace h := Md.onS_l h
    change AW _ _ (⟨46, [], [(2, .one (.own 0))], [(0, some (.row 49 4 x3_0.length (lsEl c_Token x3_0)))]⟩ : ASt) _
    refine aw_seq (aw_region (s_mv ?_))
    iterate 3 refine s_sa ?_
    refine aops_nil ?_
    cases Option.some.inj h
    refine aw_freeze 0 rfl ?_
    exact aw_ret ⟨rfl, rv (rn (.cons o1 (.cons o1 (.cons o1 .nil))))⟩
  intro p3
  obtain ⟨⟨n3, s3_0, s3_1⟩, l3⟩ := p3
  change AW _ _ (⟨46, [], [(0, .one (.val (Sv a0))), (2, .one (.own 0)), (5, vI s3_0)], [(0, some (.row 49 4 s3_1.length (lsEl c_Token s3_1)))]⟩ : ASt) _
  replace l3 : lexer_Tokens_loop1 k a0 n3 s3_0 s3_1 = some o3 := l3
  rcases n3 with _ | n3
  · exact absurd (show none = some o3 from l3) nofun
  rw [lexer_Tokens_loop1] at l3
  refine aw_seq (aw_seq (aw_region ?_))
  iterate 2 refine s_mv ?_
  refine aops_step1 rfl (st_len_str rfl rfl) (s_cm ?_)
  refine aops_nil ?_
  refine aw_cond rfl (fun c4 => ?_) (fun c4 => ?_)
  · replace l3 := Md.cond_t l3 c4
    refine aw_skip (aw_seq (aw_block (aw_seq (aw_region ?_))))
    iterate 2 refine s_mv ?_
    obtain ⟨g5, l3⟩ := Md.ifp_s l3
    obtain ⟨g6, l3⟩ := Md.ifp_s l3
    refine aops_step1 rfl (st_cut_lo_s rfl ⟨_, _, rfl, (Md.nn_eq g5)⟩ g6 rfl) ?_
    obtain ⟨x7, hx7, l3⟩ := Md.bind_s l3
    refine aops_step1 rfl (ev_call_v (lexer_token_fn k (a0.drop ((s3_0).toNat)) x7 hx7) rfl [] ai rfl rfl rfl (.inl rfl) rfl) (s_mt ?_)
    iterate 3 refine s_ex ?_
    refine aops_step1 rfl (st_alloc (cs := [cI 0, .val (Sv []), cI 0, cI 0]) 1 rfl rfl rfl rfl rfl) (s_st [_, _, _, _] ?_)
    iterate 2 refine s_sa ?_
    refine aops_nil (aw_seq (aw_seq (aw_region (s_mv ?_))))
    refine s_cm ?_
    refine aops_nil ?_
    refine aw_cond rfl (fun c8 => ?_) (fun c8 => ?_)
    · replace l3 := Md.cond_t l3 c8
      refine aw_seq (aw_region ?_)
      iterate 2 refine s_mv ?_
      iterate 3 refine s_sa ?_
      refine aops_nil ?_
      cases Option.some.inj l3
      replace h := Md.onS_r h
      cases Option.some.inj h
      exact aw_ret ⟨rfl, rv (rn (.cons o1 (.cons o1 (.cons o1 .nil))))⟩
    replace l3 := Md.cond_f l3 c8
    refine aw_skip (aw_seq (aw_region (s_mv ?_)))
    refine s_fd ?_
    refine s_st [_, _, _, _] ?_
    refine aops_nil (aw_seq (aw_region (s_mv ?_)))
    refine s_ls [_, _, _, _] ?_
    refine aops_step1 rfl (st_slice_lit (el := lsEl c_Token [(⟨x7.1.Kind, x7.1.Text, x7.1.Num, s3_0⟩ : Token)]) 2 rfl rfl rfl rfl rfl rfl rfl rfl (lit_el c_Token 4 [(⟨x7.1.Kind, x7.1.Text, x7.1.Num, s3_0⟩ : Token)] (fun _ => rfl)) rfl) ?_
    obtain ⟨g9, l3⟩ := Md.ifp_s l3
    refine aops_step1 rfl (st_app_ls (f := c_Token) s3_1 [(⟨x7.1.Kind, x7.1.Text, x7.1.Num, s3_0⟩ : Token)] (fun _ => rfl) rfl rfl (.inr ⟨_, _, rfl, rfl⟩) (by omega) (by omega) rfl) (s_sa ?_)
    refine aops_nil (aw_region ?_)
    iterate 2 refine s_mv ?_
    refine aops_step1 rfl (ev_add rfl rfl rfl (Md.wrap_W _)) (s_sa ?_)
    refine aops_nil (aw_region ?_)
    iterate 3 refine s_mv ?_
    obtain ⟨g10, l3⟩ := Md.ifp_s l3
    obtain ⟨g11, l3⟩ := Md.ifp_s l3
    refine aops_step1 rfl (st_cut_lo_s rfl ⟨_, _, rfl, (Md.nn_eq g10)⟩ g11 rfl) ?_
    obtain ⟨x12, hx12, l3⟩ := Md.bind_s l3
    refine aops_step1 rfl (ev_call_v (lexer_skip_fn k (a0.drop (((Md.W (s3_0 + x7.2.1))).toNat)) x12 hx12) rfl [] ai rfl rfl rfl (.inl rfl) rfl) ?_
    refine aops_step1 rfl (ev_add rfl rfl rfl (Md.wrap_W _)) (s_sa ?_)
    refine aops_nil ?_
    exact ⟨⟨(n3, (Md.W ((Md.W (s3_0 + x7.2.1)) + x12)), (s3_1 ++ [(⟨x7.1.Kind, x7.1.Text, x7.1.Num, s3_0⟩ : Token)])), l3⟩, Nat.lt_succ_self _, wk⟩
  replace l3 := Md.cond_f l3 c4
  refine aw_exit ?_
  show ∃ _x : (List Token), _ = _ ∧ Weak _ _
  exact ⟨s3_1, Option.some.inj l3, wk⟩
set_option maxHeartbeats 2000000 in
theorem lexer_Quote_fn (k : Nat) (a0 : List UInt8) (r : (List UInt8)) (h : lexer_Quote k a0 = some r) : FnC Tryd.prog 36 [.one (.val (Sv a0))] [] (Det (.one (.val (Sv r))) []) := by
  unfold lexer_Quote at h
  refine fn_intro' 47 Tryd.func36 rfl rfl rfl (aw_seq (aw_region (s_sa ?_)))
  refine aops_nil (aw_seq (aw_region ?_))
  refine aops_step1 rfl (st_slice_lit (el := lsEl byC [(34 : UInt8)]) 0 rfl rfl rfl rfl rfl rfl rfl rfl (lit_el byC 1 [(34 : UInt8)] (fun _ => rfl)) rfl) (s_sa ?_)
  refine aops_nil (aw_seq (aw_seq (aw_region (s_mv ?_))))
  refine aops_step1 rfl (st_len_str rfl rfl) (s_mv ?_)
  refine aops_nil (aw_block ?_)
  obtain ⟨o1, ho1, h⟩ := Md.bind_s h
  refine aw_loop_x (ι := {p : Nat × Nat × (List UInt8) // lexer_Quote_loop1 k a0 p.1 p.2.1 p.2.2 = some o1}) (fun p => (⟨47, [], [(0, .one (.val (Sv a0))), (3, .one (.own 0)), (8, vI ((a0.length : Nat) : Int)), (9, vI ((p.1.2.1 : Nat) : Int))], [(0, some (.row 5 1 p.1.2.2.length (lsEl byC p.1.2.2)))]⟩ : ASt)) (fun p => p.1.1) ⟨(k, 0, [(34 : UInt8)]), ho1⟩ wk 0 (ε := (List UInt8)) (fun x => (⟨47, [], [(3, .one (.own 0))], [(0, some (.row 5 1 x.length (lsEl byC x)))]⟩ : ASt)) (fun x => x = o1) (fun _ _ w h => aw_weak w h) ?_ ?_
  · intro x1_0 hI1
    subst hI1
    change AW _ _ (⟨47, [], [(3, .one (.own 0))], [(0, some (.row 5 1 x1_0.length (lsEl byC x1_0)))]⟩ : ASt) _
    refine aw_seq (aw_region (s_mv ?_))
    refine aops_step1 rfl (st_slice_lit (el := lsEl byC [(34 : UInt8)]) 1 rfl rfl rfl rfl rfl rfl rfl rfl (lit_el byC 1 [(34 : UInt8)] (fun _ => rfl)) rfl) ?_
    obtain ⟨g2, h⟩ := Md.ifp_s h
    refine aops_step1 rfl (st_app_ls (f := byC) x1_0 [(34 : UInt8)] (fun _ => rfl) rfl rfl (.inr ⟨_, _, rfl, rfl⟩) (by omega) (by omega) rfl) ?_
    refine aops_step1 rfl (ev_str_bytes (.inr ⟨_, _, rfl, rfl⟩) Tryd.underlying42 Tryd.underlying5 Tryd.underlying9 rfl) (s_sa ?_)
    refine aops_nil ?_
    cases Option.some.inj h
    exact aw_ret ⟨rfl, rv r1⟩
  intro p1
  obtain ⟨⟨n1, s1_0, s1_1⟩, l1⟩ := p1
  change AW _ _ (⟨47, [], [(0, .one (.val (Sv a0))), (3, .one (.own 0)), (8, vI ((a0.length : Nat) : Int)), (9, vI ((s1_0 : Nat) : Int))], [(0, some (.row 5 1 s1_1.length (lsEl byC s1_1)))]⟩ : ASt) _
  replace l1 : lexer_Quote_loop1 k a0 n1 s1_0 s1_1 = some o1 := l1
  rcases n1 with _ | n1
  · exact absurd (show none = some o1 from l1) nofun
  rw [lexer_Quote_loop1] at l1
  refine aw_seq (aw_region (s_cm ?_))
  refine aops_nil (aw_seq ?_)
  refine aw_cond rfl (fun c3 => ?_) (fun c3 => ?_)
  · replace l1 := Md.cond_t l1 c3
    refine aw_skip ?_
    obtain ⟨o4, j4, l1⟩ := Md.bind_s l1
    refine aw_cut (ε := (List UInt8)) (fun x => (⟨47, [], [(0, .one (.val (Sv a0))), (3, .one (.own 0)), (8, vI ((a0.length : Nat) : Int)), (9, vI ((s1_0 : Nat) : Int))], [(0, some (.row 5 1 x.length (lsEl byC x)))]⟩ : ASt)) (fun x => x = o4) ?_ ?_
    · intro x4_0 hI4
      subst hI4
      change AW _ _ (⟨47, [], [(0, .one (.val (Sv a0))), (3, .one (.own 0)), (8, vI ((a0.length : Nat) : Int)), (9, vI ((s1_0 : Nat) : Int))], [(0, some (.row 5 1 x4_0.length (lsEl byC x4_0)))]⟩ : ASt) _
      refine aw_region ?_
      obtain ⟨g5, l1⟩ := Md.ifp_s l1
      refine aops_step1 rfl (ev_add rfl rfl rfl (Md.nat_add g5)) (s_mv ?_)
      refine aops_nil ?_
      exact ⟨⟨(n1, (s1_0 + 1), x4_0), l1⟩, Nat.lt_succ_self _, wk⟩
    refine aw_block (aw_seq (aw_region (s_mv ?_)))
    refine s_sa ?_
    refine aops_nil (aw_seq (aw_region ?_))
    iterate 2 refine s_mv ?_
    obtain ⟨g6, j4⟩ := Md.ifp_s j4
    refine aops_step1 rfl (st_index_str rfl rfl rfl g6 rfl) (s_sa ?_)
    refine aops_nil (aw_block (aw_seq (aw_region (s_mv ?_))))
    obtain ⟨x7, hx7, j4⟩ := Md.bind_s j4
    refine aops_step1 rfl (ev_call_v (lexer_plain_fn k (a0.getD s1_0 0) x7 hx7) rfl [] ai rfl rfl rfl (.inl rfl) rfl) (s_sa ?_)
    refine aops_nil ?_
    refine aw_cond rfl (fun c8 => ?_) (fun c8 => ?_)
    · replace j4 := Md.cond_t j4 c8
      refine aw_region ?_
      iterate 2 refine s_mv ?_
      refine aops_step1 rfl (st_slice_lit (el := lsEl byC [(a0.getD s1_0 0)]) 1 rfl rfl rfl rfl rfl rfl rfl rfl (lit_el byC 1 [(a0.getD s1_0 0)] (fun _ => rfl)) rfl) ?_
      obtain ⟨g9, j4⟩ := Md.ifp_s j4
      refine aops_step1 rfl (st_app_ls (f := byC) s1_1 [(a0.getD s1_0 0)] (fun _ => rfl) rfl rfl (.inr ⟨_, _, rfl, rfl⟩) (by omega) (by omega) rfl) (s_sa ?_)
      refine aops_nil ?_
      show ∃ _x : (List UInt8), _ = _ ∧ Weak _ _
      exact ⟨(s1_1 ++ [(a0.getD s1_0 0)]), Option.some.inj j4, wk⟩
    replace j4 := Md.cond_f j4 c8
    refine aw_seq (aw_region (s_mv ?_))
    refine s_cm ?_
    refine s_mv ?_
    refine aops_mid 3 (⟨47, [], [(0, .one (.val (Sv a0))), (3, .one (.own 0)), (5, .one (.val (.int .u8 (((a0.getD s1_0 0)).toNat : Int)))), (8, vI ((a0.length : Nat) : Int)), (9, vI ((s1_0 : Nat) : Int)), (37, vB (((((a0.getD s1_0 0)).toNat : Int) == 34) || ((((a0.getD s1_0 0)).toNat : Int) == 92)))], [(0, some (.row 5 1 s1_1.length (lsEl byC s1_1)))]⟩ : ASt) ?_ ?_
    · rcases Md.bool_or (((((a0.getD s1_0 0)).toNat : Int) == 34)) with q10 | q10
      · skip
        iterate 2 refine np q10 ?_
        refine s_py q10 ?_
        refine aops_nil ?_
        exact wq q10
      refine y_mv q10 ?_
      refine y_cm q10 ?_
      refine s_pn q10 ?_
      refine aops_nil ?_
      exact wq q10
    refine s_sa ?_
    refine aops_nil ?_
    refine aw_cond rfl (fun c11 => ?_) (fun c11 => ?_)
    · replace j4 := Md.cond_t j4 c11
      refine aw_region ?_
      iterate 2 refine s_mv ?_
      refine aops_step1 rfl (st_slice_lit (el := lsEl byC [(92 : UInt8), (a0.getD s1_0 0)]) 1 rfl rfl rfl rfl rfl rfl rfl rfl (lit_el byC 1 [(92 : UInt8), (a0.getD s1_0 0)] (fun _ => rfl)) rfl) ?_
      obtain ⟨g12, j4⟩ := Md.ifp_s j4
      refine aops_step1 rfl (st_app_ls (f := byC) s1_1 [(92 : UInt8), (a0.getD s1_0 0)] (fun _ => rfl) rfl rfl (.inr ⟨_, _, rfl, rfl⟩) (by omega) (by omega) rfl) (s_sa ?_)
      refine aops_nil ?_
      show ∃ _x : (List UInt8), _ = _ ∧ Weak _ _
      exact ⟨(s1_1 ++ [(92 : UInt8), (a0.getD s1_0 0)]), Option.some.inj j4, wk⟩
    replace j4 := Md.cond_f j4 c11
    obtain ⟨g13, j4⟩ := Md.ifp_s j4
    obtain ⟨g14, j4⟩ := Md.ifp_s j4
    obtain ⟨g15, j4⟩ := Md.ifp_s j4
    apply aw_draw 8 ((⟨[], .one (.own 0)⟩ : Add) :: ⟨[], .one (.val (.int .u8 (((a0.getD s1_0 0)).toNat : Int)))⟩ :: ⟨[], .one (.val (.int .u8 (((Md.shr8 (a0.getD s1_0 0) 4)).toNat : Int)))⟩ :: ⟨[], .one (.val (.int .u8 (((([48, 49, 50, 51, 52, 53, 54, 55, 56, 57, 97, 98, 99, 100, 101, 102] : List UInt8).getD ((Md.shr8 (a0.getD s1_0 0) 4).toNat) 0)).toNat : Int)))⟩ :: ⟨[], .one (.val (.int .u8 (((a0.getD s1_0 0)).toNat : Int)))⟩ :: ⟨[], .one (.val (.int .u8 ((((a0.getD s1_0 0) &&& (15 : UInt8))).toNat : Int)))⟩ :: ⟨[], .one (.val (.int .u8 (((([48, 49, 50, 51, 52, 53, 54, 55, 56, 57, 97, 98, 99, 100, 101, 102] : List UInt8).getD (((a0.getD s1_0 0) &&& (15 : UInt8)).toNat) 0)).toNat : Int)))⟩ :: ⟨[], .one (CV.ls byC [(92 : UInt8), (120 : UInt8), (([48, 49, 50, 51, 52, 53, 54, 55, 56, 57, 97, 98, 99, 100, 101, 102] : List UInt8).getD ((Md.shr8 (a0.getD s1_0 0) 4).toNat) 0), (([48, 49, 50, 51, 52, 53, 54, 55, 56, 57, 97, 98, 99, 100, 101, 102] : List UInt8).getD (((a0.getD s1_0 0) &&& (15 : UInt8)).toNat) 0)])⟩ :: []) (by decide) rfl ?hk6x ?hf6x ?ho6x ?hr6x
    case ho6x =>
     refine ob [] (fun S hle hfr => .inl ⟨w0, st_move (hle.e rfl) (hle.d rfl)⟩) (ob [] (fun S hle hfr => .inl ⟨w0, st_move (hle.e rfl) (hle.d rfl)⟩) ?_)
     refine ob [1] (fun S hle hfr => .inl ⟨w0, ev_shr (hle.e rfl) (hle.e rfl) (hle.d rfl) (by decide) (Md.shr_u8 (a0.getD s1_0 0) (Md.nat_toNat 4))⟩) ?_
     refine ob [2, 1] (fun S hle hfr => .inl ⟨w0, st_index_str (hle.e rfl) (hle.e rfl) rfl g13 (hle.d rfl)⟩) ?_
     refine ob [] (fun S hle hfr => .inl ⟨w0, st_move (hle.e rfl) (hle.d rfl)⟩) ?_
     refine ob [4] (fun S hle hfr => .inl ⟨w0, ev_bits (hle.e rfl) (hle.e rfl) (hle.d rfl) rfl (Md.and_u8 (a0.getD s1_0 0) (15 : UInt8))⟩) ?_
     refine ob [5, 4] (fun S hle hfr => .inl ⟨w0, st_index_str (hle.e rfl) (hle.e rfl) rfl g14 (hle.d rfl)⟩) ?_
     refine ob [3, 6, 2, 5, 1, 4] (fun S hle hfr => .inl ⟨w0, st_slice_lit_z (el := lsEl byC [(92 : UInt8), (120 : UInt8), (([48, 49, 50, 51, 52, 53, 54, 55, 56, 57, 97, 98, 99, 100, 101, 102] : List UInt8).getD ((Md.shr8 (a0.getD s1_0 0) 4).toNat) 0), (([48, 49, 50, 51, 52, 53, 54, 55, 56, 57, 97, 98, 99, 100, 101, 102] : List UInt8).getD (((a0.getD s1_0 0) &&& (15 : UInt8)).toNat) 0)]) (map_ev2 (.cons (hle.e rfl) (.cons (hle.e rfl) (.cons (hle.e rfl) (.cons (hle.e rfl) (.nil)))))) rfl rfl rfl rfl rfl rfl (lit_el byC 1 [(92 : UInt8), (120 : UInt8), (([48, 49, 50, 51, 52, 53, 54, 55, 56, 57, 97, 98, 99, 100, 101, 102] : List UInt8).getD ((Md.shr8 (a0.getD s1_0 0) 4).toNat) 0), (([48, 49, 50, 51, 52, 53, 54, 55, 56, 57, 97, 98, 99, 100, 101, 102] : List UInt8).getD (((a0.getD s1_0 0) &&& (15 : UInt8)).toNat) 0)] (fun _ => rfl)) (hle.d rfl)⟩) ?_
     exact trivial
    case hk6x => rfl
    case hf6x => rfl
    refine aops_step1 rfl (st_app_ls (f := byC) s1_1 [(92 : UInt8), (120 : UInt8), (([48, 49, 50, 51, 52, 53, 54, 55, 56, 57, 97, 98, 99, 100, 101, 102] : List UInt8).getD ((Md.shr8 (a0.getD s1_0 0) 4).toNat) 0), (([48, 49, 50, 51, 52, 53, 54, 55, 56, 57, 97, 98, 99, 100, 101, 102] : List UInt8).getD (((a0.getD s1_0 0) &&& (15 : UInt8)).toNat) 0)] (fun _ => rfl) rfl rfl (.inl rfl) (by omega) (by omega) rfl) (s_sa ?_)
    refine aops_nil ?_
    show ∃ _x : (List UInt8), _ = _ ∧ Weak _ _
    exact ⟨(s1_1 ++ [(92 : UInt8), (120 : UInt8), (([48, 49, 50, 51, 52, 53, 54, 55, 56, 57, 97, 98, 99, 100, 101, 102] : List UInt8).getD ((Md.shr8 (a0.getD s1_0 0) 4).toNat) 0), (([48, 49, 50, 51, 52, 53, 54, 55, 56, 57, 97, 98, 99, 100, 101, 102] : List UInt8).getD (((a0.getD s1_0 0) &&& (15 : UInt8)).toNat) 0)]), Option.some.inj j4, wk⟩
  replace l1 := Md.cond_f l1 c3
  refine aw_exit ?_
  show ∃ _x : (List UInt8), _ = _ ∧ Weak _ _
  exact ⟨s1_1, Option.some.inj l1, wk⟩
set_option maxHeartbeats 2000000 in
theorem lexer_IsName_fn (k : Nat) (a0 : List UInt8) (r : Bool) (h : lexer_IsName k a0 = some r) : FnC Tryd.prog 32 [.one (.val (Sv a0))] [] (Det (vB r) []) := by
  unfold lexer_IsName at h
  refine fn_intro' 22 Tryd.func32 rfl rfl rfl (aw_seq (aw_region (s_sa ?_)))
  refine aops_nil (aw_seq (aw_region (s_mv ?_)))
  refine aops_step1 rfl (st_str_ne rfl rfl rfl) (s_mv ?_)
  refine aops_mid 4 (⟨22, [], [(0, .one (.val (Sv a0))), (2, vB false), (9, vB ((!(decide (a0 = ([] : List UInt8)))) && (decide (((a0.length : Nat) : Int) ≤ 32))))], []⟩ : ASt) ?_ ?_
  · rcases Md.bool_or ((!(decide (a0 = ([] : List UInt8))))) with q1 | q1
    · skip
      refine y_mv q1 ?_
      refine aops_yes rfl rfl rfl rfl q1 (st_len_str rfl rfl) (y_cm q1 ?_)
      refine s_py q1 ?_
      refine aops_nil ?_
      exact wq q1
    iterate 3 refine np q1 ?_
    refine s_pn q1 ?_
    refine aops_nil ?_
    exact wq q1
  refine s_mv ?_
  obtain ⟨o2, j2, h⟩ := Md.bind_s h
  refine aops_cut 6 (ε := Bool) (fun x2 => (⟨22, [], [(0, .one (.val (Sv a0))), (2, vB false), (16, vB x2)], []⟩ : ASt)) (fun x2 => x2 = o2) ?_ ?_
  · intro x2 hI2
    subst hI2
    change AOps _ _ _ (⟨22, [], [(0, .one (.val (Sv a0))), (2, vB false), (16, vB x2)], []⟩ : ASt) _
    refine s_mv ?_
    obtain ⟨o3, j3, h⟩ := Md.bind_s h
    refine aops_cut 4 (ε := Bool) (fun x3 => (⟨22, [], [(2, vB false), (21, vB x3)], []⟩ : ASt)) (fun x3 => x3 = o3) ?_ ?_
    · intro x3 hI3
      subst hI3
      change AOps _ _ _ (⟨22, [], [(2, vB false), (21, vB x3)], []⟩ : ASt) _
      refine s_sa ?_
      refine aops_nil ?_
      cases Option.some.inj h
      exact aw_ret ⟨rfl, rv r1⟩
    rcases Md.bool_or (x2) with q3 | q3
    · replace j3 := Md.cond_t j3 q3
      refine y_mv q3 ?_
      obtain ⟨x4, hx4, j3⟩ := Md.bind_s j3
      refine aops_yes rfl rfl rfl rfl q3 (ev_call_v (lexer_IsKeyword_fn k a0 x4 hx4) rfl [] ai rfl rfl rfl (.inl rfl) rfl) (y_nt q3 ?_)
      refine s_py q3 ?_
      refine aops_nil ?_
      show ∃ _x : Bool, _ = _ ∧ Weak _ _
      exact ⟨(!x4), Option.some.inj j3, wk⟩
    replace j3 := Md.cond_f j3 q3
    iterate 3 refine np q3 ?_
    refine s_pn q3 ?_
    refine aops_nil ?_
    show ∃ _x : Bool, _ = _ ∧ Weak _ _
    exact ⟨false, Option.some.inj j3, wk⟩
  rcases Md.bool_or (((!(decide (a0 = ([] : List UInt8)))) && (decide (((a0.length : Nat) : Int) ≤ 32)))) with q2 | q2
  · replace j2 := Md.cond_t j2 q2
    refine y_mv q2 ?_
    obtain ⟨x5, hx5, j2⟩ := Md.bind_s j2
    refine aops_yes rfl rfl rfl rfl q2 (ev_call_v (lexer_word_fn k a0 x5 hx5) rfl [] ai rfl rfl rfl (.inl rfl) rfl) (y_mv q2 ?_)
    refine aops_yes rfl rfl rfl rfl q2 (st_len_str rfl rfl) (y_cm q2 ?_)
    refine s_py q2 ?_
    refine aops_nil ?_
    show ∃ _x : Bool, _ = _ ∧ Weak _ _
    exact ⟨(x5 == ((a0.length : Nat) : Int)), Option.some.inj j2, wk⟩
  replace j2 := Md.cond_f j2 q2
  iterate 5 refine np q2 ?_
  refine s_pn q2 ?_
  refine aops_nil ?_
  show ∃ _x : Bool, _ = _ ∧ Weak _ _
  exact ⟨false, Option.some.inj j2, wk⟩
end Md
end Go.Proofs.YtjpiiejdaiaocaaDoor
