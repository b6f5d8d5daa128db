/-
  LexB: where a function's model gives a value, the function returns what reads as it (printed by wip/tools/auto.py). Condition of each: the model gives a value.
-/
import Derived.Test.YtjpiiejdaiaocaaDoorLexBM
import Derived.Test.YtjpiiejdaiaocaaDoorTy
import Derived.Test.YtjpiiejdaiaocaaDoorAbsZ
import Derived.Test.YtjpiiejdaiaocaaDoorLexA
namespace Go.Proofs.YtjpiiejdaiaocaaDoor
open Go.ChangeShapes Go.WideShapes Go.RowKit
open Abs
set_option linter.unusedVariables false
set_option linter.unusedSimpArgs false
set_option maxRecDepth 10000
namespace Md
def c_Token (x : Token) : List CV := [cI x.Kind, .val (Sv x.Text), cI x.Num, cI x.At]
def c_Arr6Str (x : Arr6Str) : List CV := [.val (Sv x.x0), .val (Sv x.x1), .val (Sv x.x2), .val (Sv x.x3), .val (Sv x.x4), .val (Sv x.x5)]
def c_Str (x : List UInt8) : List CV := [.val (Sv x)]
theorem get_Arr6Str (x : Arr6Str) (i : Int) (h : 0 ≤ i ∧ i < 6) : ∃ j : Nat, i = (j : Int) ∧ Nat.blt j 6 = true ∧ ((c_Arr6Str x).drop (j * 1)).take 1 = c_Str (x.get i) ∧ Nat.ble (j * 1 + 1) (c_Arr6Str x).length = true := by
  rcases (by omega : i = 0 ∨ i = 1 ∨ i = 2 ∨ i = 3 ∨ i = 4 ∨ i = 5) with rfl | rfl | rfl | rfl | rfl | rfl
  · exact ⟨0, rfl, rfl, rfl, rfl⟩
  · exact ⟨1, rfl, rfl, rfl, rfl⟩
  · exact ⟨2, rfl, rfl, rfl, rfl⟩
  · exact ⟨3, rfl, rfl, rfl, rfl⟩
  · exact ⟨4, rfl, rfl, rfl, rfl⟩
  · exact ⟨5, rfl, rfl, rfl, rfl⟩
set_option maxHeartbeats 2000000 in
theorem lexer_number_fn (k : Nat) (a0 : List UInt8) (r : Token × Int × Int) (h : lexer_number k a0 = some r) : FnC Tryd.prog 69 [.one (.val (Sv a0))] [] (Det (.tup [.agg (c_Token r.1), vI r.2.1, vI r.2.2]) []) := by
  unfold lexer_number at h
  refine fn_intro' 34 Tryd.func69 rfl rfl rfl (aw_seq (aw_region (aops_step1 rfl (st_alloc (cs := [cI 0, .val (Sv []), cI 0, cI 0]) 0 rfl rfl rfl rfl rfl) ?_)))
  iterate 2 refine s_sa ?_
  refine aops_nil (aw_seq (aw_region (s_mv ?_)))
  obtain ⟨x1, hx1, h⟩ := Md.bind_s h
  refine aops_step1 rfl (ev_call_v (lexer_run__lexer_digit_fn k a0 x1 hx1) rfl [] ai rfl rfl rfl (.inl rfl) rfl) (s_sa ?_)
  refine aops_nil (aw_seq (aw_region ?_))
  iterate 2 refine s_mv ?_
  obtain ⟨g2, h⟩ := Md.ifp_s h
  obtain ⟨g3, h⟩ := Md.ifp_s h
  refine aops_step1 rfl (st_cut_hi_s rfl ⟨_, _, rfl, (Md.nn_eq g2)⟩ g3 rfl) ?_
  obtain ⟨x4, hx4, h⟩ := Md.bind_s h
  refine aops_step1 rfl (ev_call_v (strconv_ParseInt_fn k (a0.take ((x1).toNat)) 10 64 x4 hx4) rfl [] ai rfl (by cases x4.2 <;> rfl) (by cases x4.2 <;> rfl) (.inl rfl) rfl) (s_mt ?_)
  iterate 2 refine s_ex ?_
  iterate 2 refine s_sa ?_
  refine aops_nil (aw_seq (aw_seq (aw_region (s_mv ?_))))
  refine aops_step1 rfl (ev_err_ne (by kernel_rfl) rfl rfl) (s_mv ?_)
  obtain ⟨o5, j5, h⟩ := Md.bind_s h
  refine aops_cut 8 (ε := Bool) (fun x5 => (⟨34, [], [(0, .one (.val (Sv a0))), (2, .one (.ptr 0 0)), (3, vI x1), (5, vI x4.1), (26, vB x5)], [(0, some (.box [cI 0, .val (Sv []), cI 0, cI 0]))]⟩ : ASt)) (fun x5 => x5 = o5) ?_ ?_
  · intro x5 hI5
    subst hI5
    change AOps _ _ _ (⟨34, [], [(0, .one (.val (Sv a0))), (2, .one (.ptr 0 0)), (3, vI x1), (5, vI x4.1), (26, vB x5)], [(0, some (.box [cI 0, .val (Sv []), cI 0, cI 0]))]⟩ : ASt) _
    refine aops_nil ?_
    refine aw_cond rfl (fun c6 => ?_) (fun c6 => ?_)
    · replace h := Md.cond_t h c6
      refine aw_seq (aw_region (aops_step1 rfl (ev_build' (out := [_, _, _, _]) rfl rfl rfl rfl rfl) (s_st [_, _, _, _] ?_)))
      iterate 2 refine s_sa ?_
      refine aops_nil ?_
      cases Option.some.inj h
      exact aw_ret ⟨rfl, rv (rn (.cons (va [_, _, _, _]) (.cons o1 (.cons o1 .nil))))⟩
    replace h := Md.cond_f h c6
    refine aw_skip (aw_seq (aw_region ?_))
    iterate 2 refine s_mv ?_
    obtain ⟨g7, h⟩ := Md.ifp_s h
    obtain ⟨g8, h⟩ := Md.ifp_s h
    refine aops_step1 rfl (st_cut_hi_s rfl ⟨_, _, rfl, (Md.nn_eq g7)⟩ g8 rfl) (s_mv ?_)
    refine aops_step1 rfl (ev_build' (out := [_, _, _, _]) rfl rfl rfl rfl rfl) (s_mv ?_)
    refine s_st [_, _, _, _] ?_
    iterate 2 refine s_sa ?_
    refine aops_nil ?_
    cases Option.some.inj h
    exact aw_ret ⟨rfl, rv (rn (.cons (va [_, _, _, _]) (.cons o1 (.cons o1 .nil))))⟩
  rcases Md.bool_or (x4.2) with q5 | q5
  · replace j5 := Md.cond_t j5 q5
    iterate 3 refine np q5 ?_
    iterate 3 refine aops_und rfl rfl rfl rfl rfl ?_
    refine np q5 ?_
    refine s_py q5 ?_
    refine aops_nil ?_
    show ∃ _x : Bool, _ = _ ∧ Weak _ _
    exact ⟨true, Option.some.inj j5, wk⟩
  replace j5 := Md.cond_f j5 q5
  refine y_mv q5 ?_
  refine y_cm q5 ?_
  refine y_mv q5 ?_
  obtain ⟨o9, j9, j5⟩ := Md.bind_s j5
  refine aops_cut 4 (ε := Bool) (fun x9 => (⟨34, [], [(0, .one (.val (Sv a0))), (2, .one (.ptr 0 0)), (3, vI x1), (5, vI x4.1), (18, vB x4.2), (25, vB x9)], [(0, some (.box [cI 0, .val (Sv []), cI 0, cI 0]))]⟩ : ASt)) (fun x9 => x9 = o9) ?_ ?_
  · intro x9 hI9
    subst hI9
    change AOps _ _ _ (⟨34, [], [(0, .one (.val (Sv a0))), (2, .one (.ptr 0 0)), (3, vI x1), (5, vI x4.1), (18, vB x4.2), (25, vB x9)], [(0, some (.box [cI 0, .val (Sv []), cI 0, cI 0]))]⟩ : ASt) _
    refine s_pn q5 ?_
    refine aops_nil ?_
    show ∃ _x : Bool, _ = _ ∧ Weak _ _
    exact ⟨x9, Option.some.inj j5, wk⟩
  rcases Md.bool_or ((decide (x1 > 1))) with q9 | q9
  · replace j9 := Md.cond_t j9 q9
    refine y_mv q9 ?_
    obtain ⟨g10, j9⟩ := Md.ifp_s j9
    refine aops_yes rfl rfl rfl rfl q9 (st_index_str rfl rfl rfl g10 rfl) (y_cm q9 ?_)
    refine aops_yes rfl rfl rfl rfl q5 (st_pick_yes rfl (by first | rfl | exact q9) rfl rfl) (aops_nil ?_)
    show ∃ _x : Bool, _ = _ ∧ Weak _ _
    exact ⟨((((a0.getD 0 0)).toNat : Int) == 48), Option.some.inj j9, wk⟩
  replace j9 := Md.cond_f j9 q9
  iterate 3 refine np q9 ?_
  refine aops_yes rfl rfl rfl rfl q5 (st_pick_no rfl (by first | rfl | exact q9) rfl rfl) (aops_nil ?_)
  show ∃ _x : Bool, _ = _ ∧ Weak _ _
  exact ⟨false, Option.some.inj j9, wk⟩
set_option maxHeartbeats 2000000 in
theorem lexer_nibble_fn (k : Nat) (a0 : UInt8) (r : Int) (h : lexer_nibble k a0 = some r) : FnC Tryd.prog 93 [.one (.val (.int .u8 (a0.toNat : Int)))] [] (Det (vI r) []) := by
  unfold lexer_nibble at h
  refine fn_intro' 20 Tryd.func93 rfl rfl rfl (aw_seq (aw_region (s_sa ?_)))
  refine aops_nil (aw_seq (aw_block (aw_seq (aw_region (s_mv ?_)))))
  obtain ⟨x1, hx1, h⟩ := Md.bind_s h
  refine aops_step1 rfl (ev_call_v (lexer_digit_fn k a0 x1 hx1) rfl [] ai rfl rfl rfl (.inl rfl) rfl) (s_sa ?_)
  refine aops_nil ?_
  refine aw_cond rfl (fun c2 => ?_) (fun c2 => ?_)
  · replace h := Md.cond_t h c2
    refine aw_seq (aw_region (s_mv ?_))
    refine aops_step1 rfl (ev_sub rfl rfl rfl (Md.sub_u8 a0 (48 : UInt8))) ?_
    refine aops_step1 rfl (st_conv_int rfl rfl Tryd.underlying5 Tryd.underlying3 (Md.conv_u8_i64 (a0 - (48 : UInt8)))) (s_sa ?_)
    refine aops_nil ?_
    cases Option.some.inj h
    exact aw_ret ⟨rfl, rv r1⟩
  replace h := Md.cond_f h c2
  refine aw_seq (aw_region (s_mv ?_))
  refine s_cm ?_
  refine s_mv ?_
  refine aops_mid 3 (⟨20, [], [(0, .one (.val (.int .u8 (a0.toNat : Int)))), (15, vB ((decide ((a0.toNat : Int) ≥ 97)) && (decide ((a0.toNat : Int) ≤ 102))))], []⟩ : ASt) ?_ ?_
  · rcases Md.bool_or ((decide ((a0.toNat : Int) ≥ 97))) with q3 | q3
    · skip
      refine y_mv q3 ?_
      refine y_cm q3 ?_
      refine s_py q3 ?_
      refine aops_nil ?_
      exact wq q3
    iterate 2 refine np q3 ?_
    refine s_pn q3 ?_
    refine aops_nil ?_
    exact wq q3
  refine s_sa ?_
  refine aops_nil ?_
  refine aw_cond rfl (fun c4 => ?_) (fun c4 => ?_)
  · replace h := Md.cond_t h c4
    refine aw_seq (aw_region (s_mv ?_))
    refine aops_step1 rfl (ev_sub rfl rfl rfl (Md.sub_u8 a0 (97 : UInt8))) ?_
    refine aops_step1 rfl (st_conv_int rfl rfl Tryd.underlying5 Tryd.underlying3 (Md.conv_u8_i64 (a0 - (97 : UInt8)))) ?_
    obtain ⟨g5, h⟩ := Md.ifp_s h
    refine aops_step1 rfl (ev_add rfl rfl rfl (Md.nat_add g5)) (s_sa ?_)
    refine aops_nil ?_
    cases Option.some.inj h
    exact aw_ret ⟨rfl, rv r1⟩
  replace h := Md.cond_f h c4
  refine aw_skip (aw_seq (aw_region (s_sa ?_)))
  refine aops_nil ?_
  cases Option.some.inj h
  exact aw_ret ⟨rfl, rv r1⟩
set_option maxHeartbeats 2000000 in
theorem lexer_escape_fn (k : Nat) (a0 : List UInt8) (r : UInt8 × Int) (h : lexer_escape k a0 = some r) : FnC Tryd.prog 83 [.one (.val (Sv a0))] [] (Det (.tup [.one (.val (.int .u8 (r.1.toNat : Int))), vI r.2]) []) := by
  unfold lexer_escape at h
  refine fn_intro' 48 Tryd.func83 rfl rfl rfl (aw_seq (aw_region ?_))
  iterate 2 refine s_sa ?_
  refine aops_nil (aw_seq (aw_seq (aw_region (s_mv ?_))))
  refine aops_step1 rfl (st_len_str rfl rfl) (s_cm ?_)
  refine s_mv ?_
  obtain ⟨o1, j1, h⟩ := Md.bind_s h
  refine aops_cut 9 (ε := Bool) (fun x1 => (⟨48, [], [(0, .one (.val (Sv a0))), (16, vB x1)], []⟩ : ASt)) (fun x1 => x1 = o1) ?_ ?_
  · intro x1 hI1
    subst hI1
    change AOps _ _ _ (⟨48, [], [(0, .one (.val (Sv a0))), (16, vB x1)], []⟩ : ASt) _
    refine aops_nil ?_
    refine aw_cond rfl (fun c2 => ?_) (fun c2 => ?_)
    · replace h := Md.cond_t h c2
      refine aw_seq (aw_region (s_mv ?_))
      obtain ⟨g3, h⟩ := Md.ifp_s h
      refine aops_step1 rfl (st_index_str rfl rfl rfl g3 rfl) ?_
      iterate 2 refine s_sa ?_
      refine aops_nil ?_
      cases Option.some.inj h
      exact aw_ret ⟨rfl, rv (rn (.cons o1 (.cons o1 .nil)))⟩
    replace h := Md.cond_f h c2
    refine aw_skip (aw_seq (aw_seq (aw_region (s_mv ?_))))
    refine aops_step1 rfl (st_len_str rfl rfl) (s_cm ?_)
    refine s_mv ?_
    obtain ⟨o4, j4, h⟩ := Md.bind_s h
    refine aops_cut 4 (ε := Bool) (fun x4 => (⟨48, [], [(0, .one (.val (Sv a0))), (26, vB x4)], []⟩ : ASt)) (fun x4 => x4 = o4) ?_ ?_
    · intro x4 hI4
      subst hI4
      change AOps _ _ _ (⟨48, [], [(0, .one (.val (Sv a0))), (26, vB x4)], []⟩ : ASt) _
      refine s_mv ?_
      obtain ⟨o5, j5, h⟩ := Md.bind_s h
      refine aops_cut 5 (ε := Bool) (fun x5 => (⟨48, [], [(0, .one (.val (Sv a0))), (32, vB x5)], []⟩ : ASt)) (fun x5 => x5 = o5) ?_ ?_
      · intro x5 hI5
        subst hI5
        change AOps _ _ _ (⟨48, [], [(0, .one (.val (Sv a0))), (32, vB x5)], []⟩ : ASt) _
        refine s_mv ?_
        obtain ⟨o6, j6, h⟩ := Md.bind_s h
        refine aops_cut 5 (ε := Bool) (fun x6 => (⟨48, [], [(0, .one (.val (Sv a0))), (38, vB x6)], []⟩ : ASt)) (fun x6 => x6 = o6) ?_ ?_
        · intro x6 hI6
          subst hI6
          change AOps _ _ _ (⟨48, [], [(0, .one (.val (Sv a0))), (38, vB x6)], []⟩ : ASt) _
          refine aops_nil ?_
          refine aw_cond rfl (fun c7 => ?_) (fun c7 => ?_)
          · replace h := Md.cond_t h c7
            refine aw_seq (aw_region ?_)
            iterate 2 refine s_sa ?_
            refine aops_nil ?_
            cases Option.some.inj h
            exact aw_ret ⟨rfl, rv (rn (.cons o1 (.cons o1 .nil)))⟩
          replace h := Md.cond_f h c7
          refine aw_skip ?_
          obtain ⟨g8, h⟩ := Md.ifp_s h
          obtain ⟨x9, hx9, h⟩ := Md.bind_s h
          obtain ⟨g10, h⟩ := Md.ifp_s h
          obtain ⟨x11, hx11, h⟩ := Md.bind_s h
          refine aw_seq ?_
          apply aw_draw 7 ((⟨[], .one (.val (Sv a0))⟩ : Add) :: ⟨[], .one (.val (.int .u8 (((a0.getD 2 0)).toNat : Int)))⟩ :: ⟨[], vI x9⟩ :: ⟨[], vI (Md.ishl x9 4)⟩ :: ⟨[], .one (.val (Sv a0))⟩ :: ⟨[], .one (.val (.int .u8 (((a0.getD 3 0)).toNat : Int)))⟩ :: ⟨[], vI x11⟩ :: []) (by decide) rfl ?hk1x ?hf1x ?ho1x ?hr1x
          case ho1x =>
           refine ob [] (fun S hle hfr => .inl ⟨w0, st_move (hle.e rfl) (hle.d rfl)⟩) ?_
           refine ob [0] (fun S hle hfr => .inl ⟨w0, st_index_str (hle.e rfl) (hle.e rfl) rfl g8 (hle.d rfl)⟩) ?_
           refine ob [1, 0] (fun S hle hfr => .inl ⟨w0, ev_call_v (lexer_nibble_fn k (a0.getD 2 0) x9 hx9) (map_ev (.cons (hle.e rfl) (.nil))) [] (by repeat' (first | exact .nil | refine .cons ?_ ?_ | refine .one ?_ | refine .agg ?_ | exact .mk rfl | exact .lend (hle.heap _ _ rfl) (by simp) | exact .le (.nil _) rfl | exact .le (.emp _) rfl | exact .le (.any _) rfl | fail)) rfl rfl rfl (.inl rfl) (hle.d rfl)⟩) ?_
           refine ob [2, 1, 0] (fun S hle hfr => .inl ⟨w0, ev_shl (hle.e rfl) (hle.e rfl) (hle.d rfl) (by decide) (Md.ishl_i64 x9 (Md.nat_toNat 4))⟩) ?_
           refine ob [] (fun S hle hfr => .inl ⟨w0, st_move (hle.e rfl) (hle.d rfl)⟩) ?_
           refine ob [4] (fun S hle hfr => .inl ⟨w0, st_index_str (hle.e rfl) (hle.e rfl) rfl g10 (hle.d rfl)⟩) ?_
           refine ob [5, 2, 4, 1, 0] (fun S hle hfr => .inl ⟨w0, ev_call_v (lexer_nibble_fn k (a0.getD 3 0) x11 hx11) (map_ev (.cons (hle.e rfl) (.nil))) [] (by repeat' (first | exact .nil | refine .cons ?_ ?_ | refine .one ?_ | refine .agg ?_ | exact .mk rfl | exact .lend (hle.heap _ _ rfl) (by simp) | exact .le (.nil _) rfl | exact .le (.emp _) rfl | exact .le (.any _) rfl | fail)) rfl rfl rfl (.inl rfl) (hle.d rfl)⟩) ?_
           exact trivial
          case hk1x => rfl
          case hf1x => rfl
          refine aops_step1 rfl (ev_bits rfl rfl rfl rfl (Md.ior_i64 (Md.ishl x9 4) x11)) ?_
          refine aops_step1 rfl (st_conv_int rfl rfl Tryd.underlying3 Tryd.underlying5 (Md.ofInt_u8 (Md.ior (Md.ishl x9 4) x11))) ?_
          iterate 2 refine s_sa ?_
          refine aops_nil ?_
          cases Option.some.inj h
          exact aw_ret ⟨rfl, rv (rn (.cons o1 (.cons o1 .nil)))⟩
        rcases Md.bool_or (x5) with q6 | q6
        · replace j6 := Md.cond_t j6 q6
          iterate 4 refine np q6 ?_
          refine s_py q6 ?_
          refine aops_nil ?_
          show ∃ _x : Bool, _ = _ ∧ Weak _ _
          exact ⟨true, Option.some.inj j6, wk⟩
        replace j6 := Md.cond_f j6 q6
        refine y_mv q6 ?_
        obtain ⟨g12, j6⟩ := Md.ifp_s j6
        refine aops_yes rfl rfl rfl rfl q6 (st_index_str rfl rfl rfl g12 rfl) ?_
        obtain ⟨x13, hx13, j6⟩ := Md.bind_s j6
        refine aops_yes rfl rfl rfl rfl q6 (ev_call_v (lexer_nibble_fn k (a0.getD 3 0) x13 hx13) rfl [] ai rfl rfl rfl (.inl rfl) rfl) (y_cm q6 ?_)
        refine s_pn q6 ?_
        refine aops_nil ?_
        show ∃ _x : Bool, _ = _ ∧ Weak _ _
        exact ⟨(decide (x13 < 0)), Option.some.inj j6, wk⟩
      rcases Md.bool_or (x4) with q5 | q5
      · replace j5 := Md.cond_t j5 q5
        iterate 4 refine np q5 ?_
        refine s_py q5 ?_
        refine aops_nil ?_
        show ∃ _x : Bool, _ = _ ∧ Weak _ _
        exact ⟨true, Option.some.inj j5, wk⟩
      replace j5 := Md.cond_f j5 q5
      refine y_mv q5 ?_
      obtain ⟨g14, j5⟩ := Md.ifp_s j5
      refine aops_yes rfl rfl rfl rfl q5 (st_index_str rfl rfl rfl g14 rfl) ?_
      obtain ⟨x15, hx15, j5⟩ := Md.bind_s j5
      refine aops_yes rfl rfl rfl rfl q5 (ev_call_v (lexer_nibble_fn k (a0.getD 2 0) x15 hx15) rfl [] ai rfl rfl rfl (.inl rfl) rfl) (y_cm q5 ?_)
      refine s_pn q5 ?_
      refine aops_nil ?_
      show ∃ _x : Bool, _ = _ ∧ Weak _ _
      exact ⟨(decide (x15 < 0)), Option.some.inj j5, wk⟩
    rcases Md.bool_or ((decide (((a0.length : Nat) : Int) < 4))) with q4 | q4
    · replace j4 := Md.cond_t j4 q4
      iterate 3 refine np q4 ?_
      refine s_py q4 ?_
      refine aops_nil ?_
      show ∃ _x : Bool, _ = _ ∧ Weak _ _
      exact ⟨true, Option.some.inj j4, wk⟩
    replace j4 := Md.cond_f j4 q4
    refine y_mv q4 ?_
    obtain ⟨g16, j4⟩ := Md.ifp_s j4
    refine aops_yes rfl rfl rfl rfl q4 (st_index_str rfl rfl rfl g16 rfl) (y_cm q4 ?_)
    refine s_pn q4 ?_
    refine aops_nil ?_
    show ∃ _x : Bool, _ = _ ∧ Weak _ _
    exact ⟨((((a0.getD 1 0)).toNat : Int) != 120), Option.some.inj j4, wk⟩
  rcases Md.bool_or ((decide (((a0.length : Nat) : Int) ≥ 2))) with q1 | q1
  · replace j1 := Md.cond_t j1 q1
    refine y_mv q1 ?_
    obtain ⟨g17, j1⟩ := Md.ifp_s j1
    refine aops_yes rfl rfl rfl rfl q1 (st_index_str rfl rfl rfl g17 rfl) (y_cm q1 ?_)
    refine y_mv q1 ?_
    obtain ⟨o18, j18, j1⟩ := Md.bind_s j1
    refine aops_cut 4 (ε := Bool) (fun x18 => (⟨48, [], [(0, .one (.val (Sv a0))), (7, vB (decide (((a0.length : Nat) : Int) ≥ 2))), (15, vB x18)], []⟩ : ASt)) (fun x18 => x18 = o18) ?_ ?_
    · intro x18 hI18
      subst hI18
      change AOps _ _ _ (⟨48, [], [(0, .one (.val (Sv a0))), (7, vB (decide (((a0.length : Nat) : Int) ≥ 2))), (15, vB x18)], []⟩ : ASt) _
      refine s_py q1 ?_
      refine aops_nil ?_
      show ∃ _x : Bool, _ = _ ∧ Weak _ _
      exact ⟨x18, Option.some.inj j1, wk⟩
    rcases Md.bool_or (((((a0.getD 1 0)).toNat : Int) == 34)) with q18 | q18
    · replace j18 := Md.cond_t j18 q18
      iterate 3 refine np q18 ?_
      refine aops_yes rfl rfl rfl rfl q1 (st_pick_yes rfl (by first | rfl | exact q18) rfl rfl) (aops_nil ?_)
      show ∃ _x : Bool, _ = _ ∧ Weak _ _
      exact ⟨true, Option.some.inj j18, wk⟩
    replace j18 := Md.cond_f j18 q18
    refine y_mv q18 ?_
    obtain ⟨g19, j18⟩ := Md.ifp_s j18
    refine aops_yes rfl rfl rfl rfl q18 (st_index_str rfl rfl rfl g19 rfl) (y_cm q18 ?_)
    refine aops_yes rfl rfl rfl rfl q1 (st_pick_no rfl (by first | rfl | exact q18) rfl rfl) (aops_nil ?_)
    show ∃ _x : Bool, _ = _ ∧ Weak _ _
    exact ⟨((((a0.getD 1 0)).toNat : Int) == 92), Option.some.inj j18, wk⟩
  replace j1 := Md.cond_f j1 q1
  iterate 4 refine np q1 ?_
  iterate 3 refine aops_und rfl rfl rfl rfl rfl ?_
  refine np q1 ?_
  refine s_pn q1 ?_
  refine aops_nil ?_
  show ∃ _x : Bool, _ = _ ∧ Weak _ _
  exact ⟨false, Option.some.inj j1, wk⟩
set_option maxHeartbeats 2000000 in
theorem lexer_text_fn (k : Nat) (a0 : List UInt8) (r : Token × Int × Int) (h : lexer_text k a0 = some r) : FnC Tryd.prog 70 [.one (.val (Sv a0))] [] (Det (.tup [.agg (c_Token r.1), vI r.2.1, vI r.2.2]) []) := by
  unfold lexer_text at h
  refine fn_intro' 60 Tryd.func70 rfl rfl rfl (aw_seq (aw_region (aops_step1 rfl (st_alloc (cs := [cI 0, .val (Sv []), cI 0, cI 0]) 0 rfl rfl rfl rfl rfl) ?_)))
  iterate 2 refine s_sa ?_
  refine aops_nil (aw_seq (aw_region (s_sa ?_)))
  refine aops_nil (aw_seq (aw_seq (aw_region (s_sa ?_))))
  refine aops_nil (aw_block (aw_own_nil 5 1 5 1 (lsEl byC []) rfl rfl ?_))
  obtain ⟨o1, ho1, h⟩ := Md.bind_s h
  refine aw_loop_x (ι := {p : Nat × Int × (List UInt8) // lexer_text_loop1 k a0 p.1 p.2.1 p.2.2 = some o1}) (fun p => (⟨60, [], [(0, .one (.val (Sv a0))), (2, .one (.ptr 0 0)), (5, .one (.own 1)), (6, vI p.1.2.1)], [(0, some (.box [cI 0, .val (Sv []), cI 0, cI 0])), (1, some (.row 5 1 p.1.2.2.length (lsEl byC p.1.2.2)))]⟩ : ASt)) (fun p => p.1.1) ⟨(k, 1, ([] : List UInt8)), ho1⟩ wk 0 (ε := Unit) (fun x => (⟨60, [], [(2, .one (.ptr 0 0))], [(0, some (.box [cI 0, .val (Sv []), cI 0, cI 0]))]⟩ : ASt)) (fun x => Sum.inl x = o1) (fun _ _ w h => aw_weak w h) ?_ ?_
  · intro x1_0 hI1
    subst hI1
    replace h := Md.onS_l h
    change AW _ _ (⟨60, [], [(2, .one (.ptr 0 0))], [(0, some (.box [cI 0, .val (Sv []), cI 0, cI 0]))]⟩ : ASt) _
    refine aw_seq (aw_region (aops_step1 rfl (ev_build' (out := [_, _, _, _]) rfl rfl rfl rfl rfl) (s_st [_, _, _, _] ?_)))
    iterate 2 refine s_sa ?_
    refine aops_nil ?_
    cases Option.some.inj h
    exact aw_ret ⟨rfl, rv (rn (.cons (va [_, _, _, _]) (.cons o1 (.cons o1 .nil))))⟩
  intro p1
  obtain ⟨⟨n1, s1_0, s1_1⟩, l1⟩ := p1
  change AW _ _ (⟨60, [], [(0, .one (.val (Sv a0))), (2, .one (.ptr 0 0)), (5, .one (.own 1)), (6, vI s1_0)], [(0, some (.box [cI 0, .val (Sv []), cI 0, cI 0])), (1, some (.row 5 1 s1_1.length (lsEl byC s1_1)))]⟩ : ASt) _
  replace l1 : lexer_text_loop1 k a0 n1 s1_0 s1_1 = some o1 := l1
  rcases n1 with _ | n1
  · exact absurd (show none = some o1 from l1) nofun
  rw [lexer_text_loop1] at l1
  refine aw_seq (aw_seq (aw_region ?_))
  iterate 2 refine s_mv ?_
  refine aops_step1 rfl (st_len_str rfl rfl) (s_cm ?_)
  refine aops_nil ?_
  refine aw_cond rfl (fun c2 => ?_) (fun c2 => ?_)
  · replace l1 := Md.cond_t l1 c2
    refine aw_skip (aw_block (aw_seq (aw_region ?_)))
    iterate 2 refine s_mv ?_
    obtain ⟨g3, l1⟩ := Md.ifp_s l1
    refine aops_step1 rfl (st_index_str rfl rfl (Md.idx_eq g3) (Md.idx_lt g3) rfl) (s_sa ?_)
    refine aops_nil (aw_block (aw_seq (aw_region (s_mv ?_))))
    obtain ⟨x4, hx4, l1⟩ := Md.bind_s l1
    refine aops_step1 rfl (ev_call_v (lexer_plain_fn k (a0.getD ((s1_0).toNat) 0) x4 hx4) rfl [] ai rfl rfl rfl (.inl rfl) rfl) (s_sa ?_)
    refine aops_nil ?_
    refine aw_cond rfl (fun c5 => ?_) (fun c5 => ?_)
    · replace l1 := Md.cond_t l1 c5
      refine aw_region ?_
      iterate 2 refine s_mv ?_
      refine aops_step1 rfl (st_slice_lit (el := lsEl byC [(a0.getD ((s1_0).toNat) 0)]) 2 rfl rfl rfl rfl rfl rfl rfl rfl (lit_el byC 1 [(a0.getD ((s1_0).toNat) 0)] (fun _ => rfl)) rfl) ?_
      obtain ⟨g6, l1⟩ := Md.ifp_s l1
      refine aops_step1 rfl (st_app_ls (f := byC) s1_1 [(a0.getD ((s1_0).toNat) 0)] (fun _ => rfl) rfl rfl (.inr ⟨_, _, rfl, rfl⟩) (by omega) (by omega) rfl) (s_mv ?_)
      refine aops_step1 rfl (ev_add rfl rfl rfl (Md.wrap_W _)) ?_
      iterate 2 refine s_sa ?_
      refine aops_nil ?_
      exact ⟨⟨(n1, (Md.W (s1_0 + 1)), (s1_1 ++ [(a0.getD ((s1_0).toNat) 0)])), l1⟩, Nat.lt_succ_self _, wk⟩
    replace l1 := Md.cond_f l1 c5
    refine aw_seq (aw_region (s_mv ?_))
    refine s_cm ?_
    refine s_sa ?_
    refine aops_nil ?_
    refine aw_cond rfl (fun c7 => ?_) (fun c7 => ?_)
    · replace l1 := Md.cond_t l1 c7
      refine aw_seq (aw_seq (aw_region (s_mv ?_)))
      refine aops_step1 rfl (ev_len_own rfl rfl rfl) (s_cm ?_)
      refine aops_nil ?_
      refine aw_cond rfl (fun c8 => ?_) (fun c8 => ?_)
      · replace l1 := Md.cond_t l1 c8
        refine aw_seq (aw_region (aops_step1 rfl (ev_build' (out := [_, _, _, _]) rfl rfl rfl rfl rfl) (s_st [_, _, _, _] ?_)))
        iterate 2 refine s_sa ?_
        refine aops_nil ?_
        cases Option.some.inj l1
        replace h := Md.onS_r h
        cases Option.some.inj h
        exact aw_ret ⟨rfl, rv (rn (.cons (va [_, _, _, _]) (.cons o1 (.cons o1 .nil))))⟩
      replace l1 := Md.cond_f l1 c8
      refine aw_skip (aw_seq (aw_region (s_mv ?_)))
      refine aops_step1 rfl (ev_str_bytes (.inr ⟨_, _, rfl, rfl⟩) Tryd.underlying42 Tryd.underlying5 Tryd.underlying9 rfl) ?_
      refine aops_step1 rfl (ev_build' (out := [_, _, _, _]) rfl rfl rfl rfl rfl) (s_mv ?_)
      refine aops_step1 rfl (ev_add rfl rfl rfl (Md.wrap_W _)) (s_st [_, _, _, _] ?_)
      iterate 2 refine s_sa ?_
      refine aops_nil ?_
      cases Option.some.inj l1
      replace h := Md.onS_r h
      cases Option.some.inj h
      exact aw_ret ⟨rfl, rv (rn (.cons (va [_, _, _, _]) (.cons o1 (.cons o1 .nil))))⟩
    replace l1 := Md.cond_f l1 c7
    refine aw_seq (aw_region (s_mv ?_))
    refine s_cm ?_
    refine s_sa ?_
    refine aops_nil ?_
    refine aw_cond rfl (fun c9 => ?_) (fun c9 => ?_)
    · replace l1 := Md.cond_t l1 c9
      refine aw_seq (aw_region ?_)
      iterate 2 refine s_mv ?_
      obtain ⟨g10, l1⟩ := Md.ifp_s l1
      obtain ⟨g11, l1⟩ := Md.ifp_s l1
      refine aops_step1 rfl (st_cut_lo_s rfl ⟨_, _, rfl, (Md.nn_eq g10)⟩ g11 rfl) ?_
      obtain ⟨x12, hx12, l1⟩ := Md.bind_s l1
      refine aops_step1 rfl (ev_call_v (lexer_escape_fn k (a0.drop ((s1_0).toNat)) x12 hx12) rfl [] ai rfl rfl rfl (.inl rfl) rfl) (s_mt ?_)
      iterate 2 refine s_ex ?_
      iterate 2 refine s_sa ?_
      refine aops_nil (aw_seq (aw_seq (aw_region (s_mv ?_))))
      refine s_cm ?_
      refine aops_nil ?_
      refine aw_cond rfl (fun c13 => ?_) (fun c13 => ?_)
      · replace l1 := Md.cond_t l1 c13
        refine aw_seq (aw_region (aops_step1 rfl (ev_build' (out := [_, _, _, _]) rfl rfl rfl rfl rfl) (s_st [_, _, _, _] ?_)))
        iterate 2 refine s_sa ?_
        refine aops_nil ?_
        cases Option.some.inj l1
        replace h := Md.onS_r h
        cases Option.some.inj h
        exact aw_ret ⟨rfl, rv (rn (.cons (va [_, _, _, _]) (.cons o1 (.cons o1 .nil))))⟩
      replace l1 := Md.cond_f l1 c13
      refine aw_skip (aw_region ?_)
      iterate 2 refine s_mv ?_
      refine aops_step1 rfl (st_slice_lit (el := lsEl byC [x12.1]) 2 rfl rfl rfl rfl rfl rfl rfl rfl (lit_el byC 1 [x12.1] (fun _ => rfl)) rfl) ?_
      obtain ⟨g14, l1⟩ := Md.ifp_s l1
      refine aops_step1 rfl (st_app_ls (f := byC) s1_1 [x12.1] (fun _ => rfl) rfl rfl (.inr ⟨_, _, rfl, rfl⟩) (by omega) (by omega) rfl) ?_
      iterate 2 refine s_mv ?_
      refine aops_step1 rfl (ev_add rfl rfl rfl (Md.wrap_W _)) ?_
      iterate 2 refine s_sa ?_
      refine aops_nil ?_
      exact ⟨⟨(n1, (Md.W (s1_0 + x12.2)), (s1_1 ++ [x12.1])), l1⟩, Nat.lt_succ_self _, wk⟩
    replace l1 := Md.cond_f l1 c9
    refine aw_seq (aw_region (aops_step1 rfl (ev_build' (out := [_, _, _, _]) rfl rfl rfl rfl rfl) (s_st [_, _, _, _] ?_)))
    iterate 2 refine s_sa ?_
    refine aops_nil ?_
    cases Option.some.inj l1
    replace h := Md.onS_r h
    cases Option.some.inj h
    exact aw_ret ⟨rfl, rv (rn (.cons (va [_, _, _, _]) (.cons o1 (.cons o1 .nil))))⟩
  replace l1 := Md.cond_f l1 c2
  refine aw_exit ?_
  show ∃ _x : Unit, _ = _ ∧ Weak _ _
  exact ⟨(), Option.some.inj l1, wk⟩
set_option maxHeartbeats 2000000 in
theorem lexer_symbol_fn (k : Nat) (a0 : List UInt8) (r : Int) (h : lexer_symbol k a0 = some r) : FnC Tryd.prog 71 [.one (.val (Sv a0))] [] (Det (vI r) []) := by
  unfold lexer_symbol at h
  refine fn_intro' 21 Tryd.func71 rfl rfl rfl (aw_seq (aw_region (s_sa ?_)))
  refine aops_nil (aw_seq (aw_seq (aw_region (aops_step1 rfl (ev_build_arr' (out := [_, _, _, _, _, _]) rfl rfl rfl rfl rfl) (s_mv ?_)))))
  refine aops_nil (aw_block ?_)
  obtain ⟨o1, ho1, h⟩ := Md.bind_s h
  refine aw_loop_x (ι := {p : Nat × Nat // lexer_symbol_loop1 k a0 p.1 p.2 = some o1}) (fun p => (⟨21, [], [(0, .one (.val (Sv a0))), (5, .agg [.val (Sv ([61, 61] : List UInt8)), .val (Sv ([33, 61] : List UInt8)), .val (Sv ([60, 61] : List UInt8)), .val (Sv ([62, 61] : List UInt8)), .val (Sv ([38, 38] : List UInt8)), .val (Sv ([124, 124] : List UInt8))]), (6, vI ((p.1.2 : Nat) : Int))], []⟩ : ASt)) (fun p => p.1.1) ⟨(k, 0), ho1⟩ wk 0 (ε := Unit) (fun x => (⟨21, [], [(0, .one (.val (Sv a0)))], []⟩ : ASt)) (fun x => Sum.inl x = o1) (fun _ _ w h => aw_weak w h) ?_ ?_
  · intro x1_0 hI1
    subst hI1
    replace h := Md.onS_l h
    change AW _ _ (⟨21, [], [(0, .one (.val (Sv a0)))], []⟩ : ASt) _
    refine aw_seq (aw_seq (aw_region (s_mv ?_)))
    refine aops_step1 rfl (st_str_ne rfl rfl rfl) (s_mv ?_)
    obtain ⟨o2, j2, h⟩ := Md.bind_s h
    refine aops_cut 5 (ε := Bool) (fun x2 => (⟨21, [], [(20, vB x2)], []⟩ : ASt)) (fun x2 => x2 = o2) ?_ ?_
    · intro x2 hI2
      subst hI2
      change AOps _ _ _ (⟨21, [], [(20, vB x2)], []⟩ : ASt) _
      refine aops_nil ?_
      refine aw_cond rfl (fun c3 => ?_) (fun c3 => ?_)
      · replace h := Md.cond_t h c3
        refine aw_seq (aw_region (s_sa ?_))
        refine aops_nil ?_
        cases Option.some.inj h
        exact aw_ret ⟨rfl, rv r1⟩
      replace h := Md.cond_f h c3
      refine aw_skip (aw_seq (aw_region (s_sa ?_)))
      refine aops_nil ?_
      cases Option.some.inj h
      exact aw_ret ⟨rfl, rv r1⟩
    rcases Md.bool_or ((!(decide (a0 = ([] : List UInt8))))) with q2 | q2
    · replace j2 := Md.cond_t j2 q2
      refine y_mv q2 ?_
      obtain ⟨g4, j2⟩ := Md.ifp_s j2
      refine aops_yes rfl rfl rfl rfl q2 (st_index_str rfl rfl rfl g4 rfl) ?_
      obtain ⟨x5, hx5, j2⟩ := Md.bind_s j2
      refine aops_yes rfl rfl rfl rfl q2 (ev_call_v (strings_IndexByte_fn k ([123, 125, 40, 41, 91, 93, 44, 59, 58, 46, 61, 60, 62, 43, 45, 42, 47, 37, 33] : List UInt8) (a0.getD 0 0) x5 hx5) rfl [] ai rfl rfl rfl (.inl rfl) rfl) (y_cm q2 ?_)
      refine s_py q2 ?_
      refine aops_nil ?_
      show ∃ _x : Bool, _ = _ ∧ Weak _ _
      exact ⟨(decide (x5 ≥ 0)), Option.some.inj j2, wk⟩
    replace j2 := Md.cond_f j2 q2
    iterate 4 refine np q2 ?_
    refine s_pn q2 ?_
    refine aops_nil ?_
    show ∃ _x : Bool, _ = _ ∧ Weak _ _
    exact ⟨false, Option.some.inj j2, wk⟩
  intro p1
  obtain ⟨⟨n1, s1_0⟩, l1⟩ := p1
  change AW _ _ (⟨21, [], [(0, .one (.val (Sv a0))), (5, .agg [.val (Sv ([61, 61] : List UInt8)), .val (Sv ([33, 61] : List UInt8)), .val (Sv ([60, 61] : List UInt8)), .val (Sv ([62, 61] : List UInt8)), .val (Sv ([38, 38] : List UInt8)), .val (Sv ([124, 124] : List UInt8))]), (6, vI ((s1_0 : Nat) : Int))], []⟩ : ASt) _
  replace l1 : lexer_symbol_loop1 k a0 n1 s1_0 = some o1 := l1
  rcases n1 with _ | n1
  · exact absurd (show none = some o1 from l1) nofun
  rw [lexer_symbol_loop1] at l1
  refine aw_seq (aw_region (s_cm ?_))
  refine aops_nil (aw_seq ?_)
  refine aw_cond rfl (fun c6 => ?_) (fun c6 => ?_)
  · replace l1 := Md.cond_t l1 c6
    refine aw_skip (aw_seq (aw_block (aw_seq (aw_region ?_))))
    obtain ⟨g7, l1⟩ := Md.ifp_s l1
    refine aops_step1 rfl (ev_index_get1 (c := .val (Sv ((⟨([61, 61] : List UInt8), ([33, 61] : List UInt8), ([60, 61] : List UInt8), ([62, 61] : List UInt8), ([38, 38] : List UInt8), ([124, 124] : List UInt8)⟩ : Arr6Str).get ((s1_0 : Nat) : Int)))) rfl rfl (get_Arr6Str (⟨([61, 61] : List UInt8), ([33, 61] : List UInt8), ([60, 61] : List UInt8), ([62, 61] : List UInt8), ([38, 38] : List UInt8), ([124, 124] : List UInt8)⟩ : Arr6Str) _ (Md.nat_rng g7)) rfl) (s_sa ?_)
    refine aops_nil (aw_seq (aw_region ?_))
    iterate 2 refine s_mv ?_
    obtain ⟨x8, hx8, l1⟩ := Md.bind_s l1
    refine aops_step1 rfl (ev_call_v (strings_HasPrefix_fn k a0 ((⟨([61, 61] : List UInt8), ([33, 61] : List UInt8), ([60, 61] : List UInt8), ([62, 61] : List UInt8), ([38, 38] : List UInt8), ([124, 124] : List UInt8)⟩ : Arr6Str).get ((s1_0 : Nat) : Int)) x8 hx8) rfl [] ai rfl rfl rfl (.inl rfl) rfl) ?_
    refine aops_nil ?_
    refine aw_cond rfl (fun c9 => ?_) (fun c9 => ?_)
    · replace l1 := Md.cond_t l1 c9
      refine aw_seq (aw_region (s_sa ?_))
      refine aops_nil ?_
      cases Option.some.inj l1
      replace h := Md.onS_r h
      cases Option.some.inj h
      exact aw_ret ⟨rfl, rv r1⟩
    replace l1 := Md.cond_f l1 c9
    refine aw_skip (aw_region ?_)
    obtain ⟨g10, l1⟩ := Md.ifp_s l1
    refine aops_step1 rfl (ev_add rfl rfl rfl (Md.nat_add g10)) (s_mv ?_)
    refine aops_nil ?_
    exact ⟨⟨(n1, (s1_0 + 1)), l1⟩, Nat.lt_succ_self _, wk⟩
  replace l1 := Md.cond_f l1 c6
  refine aw_exit ?_
  show ∃ _x : Unit, _ = _ ∧ Weak _ _
  exact ⟨(), Option.some.inj l1, wk⟩
set_option maxHeartbeats 2000000 in
theorem lexer_token_fn (k : Nat) (a0 : List UInt8) (r : Token × Int × Int) (h : lexer_token k a0 = some r) : FnC Tryd.prog 52 [.one (.val (Sv a0))] [] (Det (.tup [.agg (c_Token r.1), vI r.2.1, vI r.2.2]) []) := by
  unfold lexer_token at h
  refine fn_intro' 56 Tryd.func52 rfl rfl rfl (aw_seq (aw_region (aops_step1 rfl (st_alloc (cs := [cI 0, .val (Sv []), cI 0, cI 0]) 0 rfl rfl rfl rfl rfl) ?_)))
  iterate 2 refine s_sa ?_
  refine aops_nil (aw_seq (aw_seq (aw_region (s_mv ?_))))
  obtain ⟨x1, hx1, h⟩ := Md.bind_s h
  refine aops_step1 rfl (ev_call_v (lexer_word_fn k a0 x1 hx1) rfl [] ai rfl rfl rfl (.inl rfl) rfl) (s_sa ?_)
  refine aops_nil (aw_seq (aw_region (s_mv ?_)))
  refine s_cm ?_
  refine aops_nil ?_
  refine aw_cond rfl (fun c2 => ?_) (fun c2 => ?_)
  · replace h := Md.cond_t h c2
    refine aw_seq (aw_block (aw_seq (aw_region (s_mv ?_))))
    refine s_cm ?_
    refine s_sa ?_
    refine aops_nil ?_
    refine aw_cond rfl (fun c3 => ?_) (fun c3 => ?_)
    · replace h := Md.cond_t h c3
      refine aw_seq (aw_region (aops_step1 rfl (ev_build' (out := [_, _, _, _]) rfl rfl rfl rfl rfl) (s_st [_, _, _, _] ?_)))
      iterate 2 refine s_sa ?_
      refine aops_nil ?_
      cases Option.some.inj h
      exact aw_ret ⟨rfl, rv (rn (.cons (va [_, _, _, _]) (.cons o1 (.cons o1 .nil))))⟩
    replace h := Md.cond_f h c3
    refine aw_seq (aw_region ?_)
    iterate 2 refine s_mv ?_
    obtain ⟨g4, h⟩ := Md.ifp_s h
    obtain ⟨g5, h⟩ := Md.ifp_s h
    refine aops_step1 rfl (st_cut_hi_s rfl ⟨_, _, rfl, (Md.nn_eq g4)⟩ g5 rfl) ?_
    obtain ⟨x6, hx6, h⟩ := Md.bind_s h
    refine aops_step1 rfl (ev_call_v (lexer_IsKeyword_fn k (a0.take ((x1).toNat)) x6 hx6) rfl [] ai rfl rfl rfl (.inl rfl) rfl) (s_sa ?_)
    refine aops_nil ?_
    refine aw_cond rfl (fun c7 => ?_) (fun c7 => ?_)
    · replace h := Md.cond_t h c7
      refine aw_seq (aw_region ?_)
      iterate 2 refine s_mv ?_
      obtain ⟨g8, h⟩ := Md.ifp_s h
      obtain ⟨g9, h⟩ := Md.ifp_s h
      refine aops_step1 rfl (st_cut_hi_s rfl ⟨_, _, rfl, (Md.nn_eq g8)⟩ g9 rfl) (aops_step1 rfl (ev_build' (out := [_, _, _, _]) rfl rfl rfl rfl rfl) (s_mv ?_))
      refine s_st [_, _, _, _] ?_
      iterate 2 refine s_sa ?_
      refine aops_nil ?_
      cases Option.some.inj h
      exact aw_ret ⟨rfl, rv (rn (.cons (va [_, _, _, _]) (.cons o1 (.cons o1 .nil))))⟩
    replace h := Md.cond_f h c7
    refine aw_skip (aw_seq (aw_region ?_))
    iterate 2 refine s_mv ?_
    obtain ⟨g10, h⟩ := Md.ifp_s h
    obtain ⟨g11, h⟩ := Md.ifp_s h
    refine aops_step1 rfl (st_cut_hi_s rfl ⟨_, _, rfl, (Md.nn_eq g10)⟩ g11 rfl) (aops_step1 rfl (ev_build' (out := [_, _, _, _]) rfl rfl rfl rfl rfl) (s_mv ?_))
    refine s_st [_, _, _, _] ?_
    iterate 2 refine s_sa ?_
    refine aops_nil ?_
    cases Option.some.inj h
    exact aw_ret ⟨rfl, rv (rn (.cons (va [_, _, _, _]) (.cons o1 (.cons o1 .nil))))⟩
  replace h := Md.cond_f h c2
  refine aw_skip (aw_seq (aw_block (aw_seq (aw_region (s_mv ?_)))))
  obtain ⟨g12, h⟩ := Md.ifp_s h
  refine aops_step1 rfl (st_index_str rfl rfl rfl g12 rfl) ?_
  obtain ⟨x13, hx13, h⟩ := Md.bind_s h
  refine aops_step1 rfl (ev_call_v (lexer_digit_fn k (a0.getD 0 0) x13 hx13) rfl [] ai rfl rfl rfl (.inl rfl) rfl) (s_sa ?_)
  refine aops_nil ?_
  refine aw_cond rfl (fun c14 => ?_) (fun c14 => ?_)
  · replace h := Md.cond_t h c14
    refine aw_seq (aw_region (s_mv ?_))
    obtain ⟨x15, hx15, h⟩ := Md.bind_s h
    refine aops_step1 rfl (ev_call_v (lexer_number_fn k a0 x15 hx15) rfl [] ai rfl rfl rfl (.inl rfl) rfl) ?_
    iterate 3 refine s_ex ?_
    refine s_st [_, _, _, _] ?_
    iterate 2 refine s_sa ?_
    refine aops_nil ?_
    cases Option.some.inj h
    exact aw_ret ⟨rfl, rv (rn (.cons (va [_, _, _, _]) (.cons o1 (.cons o1 .nil))))⟩
  replace h := Md.cond_f h c14
  refine aw_seq (aw_region (s_mv ?_))
  obtain ⟨g16, h⟩ := Md.ifp_s h
  refine aops_step1 rfl (st_index_str rfl rfl rfl g16 rfl) (s_cm ?_)
  refine s_sa ?_
  refine aops_nil ?_
  refine aw_cond rfl (fun c17 => ?_) (fun c17 => ?_)
  · replace h := Md.cond_t h c17
    refine aw_seq (aw_region (s_mv ?_))
    obtain ⟨x18, hx18, h⟩ := Md.bind_s h
    refine aops_step1 rfl (ev_call_v (lexer_text_fn k a0 x18 hx18) rfl [] ai rfl rfl rfl (.inl rfl) rfl) ?_
    iterate 3 refine s_ex ?_
    refine s_st [_, _, _, _] ?_
    iterate 2 refine s_sa ?_
    refine aops_nil ?_
    cases Option.some.inj h
    exact aw_ret ⟨rfl, rv (rn (.cons (va [_, _, _, _]) (.cons o1 (.cons o1 .nil))))⟩
  replace h := Md.cond_f h c17
  refine aw_skip (aw_seq (aw_seq (aw_region (s_mv ?_))))
  obtain ⟨x19, hx19, h⟩ := Md.bind_s h
  refine aops_step1 rfl (ev_call_v (lexer_symbol_fn k a0 x19 hx19) rfl [] ai rfl rfl rfl (.inl rfl) rfl) (s_sa ?_)
  refine aops_nil (aw_seq (aw_region (s_mv ?_)))
  refine s_cm ?_
  refine aops_nil ?_
  refine aw_cond rfl (fun c20 => ?_) (fun c20 => ?_)
  · replace h := Md.cond_t h c20
    refine aw_seq (aw_region (aops_step1 rfl (ev_build' (out := [_, _, _, _]) rfl rfl rfl rfl rfl) (s_st [_, _, _, _] ?_)))
    iterate 2 refine s_sa ?_
    refine aops_nil ?_
    cases Option.some.inj h
    exact aw_ret ⟨rfl, rv (rn (.cons (va [_, _, _, _]) (.cons o1 (.cons o1 .nil))))⟩
  replace h := Md.cond_f h c20
  refine aw_skip (aw_seq (aw_region ?_))
  iterate 2 refine s_mv ?_
  obtain ⟨g21, h⟩ := Md.ifp_s h
  obtain ⟨g22, h⟩ := Md.ifp_s h
  refine aops_step1 rfl (st_cut_hi_s rfl ⟨_, _, rfl, (Md.nn_eq g21)⟩ g22 rfl) (aops_step1 rfl (ev_build' (out := [_, _, _, _]) rfl rfl rfl rfl rfl) (s_mv ?_))
  refine s_st [_, _, _, _] ?_
  iterate 2 refine s_sa ?_
  refine aops_nil ?_
  cases Option.some.inj h
  exact aw_ret ⟨rfl, rv (rn (.cons (va [_, _, _, _]) (.cons o1 (.cons o1 .nil))))⟩
end Md
end Go.Proofs.YtjpiiejdaiaocaaDoor
