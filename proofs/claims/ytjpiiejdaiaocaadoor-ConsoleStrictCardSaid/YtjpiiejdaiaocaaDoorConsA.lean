/-
  ConsA: where a function's model gives a value, the function returns what reads as it (printed by wip/tools/auto.py). Condition of each: the model gives a value.
-/
import Derived.Test.YtjpiiejdaiaocaaDoorConsAM
import Derived.Test.YtjpiiejdaiaocaaDoorTy
import Derived.Test.YtjpiiejdaiaocaaDoorAbsU
import Derived.Test.YtjpiiejdaiaocaaDoorLic
namespace Go.Proofs.YtjpiiejdaiaocaaDoor
open Go.ChangeShapes Go.WideShapes Go.RowKit
open Abs
set_option linter.unusedVariables false
set_option linter.unusedSimpArgs false
set_option maxRecDepth 10000
namespace Md
def c_Arr8Consoleformat (x : Arr8Consoleformat) : List CV := [.val (Sv x.x0.word), .val (Sv x.x0.words), cI x.x0.min, cI x.x0.max, .val (Sv x.x1.word), .val (Sv x.x1.words), cI x.x1.min, cI x.x1.max, .val (Sv x.x2.word), .val (Sv x.x2.words), cI x.x2.min, cI x.x2.max, .val (Sv x.x3.word), .val (Sv x.x3.words), cI x.x3.min, cI x.x3.max, .val (Sv x.x4.word), .val (Sv x.x4.words), cI x.x4.min, cI x.x4.max, .val (Sv x.x5.word), .val (Sv x.x5.words), cI x.x5.min, cI x.x5.max, .val (Sv x.x6.word), .val (Sv x.x6.words), cI x.x6.min, cI x.x6.max, .val (Sv x.x7.word), .val (Sv x.x7.words), cI x.x7.min, cI x.x7.max]
def c_ConsoleCommand (x : ConsoleCommand) : List CV := [cI x.Kind, .val (Sv x.Topic), .val (Sv x.Actor.fType), .val (Sv x.Actor.Key), .val (Sv x.Method), cI x.Number]
def c_Ref (x : Ref) : List CV := [.val (Sv x.fType), .val (Sv x.Key)]
set_option maxHeartbeats 2000000 in
theorem internal_stringslite_Cut_fn (k : Nat) (a0 : List UInt8) (a1 : List UInt8) (r : (List UInt8) × (List UInt8) × Bool) (h : internal_stringslite_Cut k a0 a1 = some r) : FnC Tryd.prog 79 [.one (.val (Sv a0)), .one (.val (Sv a1))] [] (Det (.tup [.one (.val (Sv r.1)), .one (.val (Sv r.2.1)), vB r.2.2]) []) := by
  unfold internal_stringslite_Cut at h
  refine fn_intro' 23 Tryd.func79 rfl rfl rfl (aw_seq (aw_region ?_))
  iterate 3 refine s_sa ?_
  refine aops_nil (aw_seq (aw_seq (aw_region ?_)))
  iterate 2 refine s_mv ?_
  obtain ⟨x1, hx1, h⟩ := Md.bind_s h
  refine aops_step1 rfl (ev_call_v (internal_stringslite_Index_fn k a0 a1 x1 hx1) rfl [] ai rfl rfl rfl (.inl rfl) rfl) (s_sa ?_)
  refine aops_nil (aw_seq (aw_region (s_mv ?_)))
  refine s_cm ?_
  refine aops_nil ?_
  refine aw_cond rfl (fun c2 => ?_) (fun c2 => ?_)
  · replace h := Md.cond_t h c2
    obtain ⟨g3, h⟩ := Md.ifp_s h
    obtain ⟨g4, h⟩ := Md.ifp_s h
    obtain ⟨g5, h⟩ := Md.ifp_s h
    obtain ⟨g6, h⟩ := Md.ifp_s h
    refine aw_seq ?_
    apply aw_draw 10 ((⟨[], .one (.val (Sv a0))⟩ : Add) :: ⟨[], vI x1⟩ :: ⟨[], .one (.val (Sv (a0.take ((x1).toNat))))⟩ :: ⟨[], .one (.val (Sv a0))⟩ :: ⟨[], vI x1⟩ :: ⟨[], .one (.val (Sv a1))⟩ :: ⟨[], vI ((a1.length : Nat) : Int)⟩ :: ⟨[], vI (Md.W (x1 + ((a1.length : Nat) : Int)))⟩ :: ⟨[], .one (.val (Sv (a0.drop (((Md.W (x1 + ((a1.length : Nat) : Int)))).toNat))))⟩ :: ⟨[], .one (.val (Sv (a0.take ((x1).toNat))))⟩ :: []) (by decide) rfl ?hk1x ?hf1x ?ho1x ?hr1x
    case ho1x =>
     refine ob [] (fun S hle hfr => .inl ⟨w0, st_move (hle.e rfl) (hle.d rfl)⟩) (ob [] (fun S hle hfr => .inl ⟨w0, st_move (hle.e rfl) (hle.d rfl)⟩) ?_)
     refine ob [0, 1] (fun S hle hfr => .inl ⟨w0, st_cut_hi_s (hle.e rfl) ⟨_, _, (hle.e rfl), (Md.nn_eq g3)⟩ g4 (hle.d rfl)⟩) ?_
     iterate 3 refine ob [] (fun S hle hfr => .inl ⟨w0, st_move (hle.e rfl) (hle.d rfl)⟩) ?_
     refine ob [5] (fun S hle hfr => .inl ⟨w0, st_len_str (hle.e rfl) (hle.d rfl)⟩) ?_
     refine ob [4, 6, 5] (fun S hle hfr => .inl ⟨w0, ev_add (hle.e rfl) (hle.e rfl) (hle.d rfl) (Md.wrap_W _)⟩) ?_
     refine ob [3, 7, 4, 6, 5] (fun S hle hfr => .inl ⟨w0, st_cut_lo_s (hle.e rfl) ⟨_, _, (hle.e rfl), (Md.nn_eq g5)⟩ g6 (hle.d rfl)⟩) ?_
     refine ob [2, 0, 1] (fun S hle hfr => .inl ⟨w0, st_assign (hle.e rfl) (hle.d rfl)⟩) ?_
     exact trivial
    case hk1x => rfl
    case hf1x => rfl
    iterate 2 refine s_sa ?_
    refine aops_nil ?_
    cases Option.some.inj h
    exact aw_ret ⟨rfl, rv (rn (.cons o1 (.cons o1 (.cons o1 .nil))))⟩
  replace h := Md.cond_f h c2
  refine aw_skip (aw_seq (aw_region (s_mv ?_)))
  iterate 3 refine s_sa ?_
  refine aops_nil ?_
  cases Option.some.inj h
  exact aw_ret ⟨rfl, rv (rn (.cons o1 (.cons o1 (.cons o1 .nil))))⟩
set_option maxHeartbeats 2000000 in
theorem strings_Cut_fn (k : Nat) (a0 : List UInt8) (a1 : List UInt8) (r : (List UInt8) × (List UInt8) × Bool) (h : strings_Cut k a0 a1 = some r) : FnC Tryd.prog 61 [.one (.val (Sv a0)), .one (.val (Sv a1))] [] (Det (.tup [.one (.val (Sv r.1)), .one (.val (Sv r.2.1)), vB r.2.2]) []) := by
  unfold strings_Cut at h
  refine fn_intro' 13 Tryd.func61 rfl rfl rfl (aw_seq (aw_region ?_))
  iterate 3 refine s_sa ?_
  refine aops_nil (aw_seq (aw_region ?_))
  iterate 2 refine s_mv ?_
  obtain ⟨x1, hx1, h⟩ := Md.bind_s h
  refine aops_step1 rfl (ev_call_v (internal_stringslite_Cut_fn k a0 a1 x1 hx1) rfl [] ai rfl rfl rfl (.inl rfl) rfl) ?_
  iterate 3 refine s_ex ?_
  iterate 3 refine s_sa ?_
  refine aops_nil ?_
  cases Option.some.inj h
  exact aw_ret ⟨rfl, rv (rn (.cons o1 (.cons o1 (.cons o1 .nil))))⟩
set_option maxHeartbeats 2000000 in
theorem console_formats_fn (k : Nat) (r : Arr8Consoleformat) (h : console_formats k = some r) : FnC Tryd.prog 38 [] [] (Det (.agg (c_Arr8Consoleformat r)) []) := by
  unfold console_formats at h
  refine fn_intro' 9 Tryd.func38 rfl rfl rfl (aw_seq (aw_region ?_))
  refine aops_step1 rfl (st_alloc (cs := [.val (Sv []), .val (Sv []), cI 0, cI 0, .val (Sv []), .val (Sv []), cI 0, cI 0, .val (Sv []), .val (Sv []), cI 0, cI 0, .val (Sv []), .val (Sv []), cI 0, cI 0, .val (Sv []), .val (Sv []), cI 0, cI 0, .val (Sv []), .val (Sv []), cI 0, cI 0, .val (Sv []), .val (Sv []), cI 0, cI 0, .val (Sv []), .val (Sv []), cI 0, cI 0]) 0 rfl rfl rfl rfl rfl) ?_
  refine aops_nil (aw_seq (aw_region ?_))
  iterate 7 refine aops_step1 rfl (ev_build' (out := [_, _, _, _]) rfl rfl rfl rfl rfl) ?_
  refine aops_step1 rfl (ev_build_arr' (out := [_, _, _, _, _, _, _, _, _, _, _, _, _, _, _, _, _, _, _, _, _, _, _, _, _, _, _, _, _, _, _, _]) rfl rfl rfl rfl rfl) (s_st [_, _, _, _, _, _, _, _, _, _, _, _, _, _, _, _, _, _, _, _, _, _, _, _, _, _, _, _, _, _, _, _] ?_)
  refine aops_nil ?_
  cases Option.some.inj h
  exact aw_ret ⟨rfl, rv (rg [_, _, _, _, _, _, _, _, _, _, _, _, _, _, _, _, _, _, _, _, _, _, _, _, _, _, _, _, _, _, _, _])⟩
set_option maxHeartbeats 2000000 in
theorem console_Name_fn (k : Nat) (a0 : List UInt8) (r : Bool) (h : console_Name k a0 = some r) : FnC Tryd.prog 19 [.one (.val (Sv a0))] [] (Det (vB r) []) := by
  unfold console_Name at h
  refine fn_intro' 55 Tryd.func19 rfl rfl rfl (aw_seq (aw_region (s_sa ?_)))
  refine aops_nil (aw_seq (aw_seq (aw_region (s_mv ?_))))
  refine aops_step1 rfl (st_len_str rfl rfl) (s_cm ?_)
  refine s_mv ?_
  refine aops_mid 4 (⟨55, [], [(0, .one (.val (Sv a0))), (13, vB ((decide (((a0.length : Nat) : Int) < 1)) || (decide (((a0.length : Nat) : Int) > 32))))], []⟩ : ASt) ?_ ?_
  · rcases Md.bool_or ((decide (((a0.length : Nat) : Int) < 1))) with q1 | q1
    · skip
      iterate 3 refine np q1 ?_
      refine s_py q1 ?_
      refine aops_nil ?_
      exact wq q1
    refine y_mv q1 ?_
    refine aops_yes rfl rfl rfl rfl q1 (st_len_str rfl rfl) (y_cm q1 ?_)
    refine s_pn q1 ?_
    refine aops_nil ?_
    exact wq q1
  refine aops_nil ?_
  refine aw_cond rfl (fun c2 => ?_) (fun c2 => ?_)
  · replace h := Md.cond_t h c2
    refine aw_seq (aw_region (s_sa ?_))
    refine aops_nil ?_
    cases Option.some.inj h
    exact aw_ret ⟨rfl, rv r1⟩
  replace h := Md.cond_f h c2
  refine aw_skip (aw_seq (aw_seq (aw_region (s_mv ?_))))
  refine aops_step1 rfl (st_len_str rfl rfl) (s_mv ?_)
  refine aops_nil (aw_block ?_)
  obtain ⟨o3, ho3, h⟩ := Md.bind_s h
  refine aw_loop_x (ι := {p : Nat × Nat // console_Name_loop1 k a0 p.1 p.2 = some o3}) (fun p => (⟨55, [], [(0, .one (.val (Sv a0))), (15, vI ((a0.length : Nat) : Int)), (16, vI ((p.1.2 : Nat) : Int))], []⟩ : ASt)) (fun p => p.1.1) ⟨(k, 0), ho3⟩ wk 0 (ε := Unit) (fun x => (⟨55, [], [], []⟩ : ASt)) (fun x => Sum.inl x = o3) (fun _ _ w h => aw_weak w h) ?_ ?_
  · intro x3_0 hI3
    subst hI3
    replace h := Md.onS_l h
    change AW _ _ (⟨55, [], [], []⟩ : ASt) _
    refine aw_seq (aw_region (s_sa ?_))
    refine aops_nil ?_
    cases Option.some.inj h
    exact aw_ret ⟨rfl, rv r1⟩
  intro p3
  obtain ⟨⟨n3, s3_0⟩, l3⟩ := p3
  change AW _ _ (⟨55, [], [(0, .one (.val (Sv a0))), (15, vI ((a0.length : Nat) : Int)), (16, vI ((s3_0 : Nat) : Int))], []⟩ : ASt) _
  replace l3 : console_Name_loop1 k a0 n3 s3_0 = some o3 := l3
  rcases n3 with _ | n3
  · exact absurd (show none = some o3 from l3) nofun
  rw [console_Name_loop1] at l3
  refine aw_seq (aw_region (s_cm ?_))
  refine aops_nil (aw_seq ?_)
  refine aw_cond rfl (fun c4 => ?_) (fun c4 => ?_)
  · replace l3 := Md.cond_t l3 c4
    refine aw_skip (aw_seq (aw_block (aw_seq (aw_region (s_mv ?_)))))
    refine s_sa ?_
    refine aops_nil (aw_seq (aw_region ?_))
    iterate 2 refine s_mv ?_
    obtain ⟨g5, l3⟩ := Md.ifp_s l3
    refine aops_step1 rfl (st_index_str rfl rfl rfl g5 rfl) (s_sa ?_)
    refine aops_nil (aw_seq (aw_region (s_mv ?_)))
    refine s_cm ?_
    refine s_mv ?_
    refine aops_mid 3 (⟨55, [], [(0, .one (.val (Sv a0))), (3, vI ((s3_0 : Nat) : Int)), (4, .one (.val (.int .u8 (((a0.getD s3_0 0)).toNat : Int)))), (15, vI ((a0.length : Nat) : Int)), (16, vI ((s3_0 : Nat) : Int)), (27, vB ((decide ((((a0.getD s3_0 0)).toNat : Int) ≥ 97)) && (decide ((((a0.getD s3_0 0)).toNat : Int) ≤ 122))))], []⟩ : ASt) ?_ ?_
    · rcases Md.bool_or ((decide ((((a0.getD s3_0 0)).toNat : Int) ≥ 97))) with q6 | q6
      · skip
        refine y_mv q6 ?_
        refine y_cm q6 ?_
        refine s_py q6 ?_
        refine aops_nil ?_
        exact wq q6
      iterate 2 refine np q6 ?_
      refine s_pn q6 ?_
      refine aops_nil ?_
      exact wq q6
    refine s_mv ?_
    refine aops_mid 7 (⟨55, [], [(0, .one (.val (Sv a0))), (3, vI ((s3_0 : Nat) : Int)), (4, .one (.val (.int .u8 (((a0.getD s3_0 0)).toNat : Int)))), (15, vI ((a0.length : Nat) : Int)), (16, vI ((s3_0 : Nat) : Int)), (35, vB (((decide ((((a0.getD s3_0 0)).toNat : Int) ≥ 97)) && (decide ((((a0.getD s3_0 0)).toNat : Int) ≤ 122))) || ((decide ((((a0.getD s3_0 0)).toNat : Int) ≥ 65)) && (decide ((((a0.getD s3_0 0)).toNat : Int) ≤ 90)))))], []⟩ : ASt) ?_ ?_
    · rcases Md.bool_or (((decide ((((a0.getD s3_0 0)).toNat : Int) ≥ 97)) && (decide ((((a0.getD s3_0 0)).toNat : Int) ≤ 122)))) with q7 | q7
      · skip
        iterate 3 refine np q7 ?_
        refine aops_und rfl rfl rfl rfl rfl (aops_und rfl rfl rfl rfl rfl (np q7 ?_))
        refine s_py q7 ?_
        refine aops_nil ?_
        exact wq q7
      refine y_mv q7 ?_
      refine y_cm q7 ?_
      refine y_mv q7 ?_
      refine aops_mid 3 (⟨55, [], [(0, .one (.val (Sv a0))), (3, vI ((s3_0 : Nat) : Int)), (4, .one (.val (.int .u8 (((a0.getD s3_0 0)).toNat : Int)))), (15, vI ((a0.length : Nat) : Int)), (16, vI ((s3_0 : Nat) : Int)), (28, vB ((decide ((((a0.getD s3_0 0)).toNat : Int) ≥ 97)) && (decide ((((a0.getD s3_0 0)).toNat : Int) ≤ 122)))), (34, vB ((decide ((((a0.getD s3_0 0)).toNat : Int) ≥ 65)) && (decide ((((a0.getD s3_0 0)).toNat : Int) ≤ 90))))], []⟩ : ASt) ?_ ?_
      · rcases Md.bool_or ((decide ((((a0.getD s3_0 0)).toNat : Int) ≥ 65))) with q8 | q8
        · skip
          refine y_mv q8 ?_
          refine y_cm q8 ?_
          refine aops_yes rfl rfl rfl rfl q7 (st_pick_yes rfl (by first | rfl | exact q8) rfl rfl) (aops_nil ?_)
          exact wq q8
        iterate 2 refine np q8 ?_
        refine aops_yes rfl rfl rfl rfl q7 (st_pick_no rfl (by first | rfl | exact q8) rfl rfl) (aops_nil ?_)
        exact wq q8
      change AOps _ _ _ (⟨55, [], [(0, .one (.val (Sv a0))), (3, vI ((s3_0 : Nat) : Int)), (4, .one (.val (.int .u8 (((a0.getD s3_0 0)).toNat : Int)))), (15, vI ((a0.length : Nat) : Int)), (16, vI ((s3_0 : Nat) : Int)), (28, vB ((decide ((((a0.getD s3_0 0)).toNat : Int) ≥ 97)) && (decide ((((a0.getD s3_0 0)).toNat : Int) ≤ 122)))), (34, vB ((decide ((((a0.getD s3_0 0)).toNat : Int) ≥ 65)) && (decide ((((a0.getD s3_0 0)).toNat : Int) ≤ 90))))], []⟩ : ASt) _
      refine s_pn q7 ?_
      refine aops_nil ?_
      exact wq q7
    refine s_mv ?_
    refine aops_mid 3 (⟨55, [], [(0, .one (.val (Sv a0))), (3, vI ((s3_0 : Nat) : Int)), (4, .one (.val (.int .u8 (((a0.getD s3_0 0)).toNat : Int)))), (15, vI ((a0.length : Nat) : Int)), (16, vI ((s3_0 : Nat) : Int)), (39, vB ((((decide ((((a0.getD s3_0 0)).toNat : Int) ≥ 97)) && (decide ((((a0.getD s3_0 0)).toNat : Int) ≤ 122))) || ((decide ((((a0.getD s3_0 0)).toNat : Int) ≥ 65)) && (decide ((((a0.getD s3_0 0)).toNat : Int) ≤ 90)))) || ((((a0.getD s3_0 0)).toNat : Int) == 95)))], []⟩ : ASt) ?_ ?_
    · rcases Md.bool_or ((((decide ((((a0.getD s3_0 0)).toNat : Int) ≥ 97)) && (decide ((((a0.getD s3_0 0)).toNat : Int) ≤ 122))) || ((decide ((((a0.getD s3_0 0)).toNat : Int) ≥ 65)) && (decide ((((a0.getD s3_0 0)).toNat : Int) ≤ 90))))) with q9 | q9
      · skip
        iterate 2 refine np q9 ?_
        refine s_py q9 ?_
        refine aops_nil ?_
        exact wq q9
      refine y_mv q9 ?_
      refine y_cm q9 ?_
      refine s_pn q9 ?_
      refine aops_nil ?_
      exact wq q9
    refine s_sa ?_
    refine aops_nil (aw_seq (aw_region (s_mv ?_)))
    refine s_nt ?_
    refine s_mv ?_
    refine aops_mid 11 (⟨55, [], [(0, .one (.val (Sv a0))), (15, vI ((a0.length : Nat) : Int)), (16, vI ((s3_0 : Nat) : Int)), (53, vB ((!((((decide ((((a0.getD s3_0 0)).toNat : Int) ≥ 97)) && (decide ((((a0.getD s3_0 0)).toNat : Int) ≤ 122))) || ((decide ((((a0.getD s3_0 0)).toNat : Int) ≥ 65)) && (decide ((((a0.getD s3_0 0)).toNat : Int) ≤ 90)))) || ((((a0.getD s3_0 0)).toNat : Int) == 95))) && (((((s3_0 : Nat) : Int) == 0) || (decide ((((a0.getD s3_0 0)).toNat : Int) < 48))) || (decide ((((a0.getD s3_0 0)).toNat : Int) > 57)))))], []⟩ : ASt) ?_ ?_
    · rcases Md.bool_or ((!((((decide ((((a0.getD s3_0 0)).toNat : Int) ≥ 97)) && (decide ((((a0.getD s3_0 0)).toNat : Int) ≤ 122))) || ((decide ((((a0.getD s3_0 0)).toNat : Int) ≥ 65)) && (decide ((((a0.getD s3_0 0)).toNat : Int) ≤ 90)))) || ((((a0.getD s3_0 0)).toNat : Int) == 95)))) with q10 | q10
      · skip
        refine y_mv q10 ?_
        refine y_cm q10 ?_
        refine y_mv q10 ?_
        refine aops_mid 3 (⟨55, [], [(0, .one (.val (Sv a0))), (4, .one (.val (.int .u8 (((a0.getD s3_0 0)).toNat : Int)))), (15, vI ((a0.length : Nat) : Int)), (16, vI ((s3_0 : Nat) : Int)), (42, vB (!((((decide ((((a0.getD s3_0 0)).toNat : Int) ≥ 97)) && (decide ((((a0.getD s3_0 0)).toNat : Int) ≤ 122))) || ((decide ((((a0.getD s3_0 0)).toNat : Int) ≥ 65)) && (decide ((((a0.getD s3_0 0)).toNat : Int) ≤ 90)))) || ((((a0.getD s3_0 0)).toNat : Int) == 95)))), (48, vB ((((s3_0 : Nat) : Int) == 0) || (decide ((((a0.getD s3_0 0)).toNat : Int) < 48))))], []⟩ : ASt) ?_ ?_
        · rcases Md.bool_or ((((s3_0 : Nat) : Int) == 0)) with q11 | q11
          · skip
            iterate 2 refine np q11 ?_
            refine aops_yes rfl rfl rfl rfl q10 (st_pick_yes rfl (by first | rfl | exact q11) rfl rfl) (aops_nil ?_)
            exact wq q11
          refine y_mv q11 ?_
          refine y_cm q11 ?_
          refine aops_yes rfl rfl rfl rfl q10 (st_pick_no rfl (by first | rfl | exact q11) rfl rfl) (aops_nil ?_)
          exact wq q11
        change AOps _ _ _ (⟨55, [], [(0, .one (.val (Sv a0))), (4, .one (.val (.int .u8 (((a0.getD s3_0 0)).toNat : Int)))), (15, vI ((a0.length : Nat) : Int)), (16, vI ((s3_0 : Nat) : Int)), (42, vB (!((((decide ((((a0.getD s3_0 0)).toNat : Int) ≥ 97)) && (decide ((((a0.getD s3_0 0)).toNat : Int) ≤ 122))) || ((decide ((((a0.getD s3_0 0)).toNat : Int) ≥ 65)) && (decide ((((a0.getD s3_0 0)).toNat : Int) ≤ 90)))) || ((((a0.getD s3_0 0)).toNat : Int) == 95)))), (48, vB ((((s3_0 : Nat) : Int) == 0) || (decide ((((a0.getD s3_0 0)).toNat : Int) < 48))))], []⟩ : ASt) _
        refine y_mv q10 ?_
        refine aops_mid 3 (⟨55, [], [(0, .one (.val (Sv a0))), (15, vI ((a0.length : Nat) : Int)), (16, vI ((s3_0 : Nat) : Int)), (42, vB (!((((decide ((((a0.getD s3_0 0)).toNat : Int) ≥ 97)) && (decide ((((a0.getD s3_0 0)).toNat : Int) ≤ 122))) || ((decide ((((a0.getD s3_0 0)).toNat : Int) ≥ 65)) && (decide ((((a0.getD s3_0 0)).toNat : Int) ≤ 90)))) || ((((a0.getD s3_0 0)).toNat : Int) == 95)))), (52, vB (((((s3_0 : Nat) : Int) == 0) || (decide ((((a0.getD s3_0 0)).toNat : Int) < 48))) || (decide ((((a0.getD s3_0 0)).toNat : Int) > 57))))], []⟩ : ASt) ?_ ?_
        · rcases Md.bool_or (((((s3_0 : Nat) : Int) == 0) || (decide ((((a0.getD s3_0 0)).toNat : Int) < 48)))) with q12 | q12
          · skip
            iterate 2 refine np q12 ?_
            refine aops_yes rfl rfl rfl rfl q10 (st_pick_yes rfl (by first | rfl | exact q12) rfl rfl) (aops_nil ?_)
            exact wq q12
          refine y_mv q12 ?_
          refine y_cm q12 ?_
          refine aops_yes rfl rfl rfl rfl q10 (st_pick_no rfl (by first | rfl | exact q12) rfl rfl) (aops_nil ?_)
          exact wq q12
        change AOps _ _ _ (⟨55, [], [(0, .one (.val (Sv a0))), (15, vI ((a0.length : Nat) : Int)), (16, vI ((s3_0 : Nat) : Int)), (42, vB (!((((decide ((((a0.getD s3_0 0)).toNat : Int) ≥ 97)) && (decide ((((a0.getD s3_0 0)).toNat : Int) ≤ 122))) || ((decide ((((a0.getD s3_0 0)).toNat : Int) ≥ 65)) && (decide ((((a0.getD s3_0 0)).toNat : Int) ≤ 90)))) || ((((a0.getD s3_0 0)).toNat : Int) == 95)))), (52, vB (((((s3_0 : Nat) : Int) == 0) || (decide ((((a0.getD s3_0 0)).toNat : Int) < 48))) || (decide ((((a0.getD s3_0 0)).toNat : Int) > 57))))], []⟩ : ASt) _
        refine s_py q10 ?_
        refine aops_nil ?_
        exact wq q10
      iterate 3 refine np q10 ?_
      refine aops_und rfl rfl rfl rfl rfl (aops_und rfl rfl rfl rfl rfl ?_)
      iterate 2 refine np q10 ?_
      refine aops_und rfl rfl rfl rfl rfl (aops_und rfl rfl rfl rfl rfl (np q10 ?_))
      refine s_pn q10 ?_
      refine aops_nil ?_
      exact wq q10
    refine aops_nil ?_
    refine aw_cond rfl (fun c13 => ?_) (fun c13 => ?_)
    · replace l3 := Md.cond_t l3 c13
      refine aw_seq (aw_region (s_sa ?_))
      refine aops_nil ?_
      cases Option.some.inj l3
      replace h := Md.onS_r h
      cases Option.some.inj h
      exact aw_ret ⟨rfl, rv r1⟩
    replace l3 := Md.cond_f l3 c13
    refine aw_skip (aw_region ?_)
    obtain ⟨g14, l3⟩ := Md.ifp_s l3
    refine aops_step1 rfl (ev_add rfl rfl rfl (Md.nat_add g14)) (s_mv ?_)
    refine aops_nil ?_
    exact ⟨⟨(n3, (s3_0 + 1)), l3⟩, Nat.lt_succ_self _, wk⟩
  replace l3 := Md.cond_f l3 c4
  refine aw_exit ?_
  show ∃ _x : Unit, _ = _ ∧ Weak _ _
  exact ⟨(), Option.some.inj l3, wk⟩
set_option maxHeartbeats 2000000 in
theorem console_bare_fn (k : Nat) (a0 : ConsoleCommand) (a1 : List UInt8) (r : ConsoleCommand) (h : console_bare k a0 a1 = some r) : FnC Tryd.prog 39 [.agg (c_ConsoleCommand a0), .one (.val (Sv a1))] [] (Det (.agg (c_ConsoleCommand r)) []) := by
  unfold console_bare at h
  refine fn_intro' 47 Tryd.func39 rfl rfl rfl (aw_seq (aw_region (aops_step1 rfl (st_box 0 rfl rfl rfl rfl) ?_)))
  refine aops_step1 rfl (st_alloc (cs := [cI 0, .val (Sv []), .val (Sv []), .val (Sv []), .val (Sv []), cI 0]) 1 rfl rfl rfl rfl rfl) (aops_nil (aw_seq (aw_region (s_fd ?_))))
  refine s_ld ?_
  refine aops_step1 rfl (ev_build' (out := [_, _, _, _, _, _]) rfl rfl rfl rfl rfl) ?_
  refine aops_step1 rfl (st_alloc (cs := [cI 0, .val (Sv []), .val (Sv []), .val (Sv []), .val (Sv []), cI 0]) 2 rfl rfl rfl rfl rfl) (s_st [_, _, _, _, _, _] ?_)
  refine aops_nil (aw_seq (aw_seq (aw_region (s_mv ?_))))
  refine aops_step1 rfl (ev_range 3 rfl rfl rfl) (aops_nil (aw_block ?_))
  obtain ⟨o1, ho1, h⟩ := Md.bind_s h
  refine aw_loop_x (ι := {p : Nat × ConsoleCommand × Nat // console_bare_loop1 k a0 a1 p.1 p.2.1 p.2.2 = some o1}) (fun p => (⟨47, [], [(2, .one (.ptr 0 0)), (4, .one (.ptr 1 0)), (5, .one (.ptr 2 0)), (12, .one (.itp 3))], [(0, some (.box (c_ConsoleCommand a0))), (1, some (.box [cI 0, .val (Sv []), .val (Sv []), .val (Sv []), .val (Sv []), cI 0])), (2, some (.box (c_ConsoleCommand p.1.2.1))), (3, some (itB a1 p.1.2.2))]⟩ : ASt)) (fun p => p.1.1) ⟨(k, (⟨a0.Kind, ([] : List UInt8), (⟨([] : List UInt8), ([] : List UInt8)⟩ : Ref), ([] : List UInt8), 0⟩ : ConsoleCommand), 0), ho1⟩ wk 0 (ε := ConsoleCommand) (fun x => (⟨47, [], [(4, .one (.ptr 1 0)), (5, .one (.ptr 2 0))], [(1, some (.box [cI 0, .val (Sv []), .val (Sv []), .val (Sv []), .val (Sv []), cI 0])), (2, some (.box ([cI x.Kind, .val (Sv x.Topic)] ++ c_Ref x.Actor ++ [.val (Sv x.Method), cI x.Number])))]⟩ : ASt)) (fun x => x = o1) (fun _ _ w h => aw_weak w h) ?_ ?_
  · intro x1_0 hI1
    subst hI1
    change AW _ _ (⟨47, [], [(4, .one (.ptr 1 0)), (5, .one (.ptr 2 0))], [(1, some (.box [cI 0, .val (Sv []), .val (Sv []), .val (Sv []), .val (Sv []), cI 0])), (2, some (.box (c_ConsoleCommand x1_0)))]⟩ : ASt) _
    refine aw_seq (aw_region (s_ls [_, _, _, _, _, _] ?_))
    refine s_st [_, _, _, _, _, _] ?_
    refine aops_nil ?_
    cases Option.some.inj h
    exact aw_ret ⟨rfl, rv (rg [_, _, _, _, _, _])⟩
  intro p1
  obtain ⟨⟨n1, s1_0, s1_1⟩, l1⟩ := p1
  change AW _ _ (⟨47, [], [(2, .one (.ptr 0 0)), (4, .one (.ptr 1 0)), (5, .one (.ptr 2 0)), (12, .one (.itp 3))], [(0, some (.box (c_ConsoleCommand a0))), (1, some (.box [cI 0, .val (Sv []), .val (Sv []), .val (Sv []), .val (Sv []), cI 0])), (2, some (.box (c_ConsoleCommand s1_0))), (3, some (itB a1 s1_1))]⟩ : ASt) _
  replace l1 : console_bare_loop1 k a0 a1 n1 s1_0 s1_1 = some o1 := l1
  rcases n1 with _ | n1
  · exact absurd (show none = some o1 from l1) nofun
  rw [console_bare_loop1] at l1
  refine aw_seq (aw_region ?_)
  rcases Md.bool_or ((decide (s1_1 < a1.length))) with q2 | q2
  · replace l1 := Md.cond_t l1 q2
    obtain ⟨g3, l1⟩ := Md.ifp_s l1
    refine aops_step1 rfl (ev_next_yes rfl rfl (of_decide_eq_true q2) g3 rfl) (s_ex ?_)
    refine aops_nil (aw_seq (aw_yes rfl (rfl) (aw_skip (aw_block (aw_seq (aw_region (s_ex ?_)))))))
    refine s_sa ?_
    refine aops_nil (aw_seq (aw_region (s_mv ?_)))
    refine aops_nil (aw_block (aw_seq (aw_region (s_cm ?_))))
    refine s_sa ?_
    refine aops_nil ?_
    refine aw_cond rfl (fun c4 => ?_) (fun c4 => ?_)
    · replace l1 := Md.cond_t l1 c4
      refine aw_region (s_fd ?_)
      refine s_ld ?_
      refine s_fd ?_
      refine s_st [_, _, _, _, _, _] ?_
      refine aops_nil ?_
      exact ⟨⟨(n1, (⟨s1_0.Kind, a0.Topic, s1_0.Actor, s1_0.Method, s1_0.Number⟩ : ConsoleCommand), (s1_1 + 1)), l1⟩, Nat.lt_succ_self _, wk⟩
    replace l1 := Md.cond_f l1 c4
    refine aw_seq (aw_region (s_cm ?_))
    refine s_sa ?_
    refine aops_nil ?_
    refine aw_cond rfl (fun c5 => ?_) (fun c5 => ?_)
    · replace l1 := Md.cond_t l1 c5
      refine aw_region ?_
      iterate 2 refine s_fd ?_
      refine s_ld ?_
      iterate 2 refine s_fd ?_
      refine s_st [_, _, _, _, _, _] ?_
      refine aops_nil ?_
      exact ⟨⟨(n1, (⟨s1_0.Kind, s1_0.Topic, (⟨a0.Actor.fType, s1_0.Actor.Key⟩ : Ref), s1_0.Method, s1_0.Number⟩ : ConsoleCommand), (s1_1 + 1)), l1⟩, Nat.lt_succ_self _, wk⟩
    replace l1 := Md.cond_f l1 c5
    refine aw_seq (aw_region (s_cm ?_))
    refine s_sa ?_
    refine aops_nil ?_
    refine aw_cond rfl (fun c6 => ?_) (fun c6 => ?_)
    · replace l1 := Md.cond_t l1 c6
      refine aw_region ?_
      iterate 2 refine s_fd ?_
      refine s_ld ?_
      iterate 2 refine s_fd ?_
      refine s_st [_, _, _, _, _, _] ?_
      refine aops_nil ?_
      exact ⟨⟨(n1, (⟨s1_0.Kind, s1_0.Topic, (⟨s1_0.Actor.fType, a0.Actor.Key⟩ : Ref), s1_0.Method, s1_0.Number⟩ : ConsoleCommand), (s1_1 + 1)), l1⟩, Nat.lt_succ_self _, wk⟩
    replace l1 := Md.cond_f l1 c6
    refine aw_seq (aw_region (s_cm ?_))
    refine s_sa ?_
    refine aops_nil ?_
    refine aw_cond rfl (fun c7 => ?_) (fun c7 => ?_)
    · replace l1 := Md.cond_t l1 c7
      refine aw_region (s_fd ?_)
      refine s_ld ?_
      refine s_fd ?_
      refine s_st [_, _, _, _, _, _] ?_
      refine aops_nil ?_
      exact ⟨⟨(n1, (⟨s1_0.Kind, s1_0.Topic, s1_0.Actor, a0.Method, s1_0.Number⟩ : ConsoleCommand), (s1_1 + 1)), l1⟩, Nat.lt_succ_self _, wk⟩
    replace l1 := Md.cond_f l1 c7
    refine aw_seq (aw_region (s_cm ?_))
    refine s_sa ?_
    refine aops_nil ?_
    refine aw_cond rfl (fun c8 => ?_) (fun c8 => ?_)
    · replace l1 := Md.cond_t l1 c8
      refine aw_region (s_fd ?_)
      refine s_ld ?_
      refine s_fd ?_
      refine s_st [_, _, _, _, _, _] ?_
      refine aops_nil ?_
      exact ⟨⟨(n1, (⟨s1_0.Kind, s1_0.Topic, s1_0.Actor, s1_0.Method, a0.Number⟩ : ConsoleCommand), (s1_1 + 1)), l1⟩, Nat.lt_succ_self _, wk⟩
    replace l1 := Md.cond_f l1 c8
    refine aw_skip ?_
    exact ⟨⟨(n1, s1_0, (s1_1 + 1)), l1⟩, Nat.lt_succ_self _, wk⟩
  replace l1 := Md.cond_f l1 q2
  refine aops_step1 rfl (ev_next_no rfl rfl (of_decide_eq_false q2) rfl) (s_ex ?_)
  refine aops_nil (aw_seq (aw_no rfl (rfl) (aw_exit ?_)))
  show ∃ _x : ConsoleCommand, _ = _ ∧ Weak _ _
  exact ⟨s1_0, Option.some.inj l1, wk⟩
set_option maxHeartbeats 2000000 in
theorem console_plain_fn (k : Nat) (a0 : UInt8) (r : Bool) (h : console_plain k a0 = some r) : FnC Tryd.prog 43 [.one (.val (.int .u8 (a0.toNat : Int)))] [] (Det (vB r) []) := by
  unfold console_plain at h
  refine fn_intro' 9 Tryd.func43 rfl rfl rfl (aw_seq (aw_region (s_sa ?_)))
  refine aops_nil (aw_seq (aw_region (s_mv ?_)))
  refine s_cm ?_
  refine s_mv ?_
  refine aops_mid 3 (⟨9, [], [(2, vB false), (8, vB ((decide ((a0.toNat : Int) ≥ 32)) && (decide ((a0.toNat : Int) ≤ 126))))], []⟩ : ASt) ?_ ?_
  · rcases Md.bool_or ((decide ((a0.toNat : Int) ≥ 32))) with q1 | q1
    · skip
      refine y_mv q1 ?_
      refine y_cm q1 ?_
      refine s_py q1 ?_
      refine aops_nil ?_
      exact wq q1
    iterate 2 refine np q1 ?_
    refine s_pn q1 ?_
    refine aops_nil ?_
    exact wq q1
  refine s_sa ?_
  refine aops_nil ?_
  cases Option.some.inj h
  exact aw_ret ⟨rfl, rv r1⟩
set_option maxHeartbeats 2000000 in
theorem console_Quote_fn (k : Nat) (a0 : List UInt8) (r : (List UInt8)) (h : console_Quote k a0 = some r) : FnC Tryd.prog 21 [.one (.val (Sv a0))] [] (Det (.one (.val (Sv r))) []) := by
  unfold console_Quote at h
  refine fn_intro' 47 Tryd.func21 rfl rfl rfl (aw_seq (aw_region (s_sa ?_)))
  refine aops_nil (aw_seq (aw_region ?_))
  refine aops_step1 rfl (st_slice_lit (el := lsEl byC [(34 : UInt8)]) 0 rfl rfl rfl rfl rfl rfl rfl rfl (lit_el byC 1 [(34 : UInt8)] (fun _ => rfl)) rfl) (s_sa ?_)
  refine aops_nil (aw_seq (aw_seq (aw_region (s_mv ?_))))
  refine aops_step1 rfl (st_len_str rfl rfl) (s_mv ?_)
  refine aops_nil (aw_block ?_)
  obtain ⟨o1, ho1, h⟩ := Md.bind_s h
  refine aw_loop_x (ι := {p : Nat × Nat × (List UInt8) // console_Quote_loop1 k a0 p.1 p.2.1 p.2.2 = some o1}) (fun p => (⟨47, [], [(0, .one (.val (Sv a0))), (3, .one (.own 0)), (8, vI ((a0.length : Nat) : Int)), (9, vI ((p.1.2.1 : Nat) : Int))], [(0, some (.row 5 1 p.1.2.2.length (lsEl byC p.1.2.2)))]⟩ : ASt)) (fun p => p.1.1) ⟨(k, 0, [(34 : UInt8)]), ho1⟩ wk 0 (ε := (List UInt8)) (fun x => (⟨47, [], [(3, .one (.own 0))], [(0, some (.row 5 1 x.length (lsEl byC x)))]⟩ : ASt)) (fun x => x = o1) (fun _ _ w h => aw_weak w h) ?_ ?_
  · intro x1_0 hI1
    subst hI1
    change AW _ _ (⟨47, [], [(3, .one (.own 0))], [(0, some (.row 5 1 x1_0.length (lsEl byC x1_0)))]⟩ : ASt) _
    refine aw_seq (aw_region (s_mv ?_))
    refine aops_step1 rfl (st_slice_lit (el := lsEl byC [(34 : UInt8)]) 1 rfl rfl rfl rfl rfl rfl rfl rfl (lit_el byC 1 [(34 : UInt8)] (fun _ => rfl)) rfl) ?_
    obtain ⟨g2, h⟩ := Md.ifp_s h
    refine aops_step1 rfl (st_app_ls (f := byC) x1_0 [(34 : UInt8)] (fun _ => rfl) rfl rfl (.inr ⟨_, _, rfl, rfl⟩) (by omega) (by omega) rfl) ?_
    refine aops_step1 rfl (ev_str_bytes (.inr ⟨_, _, rfl, rfl⟩) Tryd.underlying42 Tryd.underlying5 Tryd.underlying9 rfl) (s_sa ?_)
    refine aops_nil ?_
    cases Option.some.inj h
    exact aw_ret ⟨rfl, rv r1⟩
  intro p1
  obtain ⟨⟨n1, s1_0, s1_1⟩, l1⟩ := p1
  change AW _ _ (⟨47, [], [(0, .one (.val (Sv a0))), (3, .one (.own 0)), (8, vI ((a0.length : Nat) : Int)), (9, vI ((s1_0 : Nat) : Int))], [(0, some (.row 5 1 s1_1.length (lsEl byC s1_1)))]⟩ : ASt) _
  replace l1 : console_Quote_loop1 k a0 n1 s1_0 s1_1 = some o1 := l1
  rcases n1 with _ | n1
  · exact absurd (show none = some o1 from l1) nofun
  rw [console_Quote_loop1] at l1
  refine aw_seq (aw_region (s_cm ?_))
  refine aops_nil (aw_seq ?_)
  refine aw_cond rfl (fun c3 => ?_) (fun c3 => ?_)
  · replace l1 := Md.cond_t l1 c3
    refine aw_skip ?_
    obtain ⟨o4, j4, l1⟩ := Md.bind_s l1
    refine aw_cut (ε := (List UInt8)) (fun x => (⟨47, [], [(0, .one (.val (Sv a0))), (3, .one (.own 0)), (8, vI ((a0.length : Nat) : Int)), (9, vI ((s1_0 : Nat) : Int))], [(0, some (.row 5 1 x.length (lsEl byC x)))]⟩ : ASt)) (fun x => x = o4) ?_ ?_
    · intro x4_0 hI4
      subst hI4
      change AW _ _ (⟨47, [], [(0, .one (.val (Sv a0))), (3, .one (.own 0)), (8, vI ((a0.length : Nat) : Int)), (9, vI ((s1_0 : Nat) : Int))], [(0, some (.row 5 1 x4_0.length (lsEl byC x4_0)))]⟩ : ASt) _
      refine aw_region ?_
      obtain ⟨g5, l1⟩ := Md.ifp_s l1
      refine aops_step1 rfl (ev_add rfl rfl rfl (Md.nat_add g5)) (s_mv ?_)
      refine aops_nil ?_
      exact ⟨⟨(n1, (s1_0 + 1), x4_0), l1⟩, Nat.lt_succ_self _, wk⟩
    refine aw_block (aw_seq (aw_region (s_mv ?_)))
    refine s_sa ?_
    refine aops_nil (aw_seq (aw_region ?_))
    iterate 2 refine s_mv ?_
    obtain ⟨g6, j4⟩ := Md.ifp_s j4
    refine aops_step1 rfl (st_index_str rfl rfl rfl g6 rfl) (s_sa ?_)
    refine aops_nil (aw_block (aw_seq (aw_region (s_mv ?_))))
    refine s_cm ?_
    refine s_mv ?_
    refine aops_mid 3 (⟨47, [], [(0, .one (.val (Sv a0))), (3, .one (.own 0)), (5, .one (.val (.int .u8 (((a0.getD s1_0 0)).toNat : Int)))), (8, vI ((a0.length : Nat) : Int)), (9, vI ((s1_0 : Nat) : Int)), (30, vB (((((a0.getD s1_0 0)).toNat : Int) == 34) || ((((a0.getD s1_0 0)).toNat : Int) == 92)))], [(0, some (.row 5 1 s1_1.length (lsEl byC s1_1)))]⟩ : ASt) ?_ ?_
    · rcases Md.bool_or (((((a0.getD s1_0 0)).toNat : Int) == 34)) with q7 | q7
      · skip
        iterate 2 refine np q7 ?_
        refine s_py q7 ?_
        refine aops_nil ?_
        exact wq q7
      refine y_mv q7 ?_
      refine y_cm q7 ?_
      refine s_pn q7 ?_
      refine aops_nil ?_
      exact wq q7
    refine s_sa ?_
    refine aops_nil ?_
    refine aw_cond rfl (fun c8 => ?_) (fun c8 => ?_)
    · replace j4 := Md.cond_t j4 c8
      refine aw_region ?_
      iterate 2 refine s_mv ?_
      refine aops_step1 rfl (st_slice_lit (el := lsEl byC [(92 : UInt8), (a0.getD s1_0 0)]) 1 rfl rfl rfl rfl rfl rfl rfl rfl (lit_el byC 1 [(92 : UInt8), (a0.getD s1_0 0)] (fun _ => rfl)) rfl) ?_
      obtain ⟨g9, j4⟩ := Md.ifp_s j4
      refine aops_step1 rfl (st_app_ls (f := byC) s1_1 [(92 : UInt8), (a0.getD s1_0 0)] (fun _ => rfl) rfl rfl (.inr ⟨_, _, rfl, rfl⟩) (by omega) (by omega) rfl) (s_sa ?_)
      refine aops_nil ?_
      show ∃ _x : (List UInt8), _ = _ ∧ Weak _ _
      exact ⟨(s1_1 ++ [(92 : UInt8), (a0.getD s1_0 0)]), Option.some.inj j4, wk⟩
    replace j4 := Md.cond_f j4 c8
    refine aw_seq (aw_region (s_mv ?_))
    obtain ⟨x10, hx10, j4⟩ := Md.bind_s j4
    refine aops_step1 rfl (ev_call_v (console_plain_fn k (a0.getD s1_0 0) x10 hx10) rfl [] ai rfl rfl rfl (.inl rfl) rfl) (s_sa ?_)
    refine aops_nil ?_
    refine aw_cond rfl (fun c11 => ?_) (fun c11 => ?_)
    · replace j4 := Md.cond_t j4 c11
      refine aw_region ?_
      iterate 2 refine s_mv ?_
      refine aops_step1 rfl (st_slice_lit (el := lsEl byC [(a0.getD s1_0 0)]) 1 rfl rfl rfl rfl rfl rfl rfl rfl (lit_el byC 1 [(a0.getD s1_0 0)] (fun _ => rfl)) rfl) ?_
      obtain ⟨g12, j4⟩ := Md.ifp_s j4
      refine aops_step1 rfl (st_app_ls (f := byC) s1_1 [(a0.getD s1_0 0)] (fun _ => rfl) rfl rfl (.inr ⟨_, _, rfl, rfl⟩) (by omega) (by omega) rfl) (s_sa ?_)
      refine aops_nil ?_
      show ∃ _x : (List UInt8), _ = _ ∧ Weak _ _
      exact ⟨(s1_1 ++ [(a0.getD s1_0 0)]), Option.some.inj j4, wk⟩
    replace j4 := Md.cond_f j4 c11
    obtain ⟨g13, j4⟩ := Md.ifp_s j4
    obtain ⟨g14, j4⟩ := Md.ifp_s j4
    obtain ⟨g15, j4⟩ := Md.ifp_s j4
    apply aw_draw 8 ((⟨[], .one (.own 0)⟩ : Add) :: ⟨[], .one (.val (.int .u8 (((a0.getD s1_0 0)).toNat : Int)))⟩ :: ⟨[], .one (.val (.int .u8 (((Md.shr8 (a0.getD s1_0 0) 4)).toNat : Int)))⟩ :: ⟨[], .one (.val (.int .u8 (((([48, 49, 50, 51, 52, 53, 54, 55, 56, 57, 97, 98, 99, 100, 101, 102] : List UInt8).getD ((Md.shr8 (a0.getD s1_0 0) 4).toNat) 0)).toNat : Int)))⟩ :: ⟨[], .one (.val (.int .u8 (((a0.getD s1_0 0)).toNat : Int)))⟩ :: ⟨[], .one (.val (.int .u8 ((((a0.getD s1_0 0) &&& (15 : UInt8))).toNat : Int)))⟩ :: ⟨[], .one (.val (.int .u8 (((([48, 49, 50, 51, 52, 53, 54, 55, 56, 57, 97, 98, 99, 100, 101, 102] : List UInt8).getD (((a0.getD s1_0 0) &&& (15 : UInt8)).toNat) 0)).toNat : Int)))⟩ :: ⟨[], .one (CV.ls byC [(92 : UInt8), (120 : UInt8), (([48, 49, 50, 51, 52, 53, 54, 55, 56, 57, 97, 98, 99, 100, 101, 102] : List UInt8).getD ((Md.shr8 (a0.getD s1_0 0) 4).toNat) 0), (([48, 49, 50, 51, 52, 53, 54, 55, 56, 57, 97, 98, 99, 100, 101, 102] : List UInt8).getD (((a0.getD s1_0 0) &&& (15 : UInt8)).toNat) 0)])⟩ :: []) (by decide) rfl ?hk6x ?hf6x ?ho6x ?hr6x
    case ho6x =>
     refine ob [] (fun S hle hfr => .inl ⟨w0, st_move (hle.e rfl) (hle.d rfl)⟩) (ob [] (fun S hle hfr => .inl ⟨w0, st_move (hle.e rfl) (hle.d rfl)⟩) ?_)
     refine ob [1] (fun S hle hfr => .inl ⟨w0, ev_shr (hle.e rfl) (hle.e rfl) (hle.d rfl) (by decide) (Md.shr_u8 (a0.getD s1_0 0) (Md.nat_toNat 4))⟩) ?_
     refine ob [2, 1] (fun S hle hfr => .inl ⟨w0, st_index_str (hle.e rfl) (hle.e rfl) rfl g13 (hle.d rfl)⟩) ?_
     refine ob [] (fun S hle hfr => .inl ⟨w0, st_move (hle.e rfl) (hle.d rfl)⟩) ?_
     refine ob [4] (fun S hle hfr => .inl ⟨w0, ev_bits (hle.e rfl) (hle.e rfl) (hle.d rfl) rfl (Md.and_u8 (a0.getD s1_0 0) (15 : UInt8))⟩) ?_
     refine ob [5, 4] (fun S hle hfr => .inl ⟨w0, st_index_str (hle.e rfl) (hle.e rfl) rfl g14 (hle.d rfl)⟩) ?_
     refine ob [3, 6, 2, 5, 1, 4] (fun S hle hfr => .inl ⟨w0, st_slice_lit_z (el := lsEl byC [(92 : UInt8), (120 : UInt8), (([48, 49, 50, 51, 52, 53, 54, 55, 56, 57, 97, 98, 99, 100, 101, 102] : List UInt8).getD ((Md.shr8 (a0.getD s1_0 0) 4).toNat) 0), (([48, 49, 50, 51, 52, 53, 54, 55, 56, 57, 97, 98, 99, 100, 101, 102] : List UInt8).getD (((a0.getD s1_0 0) &&& (15 : UInt8)).toNat) 0)]) (map_ev2 (.cons (hle.e rfl) (.cons (hle.e rfl) (.cons (hle.e rfl) (.cons (hle.e rfl) (.nil)))))) rfl rfl rfl rfl rfl rfl (lit_el byC 1 [(92 : UInt8), (120 : UInt8), (([48, 49, 50, 51, 52, 53, 54, 55, 56, 57, 97, 98, 99, 100, 101, 102] : List UInt8).getD ((Md.shr8 (a0.getD s1_0 0) 4).toNat) 0), (([48, 49, 50, 51, 52, 53, 54, 55, 56, 57, 97, 98, 99, 100, 101, 102] : List UInt8).getD (((a0.getD s1_0 0) &&& (15 : UInt8)).toNat) 0)] (fun _ => rfl)) (hle.d rfl)⟩) ?_
     exact trivial
    case hk6x => rfl
    case hf6x => rfl
    refine aops_step1 rfl (st_app_ls (f := byC) s1_1 [(92 : UInt8), (120 : UInt8), (([48, 49, 50, 51, 52, 53, 54, 55, 56, 57, 97, 98, 99, 100, 101, 102] : List UInt8).getD ((Md.shr8 (a0.getD s1_0 0) 4).toNat) 0), (([48, 49, 50, 51, 52, 53, 54, 55, 56, 57, 97, 98, 99, 100, 101, 102] : List UInt8).getD (((a0.getD s1_0 0) &&& (15 : UInt8)).toNat) 0)] (fun _ => rfl) rfl rfl (.inl rfl) (by omega) (by omega) rfl) (s_sa ?_)
    refine aops_nil ?_
    show ∃ _x : (List UInt8), _ = _ ∧ Weak _ _
    exact ⟨(s1_1 ++ [(92 : UInt8), (120 : UInt8), (([48, 49, 50, 51, 52, 53, 54, 55, 56, 57, 97, 98, 99, 100, 101, 102] : List UInt8).getD ((Md.shr8 (a0.getD s1_0 0) 4).toNat) 0), (([48, 49, 50, 51, 52, 53, 54, 55, 56, 57, 97, 98, 99, 100, 101, 102] : List UInt8).getD (((a0.getD s1_0 0) &&& (15 : UInt8)).toNat) 0)]), Option.some.inj j4, wk⟩
  replace l1 := Md.cond_f l1 c3
  refine aw_exit ?_
  show ∃ _x : (List UInt8), _ = _ ∧ Weak _ _
  exact ⟨s1_1, Option.some.inj l1, wk⟩
end Md
end Go.Proofs.YtjpiiejdaiaocaaDoor
