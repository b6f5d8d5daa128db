/-
  ConsE: where a function's model gives a value, the function returns what reads as it (printed by wip/tools/auto.py). Condition of each: the model gives a value.
-/
import Derived.Test.YtjpiiejdaiaocaaDoorConsEM
import Derived.Test.YtjpiiejdaiaocaaDoorTy
import Derived.Test.YtjpiiejdaiaocaaDoorAbsU
import Derived.Test.YtjpiiejdaiaocaaDoorConsD
namespace Go.Proofs.YtjpiiejdaiaocaaDoor
open Go.ChangeShapes Go.WideShapes Go.RowKit
open Abs
set_option linter.unusedVariables false
set_option linter.unusedSimpArgs false
set_option maxRecDepth 10000
namespace Md
def c_Actorgridref41form (x : Actorgridref41form) : List CV := [.val (Sv x.word), .val (Sv x.parts), cI x.low, cI x.high]
set_option maxHeartbeats 2000000 in
theorem actorgridref41_forms_fn (k : Nat) (r : (List Actorgridref41form)) (h : actorgridref41_forms k = some r) : FnC Tryd.prog 40 [] [] (Det (.one (.own 0)) [(0, some (.row 57 4 r.length (lsEl c_Actorgridref41form r)))]) := by
  unfold actorgridref41_forms at h
  refine fn_intro' 10 Tryd.func40 rfl rfl rfl (aw_seq (aw_region (s_sa ?_)))
  refine aops_nil (aw_seq (aw_region ?_))
  iterate 8 refine aops_step1 rfl (ev_build' (out := [_, _, _, _]) rfl rfl rfl rfl rfl) ?_
  refine aops_step1 rfl (st_slice_lit (el := lsEl c_Actorgridref41form [(⟨([] : List UInt8), ([] : List UInt8), 0, 0⟩ : Actorgridref41form), (⟨([115, 117, 98, 115, 99, 114, 105, 98, 101] : List UInt8), ([116, 121, 107, 109] : List UInt8), 0, 0⟩ : Actorgridref41form), (⟨([117, 110, 115, 117, 98, 115, 99, 114, 105, 98, 101] : List UInt8), ([116, 121, 107, 109] : List UInt8), 0, 0⟩ : Actorgridref41form), (⟨([109, 111, 118, 101] : List UInt8), ([121, 107, 110] : List UInt8), 1, 1000⟩ : Actorgridref41form), (⟨([117, 112, 103, 114, 97, 100, 101] : List UInt8), ([110] : List UInt8), 1, 1099511627776⟩ : Actorgridref41form), (⟨([97, 100, 118, 97, 110, 99, 101] : List UInt8), ([110] : List UInt8), 0, 100⟩ : Actorgridref41form), (⟨([102, 105, 110, 105, 115, 104] : List UInt8), ([] : List UInt8), 0, 0⟩ : Actorgridref41form), (⟨([99, 97, 110, 99, 101, 108] : List UInt8), ([] : List UInt8), 0, 0⟩ : Actorgridref41form)]) 0 rfl rfl rfl rfl rfl rfl rfl rfl (lit_el c_Actorgridref41form 4 [(⟨([] : List UInt8), ([] : List UInt8), 0, 0⟩ : Actorgridref41form), (⟨([115, 117, 98, 115, 99, 114, 105, 98, 101] : List UInt8), ([116, 121, 107, 109] : List UInt8), 0, 0⟩ : Actorgridref41form), (⟨([117, 110, 115, 117, 98, 115, 99, 114, 105, 98, 101] : List UInt8), ([116, 121, 107, 109] : List UInt8), 0, 0⟩ : Actorgridref41form), (⟨([109, 111, 118, 101] : List UInt8), ([121, 107, 110] : List UInt8), 1, 1000⟩ : Actorgridref41form), (⟨([117, 112, 103, 114, 97, 100, 101] : List UInt8), ([110] : List UInt8), 1, 1099511627776⟩ : Actorgridref41form), (⟨([97, 100, 118, 97, 110, 99, 101] : List UInt8), ([110] : List UInt8), 0, 100⟩ : Actorgridref41form), (⟨([102, 105, 110, 105, 115, 104] : List UInt8), ([] : List UInt8), 0, 0⟩ : Actorgridref41form), (⟨([99, 97, 110, 99, 101, 108] : List UInt8), ([] : List UInt8), 0, 0⟩ : Actorgridref41form)] (fun _ => rfl)) rfl) (s_sa ?_)
  refine aops_nil ?_
  cases Option.some.inj h
  refine aw_ret ⟨rfl, ret_r 0 r1 rfl rfl rfl ?_ ?_ ?_⟩
  · first | exact TLe.refl _ | (repeat' (first | exact .refl _ | exact .nil | refine .tup ?_ | refine .v ?_ | refine .cons ?_ ?_ | refine .agg ?_ | refine .one ?_ | exact .nil _ | exact .emp _ | refine .val ?_ | refine .slc ?_ ?_ | fail))
  · rfl
  · rfl
set_option maxHeartbeats 2000000 in
theorem actorgridref41_Name_fn (k : Nat) (a0 : List UInt8) (r : Bool) (h : actorgridref41_Name k a0 = some r) : FnC Tryd.prog 20 [.one (.val (Sv a0))] [] (Det (vB r) []) := by
  unfold actorgridref41_Name at h
  refine fn_intro' 55 Tryd.func20 rfl rfl rfl (aw_seq (aw_region (s_sa ?_)))
  refine aops_nil (aw_seq (aw_seq (aw_region (s_sa ?_))))
  refine aops_nil (aw_block ?_)
  obtain ⟨o1, ho1, h⟩ := Md.bind_s h
  refine aw_loop_x (ι := {p : Nat × Nat // actorgridref41_Name_loop1 k a0 p.1 p.2 = some o1}) (fun p => (⟨55, [], [(0, .one (.val (Sv a0))), (3, vI ((p.1.2 : Nat) : Int))], []⟩ : ASt)) (fun p => p.1.1) ⟨(k, 0), ho1⟩ wk 0 (ε := Unit) (fun x => (⟨55, [], [(0, .one (.val (Sv a0)))], []⟩ : ASt)) (fun x => Sum.inl x = o1) (fun _ _ w h => aw_weak w h) ?_ ?_
  · intro x1_0 hI1
    subst hI1
    replace h := Md.onS_l h
    change AW _ _ (⟨55, [], [(0, .one (.val (Sv a0)))], []⟩ : ASt) _
    refine aw_seq (aw_region (s_mv ?_))
    refine aops_step1 rfl (st_len_str rfl rfl) (s_cm ?_)
    refine s_mv ?_
    refine aops_mid 4 (⟨55, [], [(54, vB ((decide (((a0.length : Nat) : Int) ≥ 1)) && (decide (((a0.length : Nat) : Int) ≤ 32))))], []⟩ : ASt) ?_ ?_
    · rcases Md.bool_or ((decide (((a0.length : Nat) : Int) ≥ 1))) with q2 | q2
      · skip
        refine y_mv q2 ?_
        refine aops_yes rfl rfl rfl rfl q2 (st_len_str rfl rfl) (y_cm q2 ?_)
        refine s_py q2 ?_
        refine aops_nil ?_
        exact wq q2
      iterate 3 refine np q2 ?_
      refine s_pn q2 ?_
      refine aops_nil ?_
      exact wq q2
    refine s_sa ?_
    refine aops_nil ?_
    cases Option.some.inj h
    exact aw_ret ⟨rfl, rv r1⟩
  intro p1
  obtain ⟨⟨n1, s1_0⟩, l1⟩ := p1
  change AW _ _ (⟨55, [], [(0, .one (.val (Sv a0))), (3, vI ((s1_0 : Nat) : Int))], []⟩ : ASt) _
  replace l1 : actorgridref41_Name_loop1 k a0 n1 s1_0 = some o1 := l1
  rcases n1 with _ | n1
  · exact absurd (show none = some o1 from l1) nofun
  rw [actorgridref41_Name_loop1] at l1
  refine aw_seq (aw_seq (aw_region ?_))
  iterate 2 refine s_mv ?_
  refine aops_step1 rfl (st_len_str rfl rfl) (s_cm ?_)
  refine aops_nil ?_
  refine aw_cond rfl (fun c3 => ?_) (fun c3 => ?_)
  · replace l1 := Md.cond_t l1 c3
    refine aw_skip (aw_seq (aw_block (aw_seq (aw_region ?_))))
    iterate 2 refine s_mv ?_
    obtain ⟨g4, l1⟩ := Md.ifp_s l1
    refine aops_step1 rfl (st_index_str rfl rfl rfl g4 rfl) (s_sa ?_)
    refine aops_nil (aw_seq (aw_region (s_mv ?_)))
    refine s_cm ?_
    refine s_mv ?_
    refine aops_mid 3 (⟨55, [], [(0, .one (.val (Sv a0))), (3, vI ((s1_0 : Nat) : Int)), (4, .one (.val (.int .u8 (((a0.getD s1_0 0)).toNat : Int)))), (20, vB ((decide ((((a0.getD s1_0 0)).toNat : Int) ≥ 97)) && (decide ((((a0.getD s1_0 0)).toNat : Int) ≤ 122))))], []⟩ : ASt) ?_ ?_
    · rcases Md.bool_or ((decide ((((a0.getD s1_0 0)).toNat : Int) ≥ 97))) with q5 | q5
      · skip
        refine y_mv q5 ?_
        refine y_cm q5 ?_
        refine s_py q5 ?_
        refine aops_nil ?_
        exact wq q5
      iterate 2 refine np q5 ?_
      refine s_pn q5 ?_
      refine aops_nil ?_
      exact wq q5
    refine s_mv ?_
    refine aops_mid 7 (⟨55, [], [(0, .one (.val (Sv a0))), (3, vI ((s1_0 : Nat) : Int)), (4, .one (.val (.int .u8 (((a0.getD s1_0 0)).toNat : Int)))), (28, vB (((decide ((((a0.getD s1_0 0)).toNat : Int) ≥ 97)) && (decide ((((a0.getD s1_0 0)).toNat : Int) ≤ 122))) || ((decide ((((a0.getD s1_0 0)).toNat : Int) ≥ 65)) && (decide ((((a0.getD s1_0 0)).toNat : Int) ≤ 90)))))], []⟩ : ASt) ?_ ?_
    · rcases Md.bool_or (((decide ((((a0.getD s1_0 0)).toNat : Int) ≥ 97)) && (decide ((((a0.getD s1_0 0)).toNat : Int) ≤ 122)))) with q6 | q6
      · skip
        iterate 3 refine np q6 ?_
        refine aops_und rfl rfl rfl rfl rfl (aops_und rfl rfl rfl rfl rfl (np q6 ?_))
        refine s_py q6 ?_
        refine aops_nil ?_
        exact wq q6
      refine y_mv q6 ?_
      refine y_cm q6 ?_
      refine y_mv q6 ?_
      refine aops_mid 3 (⟨55, [], [(0, .one (.val (Sv a0))), (3, vI ((s1_0 : Nat) : Int)), (4, .one (.val (.int .u8 (((a0.getD s1_0 0)).toNat : Int)))), (21, vB ((decide ((((a0.getD s1_0 0)).toNat : Int) ≥ 97)) && (decide ((((a0.getD s1_0 0)).toNat : Int) ≤ 122)))), (27, vB ((decide ((((a0.getD s1_0 0)).toNat : Int) ≥ 65)) && (decide ((((a0.getD s1_0 0)).toNat : Int) ≤ 90))))], []⟩ : ASt) ?_ ?_
      · rcases Md.bool_or ((decide ((((a0.getD s1_0 0)).toNat : Int) ≥ 65))) with q7 | q7
        · skip
          refine y_mv q7 ?_
          refine y_cm q7 ?_
          refine aops_yes rfl rfl rfl rfl q6 (st_pick_yes rfl (by first | rfl | exact q7) rfl rfl) (aops_nil ?_)
          exact wq q7
        iterate 2 refine np q7 ?_
        refine aops_yes rfl rfl rfl rfl q6 (st_pick_no rfl (by first | rfl | exact q7) rfl rfl) (aops_nil ?_)
        exact wq q7
      change AOps _ _ _ (⟨55, [], [(0, .one (.val (Sv a0))), (3, vI ((s1_0 : Nat) : Int)), (4, .one (.val (.int .u8 (((a0.getD s1_0 0)).toNat : Int)))), (21, vB ((decide ((((a0.getD s1_0 0)).toNat : Int) ≥ 97)) && (decide ((((a0.getD s1_0 0)).toNat : Int) ≤ 122)))), (27, vB ((decide ((((a0.getD s1_0 0)).toNat : Int) ≥ 65)) && (decide ((((a0.getD s1_0 0)).toNat : Int) ≤ 90))))], []⟩ : ASt) _
      refine s_pn q6 ?_
      refine aops_nil ?_
      exact wq q6
    refine s_mv ?_
    refine aops_mid 3 (⟨55, [], [(0, .one (.val (Sv a0))), (3, vI ((s1_0 : Nat) : Int)), (4, .one (.val (.int .u8 (((a0.getD s1_0 0)).toNat : Int)))), (32, vB ((((decide ((((a0.getD s1_0 0)).toNat : Int) ≥ 97)) && (decide ((((a0.getD s1_0 0)).toNat : Int) ≤ 122))) || ((decide ((((a0.getD s1_0 0)).toNat : Int) ≥ 65)) && (decide ((((a0.getD s1_0 0)).toNat : Int) ≤ 90)))) || ((((a0.getD s1_0 0)).toNat : Int) == 95)))], []⟩ : ASt) ?_ ?_
    · rcases Md.bool_or ((((decide ((((a0.getD s1_0 0)).toNat : Int) ≥ 97)) && (decide ((((a0.getD s1_0 0)).toNat : Int) ≤ 122))) || ((decide ((((a0.getD s1_0 0)).toNat : Int) ≥ 65)) && (decide ((((a0.getD s1_0 0)).toNat : Int) ≤ 90))))) with q8 | q8
      · skip
        iterate 2 refine np q8 ?_
        refine s_py q8 ?_
        refine aops_nil ?_
        exact wq q8
      refine y_mv q8 ?_
      refine y_cm q8 ?_
      refine s_pn q8 ?_
      refine aops_nil ?_
      exact wq q8
    refine s_sa ?_
    refine aops_nil (aw_seq (aw_region (s_mv ?_)))
    refine s_nt ?_
    refine s_mv ?_
    refine aops_mid 11 (⟨55, [], [(0, .one (.val (Sv a0))), (3, vI ((s1_0 : Nat) : Int)), (46, vB ((!((((decide ((((a0.getD s1_0 0)).toNat : Int) ≥ 97)) && (decide ((((a0.getD s1_0 0)).toNat : Int) ≤ 122))) || ((decide ((((a0.getD s1_0 0)).toNat : Int) ≥ 65)) && (decide ((((a0.getD s1_0 0)).toNat : Int) ≤ 90)))) || ((((a0.getD s1_0 0)).toNat : Int) == 95))) && (((decide ((((a0.getD s1_0 0)).toNat : Int) < 48)) || (decide ((((a0.getD s1_0 0)).toNat : Int) > 57))) || (((s1_0 : Nat) : Int) == 0))))], []⟩ : ASt) ?_ ?_
    · rcases Md.bool_or ((!((((decide ((((a0.getD s1_0 0)).toNat : Int) ≥ 97)) && (decide ((((a0.getD s1_0 0)).toNat : Int) ≤ 122))) || ((decide ((((a0.getD s1_0 0)).toNat : Int) ≥ 65)) && (decide ((((a0.getD s1_0 0)).toNat : Int) ≤ 90)))) || ((((a0.getD s1_0 0)).toNat : Int) == 95)))) with q9 | q9
      · skip
        refine y_mv q9 ?_
        refine y_cm q9 ?_
        refine y_mv q9 ?_
        refine aops_mid 3 (⟨55, [], [(0, .one (.val (Sv a0))), (3, vI ((s1_0 : Nat) : Int)), (35, vB (!((((decide ((((a0.getD s1_0 0)).toNat : Int) ≥ 97)) && (decide ((((a0.getD s1_0 0)).toNat : Int) ≤ 122))) || ((decide ((((a0.getD s1_0 0)).toNat : Int) ≥ 65)) && (decide ((((a0.getD s1_0 0)).toNat : Int) ≤ 90)))) || ((((a0.getD s1_0 0)).toNat : Int) == 95)))), (41, vB ((decide ((((a0.getD s1_0 0)).toNat : Int) < 48)) || (decide ((((a0.getD s1_0 0)).toNat : Int) > 57))))], []⟩ : ASt) ?_ ?_
        · rcases Md.bool_or ((decide ((((a0.getD s1_0 0)).toNat : Int) < 48))) with q10 | q10
          · skip
            iterate 2 refine np q10 ?_
            refine aops_yes rfl rfl rfl rfl q9 (st_pick_yes rfl (by first | rfl | exact q10) rfl rfl) (aops_nil ?_)
            exact wq q10
          refine y_mv q10 ?_
          refine y_cm q10 ?_
          refine aops_yes rfl rfl rfl rfl q9 (st_pick_no rfl (by first | rfl | exact q10) rfl rfl) (aops_nil ?_)
          exact wq q10
        change AOps _ _ _ (⟨55, [], [(0, .one (.val (Sv a0))), (3, vI ((s1_0 : Nat) : Int)), (35, vB (!((((decide ((((a0.getD s1_0 0)).toNat : Int) ≥ 97)) && (decide ((((a0.getD s1_0 0)).toNat : Int) ≤ 122))) || ((decide ((((a0.getD s1_0 0)).toNat : Int) ≥ 65)) && (decide ((((a0.getD s1_0 0)).toNat : Int) ≤ 90)))) || ((((a0.getD s1_0 0)).toNat : Int) == 95)))), (41, vB ((decide ((((a0.getD s1_0 0)).toNat : Int) < 48)) || (decide ((((a0.getD s1_0 0)).toNat : Int) > 57))))], []⟩ : ASt) _
        refine y_mv q9 ?_
        refine aops_mid 3 (⟨55, [], [(0, .one (.val (Sv a0))), (3, vI ((s1_0 : Nat) : Int)), (35, vB (!((((decide ((((a0.getD s1_0 0)).toNat : Int) ≥ 97)) && (decide ((((a0.getD s1_0 0)).toNat : Int) ≤ 122))) || ((decide ((((a0.getD s1_0 0)).toNat : Int) ≥ 65)) && (decide ((((a0.getD s1_0 0)).toNat : Int) ≤ 90)))) || ((((a0.getD s1_0 0)).toNat : Int) == 95)))), (45, vB (((decide ((((a0.getD s1_0 0)).toNat : Int) < 48)) || (decide ((((a0.getD s1_0 0)).toNat : Int) > 57))) || (((s1_0 : Nat) : Int) == 0)))], []⟩ : ASt) ?_ ?_
        · rcases Md.bool_or (((decide ((((a0.getD s1_0 0)).toNat : Int) < 48)) || (decide ((((a0.getD s1_0 0)).toNat : Int) > 57)))) with q11 | q11
          · skip
            iterate 2 refine np q11 ?_
            refine aops_yes rfl rfl rfl rfl q9 (st_pick_yes rfl (by first | rfl | exact q11) rfl rfl) (aops_nil ?_)
            exact wq q11
          refine y_mv q11 ?_
          refine y_cm q11 ?_
          refine aops_yes rfl rfl rfl rfl q9 (st_pick_no rfl (by first | rfl | exact q11) rfl rfl) (aops_nil ?_)
          exact wq q11
        change AOps _ _ _ (⟨55, [], [(0, .one (.val (Sv a0))), (3, vI ((s1_0 : Nat) : Int)), (35, vB (!((((decide ((((a0.getD s1_0 0)).toNat : Int) ≥ 97)) && (decide ((((a0.getD s1_0 0)).toNat : Int) ≤ 122))) || ((decide ((((a0.getD s1_0 0)).toNat : Int) ≥ 65)) && (decide ((((a0.getD s1_0 0)).toNat : Int) ≤ 90)))) || ((((a0.getD s1_0 0)).toNat : Int) == 95)))), (45, vB (((decide ((((a0.getD s1_0 0)).toNat : Int) < 48)) || (decide ((((a0.getD s1_0 0)).toNat : Int) > 57))) || (((s1_0 : Nat) : Int) == 0)))], []⟩ : ASt) _
        refine s_py q9 ?_
        refine aops_nil ?_
        exact wq q9
      iterate 3 refine np q9 ?_
      refine aops_und rfl rfl rfl rfl rfl (aops_und rfl rfl rfl rfl rfl ?_)
      iterate 2 refine np q9 ?_
      refine aops_und rfl rfl rfl rfl rfl (aops_und rfl rfl rfl rfl rfl (np q9 ?_))
      refine s_pn q9 ?_
      refine aops_nil ?_
      exact wq q9
    refine aops_nil ?_
    refine aw_cond rfl (fun c12 => ?_) (fun c12 => ?_)
    · replace l1 := Md.cond_t l1 c12
      refine aw_seq (aw_region (s_sa ?_))
      refine aops_nil ?_
      cases Option.some.inj l1
      replace h := Md.onS_r h
      cases Option.some.inj h
      exact aw_ret ⟨rfl, rv r1⟩
    replace l1 := Md.cond_f l1 c12
    refine aw_skip (aw_region (s_mv ?_))
    obtain ⟨g13, l1⟩ := Md.ifp_s l1
    refine aops_step1 rfl (ev_add rfl rfl rfl (Md.nat_add g13)) (s_sa ?_)
    refine aops_nil ?_
    exact ⟨⟨(n1, (s1_0 + 1)), l1⟩, Nat.lt_succ_self _, wk⟩
  replace l1 := Md.cond_f l1 c3
  refine aw_exit ?_
  show ∃ _x : Unit, _ = _ ∧ Weak _ _
  exact ⟨(), Option.some.inj l1, wk⟩
set_option maxHeartbeats 2000000 in
theorem actorgridref41_Valid_fn (k : Nat) (a0 : ConsoleCommand) (r : Bool) (h : actorgridref41_Valid k a0 = some r) : FnC Tryd.prog 16 [.agg (c_ConsoleCommand a0)] [] (Det (vB r) []) := by
  unfold actorgridref41_Valid at h
  refine fn_intro' 95 Tryd.func16 rfl rfl rfl (aw_seq (aw_region (aops_step1 rfl (st_box 0 rfl rfl rfl rfl) (s_sa ?_))))
  refine aops_nil (aw_seq (aw_seq (aw_region (s_fd ?_))))
  refine s_ld ?_
  refine s_cm ?_
  refine s_mv ?_
  refine aops_mid 4 (⟨95, [], [(1, .one (.ptr 0 0)), (14, vB ((decide (a0.Kind < 1)) || (decide (a0.Kind > 7))))], [(0, some (.box (c_ConsoleCommand a0)))]⟩ : ASt) ?_ ?_
  · rcases Md.bool_or ((decide (a0.Kind < 1))) with q1 | q1
    · skip
      iterate 3 refine np q1 ?_
      refine s_py q1 ?_
      refine aops_nil ?_
      exact wq q1
    refine y_fd q1 ?_
    refine y_ld q1 ?_
    refine y_cm q1 ?_
    refine s_pn q1 ?_
    refine aops_nil ?_
    exact wq q1
  refine aops_nil ?_
  refine aw_cond rfl (fun c2 => ?_) (fun c2 => ?_)
  · replace h := Md.cond_t h c2
    refine aw_seq (aw_region (s_sa ?_))
    refine aops_nil ?_
    cases Option.some.inj h
    exact aw_ret ⟨rfl, rv r1⟩
  replace h := Md.cond_f h c2
  refine aw_skip ?_
  obtain ⟨x3, hx3, h⟩ := Md.bind_s h
  obtain ⟨g4, h⟩ := Md.ifp_s h
  refine aw_seq ?_
  apply aw_draw 6 ((⟨[], .one (CV.ls c_Actorgridref41form x3)⟩ : Add) :: ⟨[], .one (.ptr 0 _)⟩ :: ⟨[], vI a0.Kind⟩ :: ⟨[], .one (.cptr _)⟩ :: ⟨[], .agg (c_Actorgridref41form (x3.getD ((a0.Kind).toNat) default))⟩ :: ⟨[(1, some (.box [.val (Sv []), .val (Sv []), cI 0, cI 0]))], .one (.ptr 1 _)⟩ :: []) (by decide) rfl ?hk1x ?hf1x ?ho1x ?hr1x
  case ho1x =>
   refine ob [] (fun S hle hfr => .inl ⟨w0, st_call_z (actorgridref41_forms_fn k x3 hx3) (map_ev (.nil)) [] (fun _ => (by repeat' (first | exact .nil | refine .cons ?_ ?_ | refine .one ?_ | refine .agg ?_ | exact .mk rfl | exact .lend (hle.heap _ _ rfl) (by simp) | exact .le (.nil _) rfl | exact .le (.emp _) rfl | exact .le (.any _) rfl | fail))) rfl (.inl rfl) (hle.d rfl)⟩) ?_
   refine ob [] (fun S hle hfr => .inl ⟨w0, ev_field (hle.e rfl) rfl (hle.d rfl)⟩) ?_
   refine ob [1] (fun S hle hfr => .inl ⟨w0, ev_load (hle.e rfl) (hle.heap _ _ rfl) rfl (hle.d rfl)⟩) ?_
   refine ob [0, 2, 1] (fun S hle hfr => .inl ⟨w0, ev_index_in (hle.e rfl) (hle.e rfl) (Md.idx_eq g4) (Md.idx_lt g4) rfl (hle.d rfl)⟩) ?_
   refine ob [3, 0, 2, 1] (fun S hle hfr => .inl ⟨w0, ev_loads_in (ds := [_, _, _, _]) (hle.e rfl) rfl rfl (hle.d rfl)⟩) ?_
   refine ob [] (fun S hle hfr => .inl ⟨w0, st_alloc (cs := [.val (Sv []), .val (Sv []), cI 0, cI 0]) 1 (hfr _ (List.mem_singleton.2 rfl)) rfl rfl rfl (hle.d rfl)⟩) ?_
   exact trivial
  case hk1x => rfl
  case hf1x => rfl
  refine s_st [_, _, _, _] ?_
  refine aops_nil (aw_seq (aw_region (s_fd ?_)))
  refine s_ld ?_
  refine aops_step1 rfl (ev_build' (out := [_, _, _, _, _, _]) rfl rfl rfl rfl rfl) ?_
  refine aops_step1 rfl (st_alloc (cs := [cI 0, .val (Sv []), .val (Sv []), .val (Sv []), .val (Sv []), cI 0]) 2 rfl rfl rfl rfl rfl) (s_st [_, _, _, _, _, _] ?_)
  refine aops_nil (aw_seq (aw_seq (aw_region (s_sa ?_))))
  refine aops_nil (aw_block ?_)
  obtain ⟨o5, ho5, h⟩ := Md.bind_s h
  refine aw_loop_x (ι := {p : Nat × Nat × ConsoleCommand // actorgridref41_Valid_loop1 k a0 x3 p.1 p.2.1 p.2.2 = some o5}) (fun p => (⟨95, [], [(1, .one (.ptr 0 0)), (3, .one (.ptr 1 0)), (4, .one (.ptr 2 0)), (5, vI ((p.1.2.1 : Nat) : Int))], [(0, some (.box (c_ConsoleCommand a0))), (1, some (.box (c_Actorgridref41form (x3.getD ((a0.Kind).toNat) default)))), (2, some (.box (c_ConsoleCommand p.1.2.2)))]⟩ : ASt)) (fun p => p.1.1) ⟨(k, 0, (⟨a0.Kind, ([] : List UInt8), (⟨([] : List UInt8), ([] : List UInt8)⟩ : Ref), ([] : List UInt8), 0⟩ : ConsoleCommand)), ho5⟩ wk 0 (ε := ConsoleCommand) (fun x => (⟨95, [], [(1, .one (.ptr 0 0)), (4, .one (.ptr 2 0))], [(0, some (.box (c_ConsoleCommand a0))), (2, some (.box ([cI x.Kind, .val (Sv x.Topic)] ++ c_Ref x.Actor ++ [.val (Sv x.Method), cI x.Number])))]⟩ : ASt)) (fun x => Sum.inl x = o5) (fun _ _ w h => aw_weak w h) ?_ ?_
  · intro x5_0 hI5
    subst hI5
    replace h := Md.onS_l h
    change AW _ _ (⟨95, [], [(1, .one (.ptr 0 0)), (4, .one (.ptr 2 0))], [(0, some (.box (c_ConsoleCommand a0))), (2, some (.box (c_ConsoleCommand x5_0)))]⟩ : ASt) _
    refine aw_seq (aw_region ?_)
    iterate 2 refine s_ls [_, _, _, _, _, _] ?_
    refine aops_step1 rfl (ev_agg_eq (vs := [.int .i64 x5_0.Kind, Sv x5_0.Topic, Sv x5_0.Actor.fType, Sv x5_0.Actor.Key, Sv x5_0.Method, .int .i64 x5_0.Number]) (us := [.int .i64 a0.Kind, Sv a0.Topic, Sv a0.Actor.fType, Sv a0.Actor.Key, Sv a0.Method, .int .i64 a0.Number]) (by kernel_rfl) rfl rfl (fun w => sq_ConsoleCommand x5_0 a0 w) rfl) (s_sa ?_)
    refine aops_nil ?_
    cases Option.some.inj h
    exact aw_ret ⟨rfl, rv r1⟩
  intro p5
  obtain ⟨⟨n5, s5_0, s5_1⟩, l5⟩ := p5
  change AW _ _ (⟨95, [], [(1, .one (.ptr 0 0)), (3, .one (.ptr 1 0)), (4, .one (.ptr 2 0)), (5, vI ((s5_0 : Nat) : Int))], [(0, some (.box (c_ConsoleCommand a0))), (1, some (.box (c_Actorgridref41form (x3.getD ((a0.Kind).toNat) default)))), (2, some (.box (c_ConsoleCommand s5_1)))]⟩ : ASt) _
  replace l5 : actorgridref41_Valid_loop1 k a0 x3 n5 s5_0 s5_1 = some o5 := l5
  rcases n5 with _ | n5
  · exact absurd (show none = some o5 from l5) nofun
  rw [actorgridref41_Valid_loop1] at l5
  refine aw_seq (aw_seq (aw_region (s_mv ?_)))
  refine s_fd ?_
  refine s_ld ?_
  refine aops_step1 rfl (st_len_str rfl rfl) (s_cm ?_)
  refine aops_nil ?_
  refine aw_cond rfl (fun c6 => ?_) (fun c6 => ?_)
  · replace l5 := Md.cond_t l5 c6
    refine aw_skip ?_
    obtain ⟨o7, j7, l5⟩ := Md.bind_s l5
    refine aw_cut (ε := ConsoleCommand) (fun x => (⟨95, [], [(1, .one (.ptr 0 0)), (3, .one (.ptr 1 0)), (4, .one (.ptr 2 0)), (5, vI ((s5_0 : Nat) : Int))], [(0, some (.box (c_ConsoleCommand a0))), (1, some (.box (c_Actorgridref41form (x3.getD ((a0.Kind).toNat) default)))), (2, some (.box ([cI x.Kind, .val (Sv x.Topic)] ++ c_Ref x.Actor ++ [.val (Sv x.Method), cI x.Number])))]⟩ : ASt)) (fun x => Sum.inl x = o7) ?_ ?_
    · intro x7_0 hI7
      subst hI7
      replace l5 := Md.onS_l l5
      change AW _ _ (⟨95, [], [(1, .one (.ptr 0 0)), (3, .one (.ptr 1 0)), (4, .one (.ptr 2 0)), (5, vI ((s5_0 : Nat) : Int))], [(0, some (.box (c_ConsoleCommand a0))), (1, some (.box (c_Actorgridref41form (x3.getD ((a0.Kind).toNat) default)))), (2, some (.box (c_ConsoleCommand x7_0)))]⟩ : ASt) _
      refine aw_region (s_mv ?_)
      obtain ⟨g8, l5⟩ := Md.ifp_s l5
      refine aops_step1 rfl (ev_add rfl rfl rfl (Md.nat_add g8)) (s_sa ?_)
      refine aops_nil ?_
      exact ⟨⟨(n5, (s5_0 + 1), x7_0), l5⟩, Nat.lt_succ_self _, wk⟩
    refine aw_block (aw_seq (aw_region (s_sa ?_)))
    refine aops_nil (aw_seq (aw_seq (aw_region (s_fd ?_))))
    refine s_ld ?_
    refine s_mv ?_
    obtain ⟨g9, j7⟩ := Md.ifp_s j7
    refine aops_step1 rfl (st_index_str rfl rfl rfl g9 rfl) (aops_nil (aw_block (aw_seq (aw_region (s_cm ?_)))))
    refine s_sa ?_
    refine aops_nil ?_
    refine aw_cond rfl (fun c10 => ?_) (fun c10 => ?_)
    · replace j7 := Md.cond_t j7 c10
      refine aw_seq (aw_region (s_fd ?_))
      refine s_ld ?_
      obtain ⟨x11, hx11, j7⟩ := Md.bind_s j7
      refine aops_step1 rfl (ev_call_v (actorgridref41_Name_fn k a0.Topic x11 hx11) rfl [] ai rfl rfl rfl (.inl rfl) rfl) (s_sa ?_)
      refine aops_nil (aw_region (s_fd ?_))
      refine s_ld ?_
      refine s_fd ?_
      refine s_st [_, _, _, _, _, _] ?_
      refine aops_nil (aw_seq (aw_region (s_mv ?_)))
      refine s_nt ?_
      refine aops_nil ?_
      refine aw_cond rfl (fun c12 => ?_) (fun c12 => ?_)
      · replace j7 := Md.cond_t j7 c12
        refine aw_seq (aw_region (s_sa ?_))
        refine aops_nil ?_
        cases Option.some.inj j7
        replace l5 := Md.onS_r l5
        cases Option.some.inj l5
        replace h := Md.onS_r h
        cases Option.some.inj h
        exact aw_ret ⟨rfl, rv r1⟩
      replace j7 := Md.cond_f j7 c12
      refine aw_skip ?_
      show ∃ _x : ConsoleCommand, _ = _ ∧ Weak _ _
      exact ⟨(⟨s5_1.Kind, a0.Topic, s5_1.Actor, s5_1.Method, s5_1.Number⟩ : ConsoleCommand), Option.some.inj j7, wk⟩
    replace j7 := Md.cond_f j7 c10
    refine aw_seq (aw_region (s_cm ?_))
    refine s_sa ?_
    refine aops_nil ?_
    refine aw_cond rfl (fun c13 => ?_) (fun c13 => ?_)
    · replace j7 := Md.cond_t j7 c13
      refine aw_seq (aw_region ?_)
      iterate 2 refine s_fd ?_
      refine s_ld ?_
      obtain ⟨x14, hx14, j7⟩ := Md.bind_s j7
      refine aops_step1 rfl (ev_call_v (actorgridref41_Name_fn k a0.Actor.fType x14 hx14) rfl [] ai rfl rfl rfl (.inl rfl) rfl) (s_sa ?_)
      refine aops_nil (aw_region ?_)
      iterate 2 refine s_fd ?_
      refine s_ld ?_
      iterate 2 refine s_fd ?_
      refine s_st [_, _, _, _, _, _] ?_
      refine aops_nil (aw_seq (aw_region (s_mv ?_)))
      refine s_nt ?_
      refine aops_nil ?_
      refine aw_cond rfl (fun c15 => ?_) (fun c15 => ?_)
      · replace j7 := Md.cond_t j7 c15
        refine aw_seq (aw_region (s_sa ?_))
        refine aops_nil ?_
        cases Option.some.inj j7
        replace l5 := Md.onS_r l5
        cases Option.some.inj l5
        replace h := Md.onS_r h
        cases Option.some.inj h
        exact aw_ret ⟨rfl, rv r1⟩
      replace j7 := Md.cond_f j7 c15
      refine aw_skip ?_
      show ∃ _x : ConsoleCommand, _ = _ ∧ Weak _ _
      exact ⟨(⟨s5_1.Kind, s5_1.Topic, (⟨a0.Actor.fType, s5_1.Actor.Key⟩ : Ref), s5_1.Method, s5_1.Number⟩ : ConsoleCommand), Option.some.inj j7, wk⟩
    replace j7 := Md.cond_f j7 c13
    refine aw_seq (aw_region (s_cm ?_))
    refine s_sa ?_
    refine aops_nil ?_
    refine aw_cond rfl (fun c16 => ?_) (fun c16 => ?_)
    · replace j7 := Md.cond_t j7 c16
      refine aw_seq (aw_region ?_)
      iterate 2 refine s_fd ?_
      refine s_ld ?_
      refine aops_step1 rfl (st_len_str rfl rfl) (s_cm ?_)
      refine s_sa ?_
      refine aops_nil (aw_region ?_)
      iterate 2 refine s_fd ?_
      refine s_ld ?_
      iterate 2 refine s_fd ?_
      refine s_st [_, _, _, _, _, _] ?_
      refine aops_nil (aw_seq (aw_region (s_mv ?_)))
      refine s_nt ?_
      refine aops_nil ?_
      refine aw_cond rfl (fun c17 => ?_) (fun c17 => ?_)
      · replace j7 := Md.cond_t j7 c17
        refine aw_seq (aw_region (s_sa ?_))
        refine aops_nil ?_
        cases Option.some.inj j7
        replace l5 := Md.onS_r l5
        cases Option.some.inj l5
        replace h := Md.onS_r h
        cases Option.some.inj h
        exact aw_ret ⟨rfl, rv r1⟩
      replace j7 := Md.cond_f j7 c17
      refine aw_skip ?_
      show ∃ _x : ConsoleCommand, _ = _ ∧ Weak _ _
      exact ⟨(⟨s5_1.Kind, s5_1.Topic, (⟨s5_1.Actor.fType, a0.Actor.Key⟩ : Ref), s5_1.Method, s5_1.Number⟩ : ConsoleCommand), Option.some.inj j7, wk⟩
    replace j7 := Md.cond_f j7 c16
    refine aw_seq (aw_region (s_cm ?_))
    refine s_sa ?_
    refine aops_nil ?_
    refine aw_cond rfl (fun c18 => ?_) (fun c18 => ?_)
    · replace j7 := Md.cond_t j7 c18
      refine aw_seq (aw_region (s_fd ?_))
      refine s_ld ?_
      obtain ⟨x19, hx19, j7⟩ := Md.bind_s j7
      refine aops_step1 rfl (ev_call_v (actorgridref41_Name_fn k a0.Method x19 hx19) rfl [] ai rfl rfl rfl (.inl rfl) rfl) (s_sa ?_)
      refine aops_nil (aw_region (s_fd ?_))
      refine s_ld ?_
      refine s_fd ?_
      refine s_st [_, _, _, _, _, _] ?_
      refine aops_nil (aw_seq (aw_region (s_mv ?_)))
      refine s_nt ?_
      refine aops_nil ?_
      refine aw_cond rfl (fun c20 => ?_) (fun c20 => ?_)
      · replace j7 := Md.cond_t j7 c20
        refine aw_seq (aw_region (s_sa ?_))
        refine aops_nil ?_
        cases Option.some.inj j7
        replace l5 := Md.onS_r l5
        cases Option.some.inj l5
        replace h := Md.onS_r h
        cases Option.some.inj h
        exact aw_ret ⟨rfl, rv r1⟩
      replace j7 := Md.cond_f j7 c20
      refine aw_skip ?_
      show ∃ _x : ConsoleCommand, _ = _ ∧ Weak _ _
      exact ⟨(⟨s5_1.Kind, s5_1.Topic, s5_1.Actor, a0.Method, s5_1.Number⟩ : ConsoleCommand), Option.some.inj j7, wk⟩
    replace j7 := Md.cond_f j7 c18
    refine aw_seq (aw_region (s_cm ?_))
    refine s_sa ?_
    refine aops_nil ?_
    refine aw_cond rfl (fun c21 => ?_) (fun c21 => ?_)
    · replace j7 := Md.cond_t j7 c21
      refine aw_seq (aw_region (s_fd ?_))
      refine s_ld ?_
      refine s_fd ?_
      refine s_ld ?_
      refine s_cm ?_
      refine s_mv ?_
      refine aops_mid 6 (⟨95, [], [(1, .one (.ptr 0 0)), (3, .one (.ptr 1 0)), (4, .one (.ptr 2 0)), (5, vI ((s5_0 : Nat) : Int)), (6, vB true), (86, vB ((decide (a0.Number ≥ ((x3.getD ((a0.Kind).toNat) default).low))) && (decide (a0.Number ≤ ((x3.getD ((a0.Kind).toNat) default).high)))))], [(0, some (.box (c_ConsoleCommand a0))), (1, some (.box (c_Actorgridref41form (x3.getD ((a0.Kind).toNat) default)))), (2, some (.box (c_ConsoleCommand s5_1)))]⟩ : ASt) ?_ ?_
      · rcases Md.bool_or ((decide (a0.Number ≥ ((x3.getD ((a0.Kind).toNat) default).low)))) with q22 | q22
        · skip
          refine y_fd q22 ?_
          refine y_ld q22 ?_
          refine y_fd q22 ?_
          refine y_ld q22 ?_
          refine y_cm q22 ?_
          refine s_py q22 ?_
          refine aops_nil ?_
          exact wq q22
        iterate 5 refine np q22 ?_
        refine s_pn q22 ?_
        refine aops_nil ?_
        exact wq q22
      refine s_sa ?_
      refine aops_nil (aw_region (s_fd ?_))
      refine s_ld ?_
      refine s_fd ?_
      refine s_st [_, _, _, _, _, _] ?_
      refine aops_nil (aw_seq (aw_region (s_mv ?_)))
      refine s_nt ?_
      refine aops_nil ?_
      refine aw_cond rfl (fun c23 => ?_) (fun c23 => ?_)
      · replace j7 := Md.cond_t j7 c23
        refine aw_seq (aw_region (s_sa ?_))
        refine aops_nil ?_
        cases Option.some.inj j7
        replace l5 := Md.onS_r l5
        cases Option.some.inj l5
        replace h := Md.onS_r h
        cases Option.some.inj h
        exact aw_ret ⟨rfl, rv r1⟩
      replace j7 := Md.cond_f j7 c23
      refine aw_skip ?_
      show ∃ _x : ConsoleCommand, _ = _ ∧ Weak _ _
      exact ⟨(⟨s5_1.Kind, s5_1.Topic, s5_1.Actor, s5_1.Method, a0.Number⟩ : ConsoleCommand), Option.some.inj j7, wk⟩
    replace j7 := Md.cond_f j7 c21
    refine aw_skip (aw_seq (aw_region (s_mv ?_)))
    refine s_nt ?_
    refine aops_nil (aw_no rfl (rfl) (aw_skip ?_))
    show ∃ _x : ConsoleCommand, _ = _ ∧ Weak _ _
    exact ⟨s5_1, Option.some.inj j7, wk⟩
  replace l5 := Md.cond_f l5 c6
  refine aw_exit ?_
  show ∃ _x : ConsoleCommand, _ = _ ∧ Weak _ _
  exact ⟨s5_1, Option.some.inj l5, wk⟩
set_option maxHeartbeats 2000000 in
theorem actorgridref41_hex_fn (k : Nat) (a0 : UInt8) (r : (List UInt8)) (h : actorgridref41_hex k a0 = some r) : FnC Tryd.prog 44 [.one (.val (.int .u8 (a0.toNat : Int)))] [] (Det (.one (.val (Sv r))) []) := by
  unfold actorgridref41_hex at h
  refine fn_intro' 7 Tryd.func44 rfl rfl rfl (aw_seq (aw_region (s_sa ?_)))
  refine aops_nil (aw_seq (aw_region ?_))
  iterate 2 refine s_mv ?_
  refine aops_step1 rfl (ev_add rfl rfl rfl (Md.add_u8 a0 (1 : UInt8))) ?_
  obtain ⟨g1, h⟩ := Md.ifp_s h
  refine aops_step1 rfl (st_cut_both_s rfl ⟨_, _, rfl, rfl⟩ ⟨_, _, rfl, rfl⟩ g1 rfl) (s_sa ?_)
  refine aops_nil ?_
  cases Option.some.inj h
  exact aw_ret ⟨rfl, rv r1⟩
set_option maxHeartbeats 2000000 in
theorem actorgridref41_Quote_fn (k : Nat) (a0 : List UInt8) (r : (List UInt8)) (h : actorgridref41_Quote k a0 = some r) : FnC Tryd.prog 22 [.one (.val (Sv a0))] [] (Det (.one (.val (Sv r))) []) := by
  unfold actorgridref41_Quote at h
  refine fn_intro' 56 Tryd.func22 rfl rfl rfl (aw_seq (aw_region (s_sa ?_)))
  refine aops_nil (aw_seq (aw_region (s_sa ?_)))
  refine aops_nil (aw_seq (aw_seq (aw_region (s_sa ?_))))
  refine aops_nil (aw_block ?_)
  obtain ⟨o1, ho1, h⟩ := Md.bind_s h
  refine aw_loop_x (ι := {p : Nat × (List UInt8) × Nat // actorgridref41_Quote_loop1 k a0 p.1 p.2.1 p.2.2 = some o1}) (fun p => (⟨56, [], [(0, .one (.val (Sv a0))), (3, .one (.val (Sv p.1.2.1))), (4, vI ((p.1.2.2 : Nat) : Int))], []⟩ : ASt)) (fun p => p.1.1) ⟨(k, ([34] : List UInt8), 0), ho1⟩ wk 0 (ε := (List UInt8)) (fun x => (⟨56, [], [(3, .one (.val (Sv x)))], []⟩ : ASt)) (fun x => x = o1) (fun _ _ w h => aw_weak w h) ?_ ?_
  · intro x1_0 hI1
    subst hI1
    change AW _ _ (⟨56, [], [(3, .one (.val (Sv x1_0)))], []⟩ : ASt) _
    refine aw_seq (aw_region (s_mv ?_))
    obtain ⟨g2, h⟩ := Md.ifp_s h
    refine aops_step1 rfl (st_str_add rfl rfl rfl g2) (s_sa ?_)
    refine aops_nil ?_
    cases Option.some.inj h
    exact aw_ret ⟨rfl, rv r1⟩
  intro p1
  obtain ⟨⟨n1, s1_0, s1_1⟩, l1⟩ := p1
  change AW _ _ (⟨56, [], [(0, .one (.val (Sv a0))), (3, .one (.val (Sv s1_0))), (4, vI ((s1_1 : Nat) : Int))], []⟩ : ASt) _
  replace l1 : actorgridref41_Quote_loop1 k a0 n1 s1_0 s1_1 = some o1 := l1
  rcases n1 with _ | n1
  · exact absurd (show none = some o1 from l1) nofun
  rw [actorgridref41_Quote_loop1] at l1
  refine aw_seq (aw_seq (aw_region ?_))
  iterate 2 refine s_mv ?_
  refine aops_step1 rfl (st_len_str rfl rfl) (s_cm ?_)
  refine aops_nil ?_
  refine aw_cond rfl (fun c3 => ?_) (fun c3 => ?_)
  · replace l1 := Md.cond_t l1 c3
    refine aw_skip ?_
    obtain ⟨o4, j4, l1⟩ := Md.bind_s l1
    refine aw_cut (ε := (List UInt8)) (fun x => (⟨56, [], [(0, .one (.val (Sv a0))), (3, .one (.val (Sv x))), (4, vI ((s1_1 : Nat) : Int))], []⟩ : ASt)) (fun x => x = o4) ?_ ?_
    · intro x4_0 hI4
      subst hI4
      change AW _ _ (⟨56, [], [(0, .one (.val (Sv a0))), (3, .one (.val (Sv x4_0))), (4, vI ((s1_1 : Nat) : Int))], []⟩ : ASt) _
      refine aw_region (s_mv ?_)
      obtain ⟨g5, l1⟩ := Md.ifp_s l1
      refine aops_step1 rfl (ev_add rfl rfl rfl (Md.nat_add g5)) (s_sa ?_)
      refine aops_nil ?_
      exact ⟨⟨(n1, x4_0, (s1_1 + 1)), l1⟩, Nat.lt_succ_self _, wk⟩
    refine aw_block (aw_seq (aw_region ?_))
    iterate 2 refine s_mv ?_
    obtain ⟨g6, j4⟩ := Md.ifp_s j4
    refine aops_step1 rfl (st_index_str rfl rfl rfl g6 rfl) (s_sa ?_)
    refine aops_nil (aw_block (aw_seq (aw_region (s_mv ?_))))
    refine s_cm ?_
    refine s_mv ?_
    refine aops_mid 3 (⟨56, [], [(0, .one (.val (Sv a0))), (3, .one (.val (Sv s1_0))), (4, vI ((s1_1 : Nat) : Int)), (5, .one (.val (.int .u8 (((a0.getD s1_1 0)).toNat : Int)))), (28, vB (((((a0.getD s1_1 0)).toNat : Int) == 34) || ((((a0.getD s1_1 0)).toNat : Int) == 92)))], []⟩ : ASt) ?_ ?_
    · rcases Md.bool_or (((((a0.getD s1_1 0)).toNat : Int) == 34)) with q7 | q7
      · skip
        iterate 2 refine np q7 ?_
        refine s_py q7 ?_
        refine aops_nil ?_
        exact wq q7
      refine y_mv q7 ?_
      refine y_cm q7 ?_
      refine s_pn q7 ?_
      refine aops_nil ?_
      exact wq q7
    refine s_sa ?_
    refine aops_nil ?_
    refine aw_cond rfl (fun c8 => ?_) (fun c8 => ?_)
    · replace j4 := Md.cond_t j4 c8
      refine aw_region ?_
      iterate 4 refine s_mv ?_
      obtain ⟨g9, j4⟩ := Md.ifp_s j4
      refine aops_step1 rfl (ev_add rfl rfl rfl (Md.nat_add g9)) ?_
      obtain ⟨g10, j4⟩ := Md.ifp_s j4
      refine aops_step1 rfl (st_cut_both_s rfl ⟨_, _, rfl, rfl⟩ ⟨_, _, rfl, rfl⟩ g10 rfl) ?_
      obtain ⟨g11, j4⟩ := Md.ifp_s j4
      refine aops_step1 rfl (st_str_add rfl rfl rfl g11) ?_
      obtain ⟨g12, j4⟩ := Md.ifp_s j4
      refine aops_step1 rfl (st_str_add rfl rfl rfl g12) (s_sa ?_)
      refine aops_nil ?_
      show ∃ _x : (List UInt8), _ = _ ∧ Weak _ _
      exact ⟨(s1_0 ++ (([92] : List UInt8) ++ ((a0.drop s1_1).take ((s1_1 + 1) - s1_1)))), Option.some.inj j4, wk⟩
    replace j4 := Md.cond_f j4 c8
    refine aw_seq (aw_region (s_mv ?_))
    refine s_cm ?_
    refine s_mv ?_
    refine aops_mid 3 (⟨56, [], [(0, .one (.val (Sv a0))), (3, .one (.val (Sv s1_0))), (4, vI ((s1_1 : Nat) : Int)), (5, .one (.val (.int .u8 (((a0.getD s1_1 0)).toNat : Int)))), (43, vB ((decide ((((a0.getD s1_1 0)).toNat : Int) < 32)) || (decide ((((a0.getD s1_1 0)).toNat : Int) > 126))))], []⟩ : ASt) ?_ ?_
    · rcases Md.bool_or ((decide ((((a0.getD s1_1 0)).toNat : Int) < 32))) with q13 | q13
      · skip
        iterate 2 refine np q13 ?_
        refine s_py q13 ?_
        refine aops_nil ?_
        exact wq q13
      refine y_mv q13 ?_
      refine y_cm q13 ?_
      refine s_pn q13 ?_
      refine aops_nil ?_
      exact wq q13
    refine s_sa ?_
    refine aops_nil ?_
    refine aw_cond rfl (fun c14 => ?_) (fun c14 => ?_)
    · replace j4 := Md.cond_t j4 c14
      refine aw_region ?_
      iterate 2 refine s_mv ?_
      refine aops_step1 rfl (ev_quo rfl rfl rfl (by decide) (Md.quo_u8 (a0.getD s1_1 0) (16 : UInt8))) ?_
      obtain ⟨x15, hx15, j4⟩ := Md.bind_s j4
      refine aops_step1 rfl (ev_call_v (actorgridref41_hex_fn k ((a0.getD s1_1 0) / (16 : UInt8)) x15 hx15) rfl [] ai rfl rfl rfl (.inl rfl) rfl) ?_
      obtain ⟨g16, j4⟩ := Md.ifp_s j4
      refine aops_step1 rfl (st_str_add rfl rfl rfl g16) (s_mv ?_)
      refine aops_step1 rfl (ev_rem rfl rfl rfl (by decide) (Md.rem_u8 (a0.getD s1_1 0) (16 : UInt8))) ?_
      obtain ⟨x17, hx17, j4⟩ := Md.bind_s j4
      refine aops_step1 rfl (ev_call_v (actorgridref41_hex_fn k ((a0.getD s1_1 0) % (16 : UInt8)) x17 hx17) rfl [] ai rfl rfl rfl (.inl rfl) rfl) ?_
      obtain ⟨g18, j4⟩ := Md.ifp_s j4
      refine aops_step1 rfl (st_str_add rfl rfl rfl g18) ?_
      obtain ⟨g19, j4⟩ := Md.ifp_s j4
      refine aops_step1 rfl (st_str_add rfl rfl rfl g19) (s_sa ?_)
      refine aops_nil ?_
      show ∃ _x : (List UInt8), _ = _ ∧ Weak _ _
      exact ⟨(s1_0 ++ ((([92, 120] : List UInt8) ++ x15) ++ x17)), Option.some.inj j4, wk⟩
    replace j4 := Md.cond_f j4 c14
    refine aw_region ?_
    iterate 4 refine s_mv ?_
    obtain ⟨g20, j4⟩ := Md.ifp_s j4
    refine aops_step1 rfl (ev_add rfl rfl rfl (Md.nat_add g20)) ?_
    obtain ⟨g21, j4⟩ := Md.ifp_s j4
    refine aops_step1 rfl (st_cut_both_s rfl ⟨_, _, rfl, rfl⟩ ⟨_, _, rfl, rfl⟩ g21 rfl) ?_
    obtain ⟨g22, j4⟩ := Md.ifp_s j4
    refine aops_step1 rfl (st_str_add rfl rfl rfl g22) (s_sa ?_)
    refine aops_nil ?_
    show ∃ _x : (List UInt8), _ = _ ∧ Weak _ _
    exact ⟨(s1_0 ++ ((a0.drop s1_1).take ((s1_1 + 1) - s1_1))), Option.some.inj j4, wk⟩
  replace l1 := Md.cond_f l1 c3
  refine aw_exit ?_
  show ∃ _x : (List UInt8), _ = _ ∧ Weak _ _
  exact ⟨s1_0, Option.some.inj l1, wk⟩
set_option maxHeartbeats 2000000 in
theorem actorgridref36_Decimal_fn (k : Nat) (a0 : Int) (r : (List UInt8)) (h : actorgridref36_Decimal k a0 = some r) : FnC Tryd.prog 42 [vI a0] [] (Det (.one (.val (Sv r))) []) := by
  unfold actorgridref36_Decimal at h
  refine fn_intro' 34 Tryd.func42 rfl rfl rfl (aw_seq (aw_region (s_sa ?_)))
  refine aops_nil (aw_seq (aw_region (s_mv ?_)))
  refine aops_step1 rfl (st_conv_int rfl rfl Tryd.underlying3 Tryd.underlying73 (Md.ofInt_u64 a0)) (s_sa ?_)
  refine aops_nil (aw_seq (aw_seq (aw_region (s_mv ?_))))
  refine s_cm ?_
  refine aops_nil ?_
  refine aw_cond rfl (fun c1 => ?_) (fun c1 => ?_)
  · replace h := Md.cond_t h c1
    refine aw_region (s_mv ?_)
    refine aops_step1 rfl (st_neg rfl rfl (Md.neg_u64 (UInt64.ofInt a0))) (s_sa ?_)
    refine aops_nil (aw_seq (aw_region (s_sa ?_)))
    refine aops_nil (aw_seq (aw_block ?_))
    obtain ⟨o2, ho2, h⟩ := Md.bind_s h
    refine aw_loop_x (ι := {p : Nat × UInt64 × (List UInt8) // actorgridref36_Decimal_loop1 k p.1 p.2.1 p.2.2 = some o2}) (fun p => (⟨34, [], [(0, vI a0), (3, .one (.val (.int .u64 (p.1.2.1.toNat : Int)))), (4, .one (.val (Sv p.1.2.2)))], []⟩ : ASt)) (fun p => p.1.1) ⟨(k, (-(UInt64.ofInt a0)), ([] : List UInt8)), ho2⟩ wk 0 (ε := (UInt64 × (List UInt8))) (fun x => (⟨34, [], [(0, vI a0), (3, .one (.val (.int .u64 (x.1.toNat : Int)))), (4, .one (.val (Sv x.2)))], []⟩ : ASt)) (fun x => x = o2) (fun _ _ w h => aw_weak w h) ?_ ?_
    · intro x2_0 hI2
      subst hI2
      change AW _ _ (⟨34, [], [(0, vI a0), (3, .one (.val (.int .u64 (x2_0.1.toNat : Int)))), (4, .one (.val (Sv x2_0.2)))], []⟩ : ASt) _
      refine aw_seq (aw_region ?_)
      iterate 2 refine s_mv ?_
      refine aops_step1 rfl (ev_add rfl rfl rfl (Md.add_u64 x2_0.1 (1 : UInt64))) ?_
      obtain ⟨g3, h⟩ := Md.ifp_s h
      refine aops_step1 rfl (st_cut_both_s rfl ⟨_, _, rfl, rfl⟩ ⟨_, _, rfl, rfl⟩ g3 rfl) (s_mv ?_)
      obtain ⟨g4, h⟩ := Md.ifp_s h
      refine aops_step1 rfl (st_str_add rfl rfl rfl g4) (s_sa ?_)
      refine aops_nil (aw_seq (aw_seq (aw_region (s_mv ?_))))
      refine s_cm ?_
      refine aops_nil (aw_yes rfl (c1) (aw_seq (aw_region (s_mv ?_))))
      obtain ⟨g5, h⟩ := Md.ifp_s h
      refine aops_step1 rfl (st_str_add rfl rfl rfl g5) (s_sa ?_)
      refine aops_nil ?_
      cases Option.some.inj h
      exact aw_ret ⟨rfl, rv r1⟩
    intro p2
    obtain ⟨⟨n2, s2_0, s2_1⟩, l2⟩ := p2
    change AW _ _ (⟨34, [], [(0, vI a0), (3, .one (.val (.int .u64 (s2_0.toNat : Int)))), (4, .one (.val (Sv s2_1)))], []⟩ : ASt) _
    replace l2 : actorgridref36_Decimal_loop1 k n2 s2_0 s2_1 = some o2 := l2
    rcases n2 with _ | n2
    · exact absurd (show none = some o2 from l2) nofun
    rw [actorgridref36_Decimal_loop1] at l2
    refine aw_seq (aw_seq (aw_region (s_mv ?_)))
    refine s_cm ?_
    refine aops_nil ?_
    refine aw_cond rfl (fun c6 => ?_) (fun c6 => ?_)
    · replace l2 := Md.cond_t l2 c6
      refine aw_skip (aw_block (aw_seq (aw_region (s_mv ?_))))
      refine aops_step1 rfl (ev_rem rfl rfl rfl (by decide) (Md.rem_u64 s2_0 (10 : UInt64))) (s_mv ?_)
      refine aops_step1 rfl (ev_rem rfl rfl rfl (by decide) (Md.rem_u64 s2_0 (10 : UInt64))) ?_
      refine aops_step1 rfl (ev_add rfl rfl rfl (Md.add_u64 (s2_0 % (10 : UInt64)) (1 : UInt64))) ?_
      obtain ⟨g7, l2⟩ := Md.ifp_s l2
      refine aops_step1 rfl (st_cut_both_s rfl ⟨_, _, rfl, rfl⟩ ⟨_, _, rfl, rfl⟩ g7 rfl) (s_mv ?_)
      obtain ⟨g8, l2⟩ := Md.ifp_s l2
      refine aops_step1 rfl (st_str_add rfl rfl rfl g8) (s_sa ?_)
      refine aops_nil (aw_region (s_mv ?_))
      refine aops_step1 rfl (ev_quo rfl rfl rfl (by decide) (Md.quo_u64 s2_0 (10 : UInt64))) (s_sa ?_)
      refine aops_nil ?_
      exact ⟨⟨(n2, (s2_0 / (10 : UInt64)), (((([48, 49, 50, 51, 52, 53, 54, 55, 56, 57] : List UInt8).drop ((s2_0 % (10 : UInt64)).toNat)).take (((s2_0 % (10 : UInt64)) + (1 : UInt64)).toNat - ((s2_0 % (10 : UInt64)).toNat))) ++ s2_1)), l2⟩, Nat.lt_succ_self _, wk⟩
    replace l2 := Md.cond_f l2 c6
    refine aw_exit ?_
    show ∃ _x : UInt64 × (List UInt8), _ = _ ∧ Weak _ _
    exact ⟨(s2_0, s2_1), Option.some.inj l2, wk⟩
  replace h := Md.cond_f h c1
  refine aw_skip (aw_seq (aw_region (s_sa ?_)))
  refine aops_nil (aw_seq (aw_block ?_))
  obtain ⟨o9, ho9, h⟩ := Md.bind_s h
  refine aw_loop_x (ι := {p : Nat × UInt64 × (List UInt8) // actorgridref36_Decimal_loop2 k p.1 p.2.1 p.2.2 = some o9}) (fun p => (⟨34, [], [(0, vI a0), (3, .one (.val (.int .u64 (p.1.2.1.toNat : Int)))), (4, .one (.val (Sv p.1.2.2)))], []⟩ : ASt)) (fun p => p.1.1) ⟨(k, (UInt64.ofInt a0), ([] : List UInt8)), ho9⟩ wk 0 (ε := (UInt64 × (List UInt8))) (fun x => (⟨34, [], [(0, vI a0), (3, .one (.val (.int .u64 (x.1.toNat : Int)))), (4, .one (.val (Sv x.2)))], []⟩ : ASt)) (fun x => x = o9) (fun _ _ w h => aw_weak w h) ?_ ?_
  · intro x9_0 hI9
    subst hI9
    change AW _ _ (⟨34, [], [(0, vI a0), (3, .one (.val (.int .u64 (x9_0.1.toNat : Int)))), (4, .one (.val (Sv x9_0.2)))], []⟩ : ASt) _
    refine aw_seq (aw_region ?_)
    iterate 2 refine s_mv ?_
    refine aops_step1 rfl (ev_add rfl rfl rfl (Md.add_u64 x9_0.1 (1 : UInt64))) ?_
    obtain ⟨g10, h⟩ := Md.ifp_s h
    refine aops_step1 rfl (st_cut_both_s rfl ⟨_, _, rfl, rfl⟩ ⟨_, _, rfl, rfl⟩ g10 rfl) (s_mv ?_)
    obtain ⟨g11, h⟩ := Md.ifp_s h
    refine aops_step1 rfl (st_str_add rfl rfl rfl g11) (s_sa ?_)
    refine aops_nil (aw_seq (aw_seq (aw_region (s_mv ?_))))
    refine s_cm ?_
    refine aops_nil (aw_no rfl (c1) (aw_skip (aw_seq (aw_region (s_mv ?_)))))
    refine s_sa ?_
    refine aops_nil ?_
    cases Option.some.inj h
    exact aw_ret ⟨rfl, rv r1⟩
  intro p9
  obtain ⟨⟨n9, s9_0, s9_1⟩, l9⟩ := p9
  change AW _ _ (⟨34, [], [(0, vI a0), (3, .one (.val (.int .u64 (s9_0.toNat : Int)))), (4, .one (.val (Sv s9_1)))], []⟩ : ASt) _
  replace l9 : actorgridref36_Decimal_loop2 k n9 s9_0 s9_1 = some o9 := l9
  rcases n9 with _ | n9
  · exact absurd (show none = some o9 from l9) nofun
  rw [actorgridref36_Decimal_loop2] at l9
  refine aw_seq (aw_seq (aw_region (s_mv ?_)))
  refine s_cm ?_
  refine aops_nil ?_
  refine aw_cond rfl (fun c12 => ?_) (fun c12 => ?_)
  · replace l9 := Md.cond_t l9 c12
    refine aw_skip (aw_block (aw_seq (aw_region (s_mv ?_))))
    refine aops_step1 rfl (ev_rem rfl rfl rfl (by decide) (Md.rem_u64 s9_0 (10 : UInt64))) (s_mv ?_)
    refine aops_step1 rfl (ev_rem rfl rfl rfl (by decide) (Md.rem_u64 s9_0 (10 : UInt64))) ?_
    refine aops_step1 rfl (ev_add rfl rfl rfl (Md.add_u64 (s9_0 % (10 : UInt64)) (1 : UInt64))) ?_
    obtain ⟨g13, l9⟩ := Md.ifp_s l9
    refine aops_step1 rfl (st_cut_both_s rfl ⟨_, _, rfl, rfl⟩ ⟨_, _, rfl, rfl⟩ g13 rfl) (s_mv ?_)
    obtain ⟨g14, l9⟩ := Md.ifp_s l9
    refine aops_step1 rfl (st_str_add rfl rfl rfl g14) (s_sa ?_)
    refine aops_nil (aw_region (s_mv ?_))
    refine aops_step1 rfl (ev_quo rfl rfl rfl (by decide) (Md.quo_u64 s9_0 (10 : UInt64))) (s_sa ?_)
    refine aops_nil ?_
    exact ⟨⟨(n9, (s9_0 / (10 : UInt64)), (((([48, 49, 50, 51, 52, 53, 54, 55, 56, 57] : List UInt8).drop ((s9_0 % (10 : UInt64)).toNat)).take (((s9_0 % (10 : UInt64)) + (1 : UInt64)).toNat - ((s9_0 % (10 : UInt64)).toNat))) ++ s9_1)), l9⟩, Nat.lt_succ_self _, wk⟩
  replace l9 := Md.cond_f l9 c12
  refine aw_exit ?_
  show ∃ _x : UInt64 × (List UInt8), _ = _ ∧ Weak _ _
  exact ⟨(s9_0, s9_1), Option.some.inj l9, wk⟩
set_option maxHeartbeats 2000000 in
theorem actorgridref41_Format_fn (k : Nat) (a0 : ConsoleCommand) (r : (List UInt8)) (h : actorgridref41_Format k a0 = some r) : FnC Tryd.prog 18 [.agg (c_ConsoleCommand a0)] [] (Det (.one (.val (Sv r))) []) := by
  unfold actorgridref41_Format at h
  refine fn_intro' 64 Tryd.func18 rfl rfl rfl (aw_seq (aw_region (aops_step1 rfl (st_box 0 rfl rfl rfl rfl) (s_sa ?_))))
  refine aops_nil (aw_seq (aw_seq (aw_region (s_ls [_, _, _, _, _, _] ?_))))
  obtain ⟨x1, hx1, h⟩ := Md.bind_s h
  refine aops_step1 rfl (ev_call_v (actorgridref41_Valid_fn k a0 x1 hx1) rfl [] ai rfl rfl rfl (.inl rfl) rfl) (s_nt ?_)
  refine aops_nil ?_
  refine aw_cond rfl (fun c2 => ?_) (fun c2 => ?_)
  · replace h := Md.cond_t h c2
    refine aw_seq (aw_region (s_sa ?_))
    refine aops_nil ?_
    cases Option.some.inj h
    exact aw_ret ⟨rfl, rv r1⟩
  replace h := Md.cond_f h c2
  refine aw_skip ?_
  obtain ⟨x3, hx3, h⟩ := Md.bind_s h
  obtain ⟨g4, h⟩ := Md.ifp_s h
  refine aw_seq ?_
  apply aw_draw 6 ((⟨[], .one (CV.ls c_Actorgridref41form x3)⟩ : Add) :: ⟨[], .one (.ptr 0 _)⟩ :: ⟨[], vI a0.Kind⟩ :: ⟨[], .one (.cptr _)⟩ :: ⟨[], .agg (c_Actorgridref41form (x3.getD ((a0.Kind).toNat) default))⟩ :: ⟨[(1, some (.box [.val (Sv []), .val (Sv []), cI 0, cI 0]))], .one (.ptr 1 _)⟩ :: []) (by decide) rfl ?hk1x ?hf1x ?ho1x ?hr1x
  case ho1x =>
   refine ob [] (fun S hle hfr => .inl ⟨w0, st_call_z (actorgridref41_forms_fn k x3 hx3) (map_ev (.nil)) [] (fun _ => (by repeat' (first | exact .nil | refine .cons ?_ ?_ | refine .one ?_ | refine .agg ?_ | exact .mk rfl | exact .lend (hle.heap _ _ rfl) (by simp) | exact .le (.nil _) rfl | exact .le (.emp _) rfl | exact .le (.any _) rfl | fail))) rfl (.inl rfl) (hle.d rfl)⟩) ?_
   refine ob [] (fun S hle hfr => .inl ⟨w0, ev_field (hle.e rfl) rfl (hle.d rfl)⟩) ?_
   refine ob [1] (fun S hle hfr => .inl ⟨w0, ev_load (hle.e rfl) (hle.heap _ _ rfl) rfl (hle.d rfl)⟩) ?_
   refine ob [0, 2, 1] (fun S hle hfr => .inl ⟨w0, ev_index_in (hle.e rfl) (hle.e rfl) (Md.idx_eq g4) (Md.idx_lt g4) rfl (hle.d rfl)⟩) ?_
   refine ob [3, 0, 2, 1] (fun S hle hfr => .inl ⟨w0, ev_loads_in (ds := [_, _, _, _]) (hle.e rfl) rfl rfl (hle.d rfl)⟩) ?_
   refine ob [] (fun S hle hfr => .inl ⟨w0, st_alloc (cs := [.val (Sv []), .val (Sv []), cI 0, cI 0]) 1 (hfr _ (List.mem_singleton.2 rfl)) rfl rfl rfl (hle.d rfl)⟩) ?_
   exact trivial
  case hk1x => rfl
  case hf1x => rfl
  refine s_st [_, _, _, _] ?_
  refine aops_nil (aw_seq (aw_region (s_fd ?_)))
  refine s_ld ?_
  refine s_sa ?_
  refine aops_nil (aw_seq (aw_seq (aw_region (s_sa ?_))))
  refine aops_nil (aw_block ?_)
  obtain ⟨o5, ho5, h⟩ := Md.bind_s h
  refine aw_loop_x (ι := {p : Nat × (List UInt8) × Nat // actorgridref41_Format_loop1 k a0 x3 p.1 p.2.1 p.2.2 = some o5}) (fun p => (⟨64, [], [(1, .one (.ptr 0 0)), (3, .one (.ptr 1 0)), (4, .one (.val (Sv p.1.2.1))), (5, vI ((p.1.2.2 : Nat) : Int))], [(0, some (.box (c_ConsoleCommand a0))), (1, some (.box (c_Actorgridref41form (x3.getD ((a0.Kind).toNat) default))))]⟩ : ASt)) (fun p => p.1.1) ⟨(k, ((x3.getD ((a0.Kind).toNat) default).word), 0), ho5⟩ wk 0 (ε := (List UInt8)) (fun x => (⟨64, [], [(4, .one (.val (Sv x)))], []⟩ : ASt)) (fun x => x = o5) (fun _ _ w h => aw_weak w h) ?_ ?_
  · intro x5_0 hI5
    subst hI5
    change AW _ _ (⟨64, [], [(4, .one (.val (Sv x5_0)))], []⟩ : ASt) _
    refine aw_seq (aw_region (s_mv ?_))
    refine s_sa ?_
    refine aops_nil ?_
    cases Option.some.inj h
    exact aw_ret ⟨rfl, rv r1⟩
  intro p5
  obtain ⟨⟨n5, s5_0, s5_1⟩, l5⟩ := p5
  change AW _ _ (⟨64, [], [(1, .one (.ptr 0 0)), (3, .one (.ptr 1 0)), (4, .one (.val (Sv s5_0))), (5, vI ((s5_1 : Nat) : Int))], [(0, some (.box (c_ConsoleCommand a0))), (1, some (.box (c_Actorgridref41form (x3.getD ((a0.Kind).toNat) default))))]⟩ : ASt) _
  replace l5 : actorgridref41_Format_loop1 k a0 x3 n5 s5_0 s5_1 = some o5 := l5
  rcases n5 with _ | n5
  · exact absurd (show none = some o5 from l5) nofun
  rw [actorgridref41_Format_loop1] at l5
  refine aw_seq (aw_seq (aw_region (s_mv ?_)))
  refine s_fd ?_
  refine s_ld ?_
  refine aops_step1 rfl (st_len_str rfl rfl) (s_cm ?_)
  refine aops_nil ?_
  refine aw_cond rfl (fun c6 => ?_) (fun c6 => ?_)
  · replace l5 := Md.cond_t l5 c6
    refine aw_skip ?_
    obtain ⟨o7, j7, l5⟩ := Md.bind_s l5
    refine aw_cut (ε := (List UInt8)) (fun x => (⟨64, [], [(1, .one (.ptr 0 0)), (3, .one (.ptr 1 0)), (4, .one (.val (Sv x))), (5, vI ((s5_1 : Nat) : Int))], [(0, some (.box (c_ConsoleCommand a0))), (1, some (.box (c_Actorgridref41form (x3.getD ((a0.Kind).toNat) default))))]⟩ : ASt)) (fun x => x = o7) ?_ ?_
    · intro x7_0 hI7
      subst hI7
      change AW _ _ (⟨64, [], [(1, .one (.ptr 0 0)), (3, .one (.ptr 1 0)), (4, .one (.val (Sv x7_0))), (5, vI ((s5_1 : Nat) : Int))], [(0, some (.box (c_ConsoleCommand a0))), (1, some (.box (c_Actorgridref41form (x3.getD ((a0.Kind).toNat) default))))]⟩ : ASt) _
      refine aw_region (s_mv ?_)
      obtain ⟨g8, l5⟩ := Md.ifp_s l5
      refine aops_step1 rfl (ev_add rfl rfl rfl (Md.nat_add g8)) (s_sa ?_)
      refine aops_nil ?_
      exact ⟨⟨(n5, x7_0, (s5_1 + 1)), l5⟩, Nat.lt_succ_self _, wk⟩
    refine aw_block (aw_seq (aw_region (s_mv ?_)))
    obtain ⟨g9, j7⟩ := Md.ifp_s j7
    refine aops_step1 rfl (st_str_add rfl rfl rfl g9) (s_sa ?_)
    refine aops_nil (aw_seq (aw_region (s_fd ?_)))
    refine s_ld ?_
    refine s_mv ?_
    obtain ⟨g10, j7⟩ := Md.ifp_s j7
    refine aops_step1 rfl (st_index_str rfl rfl rfl g10 rfl) (aops_nil (aw_block (aw_seq (aw_region (s_cm ?_)))))
    refine s_sa ?_
    refine aops_nil ?_
    refine aw_cond rfl (fun c11 => ?_) (fun c11 => ?_)
    · replace j7 := Md.cond_t j7 c11
      refine aw_region (s_mv ?_)
      refine s_fd ?_
      refine s_ld ?_
      obtain ⟨g12, j7⟩ := Md.ifp_s j7
      refine aops_step1 rfl (st_str_add rfl rfl rfl g12) (s_sa ?_)
      refine aops_nil ?_
      show ∃ _x : (List UInt8), _ = _ ∧ Weak _ _
      exact ⟨((s5_0 ++ ([32] : List UInt8)) ++ a0.Topic), Option.some.inj j7, wk⟩
    replace j7 := Md.cond_f j7 c11
    refine aw_seq (aw_region (s_cm ?_))
    refine s_sa ?_
    refine aops_nil ?_
    refine aw_cond rfl (fun c13 => ?_) (fun c13 => ?_)
    · replace j7 := Md.cond_t j7 c13
      refine aw_region (s_mv ?_)
      iterate 2 refine s_fd ?_
      refine s_ld ?_
      obtain ⟨g14, j7⟩ := Md.ifp_s j7
      refine aops_step1 rfl (st_str_add rfl rfl rfl g14) (s_sa ?_)
      refine aops_nil ?_
      show ∃ _x : (List UInt8), _ = _ ∧ Weak _ _
      exact ⟨((s5_0 ++ ([32] : List UInt8)) ++ a0.Actor.fType), Option.some.inj j7, wk⟩
    replace j7 := Md.cond_f j7 c13
    refine aw_seq (aw_region (s_cm ?_))
    refine s_sa ?_
    refine aops_nil ?_
    refine aw_cond rfl (fun c15 => ?_) (fun c15 => ?_)
    · replace j7 := Md.cond_t j7 c15
      refine aw_region (s_mv ?_)
      iterate 2 refine s_fd ?_
      refine s_ld ?_
      obtain ⟨x16, hx16, j7⟩ := Md.bind_s j7
      refine aops_step1 rfl (ev_call_v (actorgridref41_Quote_fn k a0.Actor.Key x16 hx16) rfl [] ai rfl rfl rfl (.inl rfl) rfl) ?_
      obtain ⟨g17, j7⟩ := Md.ifp_s j7
      refine aops_step1 rfl (st_str_add rfl rfl rfl g17) (s_sa ?_)
      refine aops_nil ?_
      show ∃ _x : (List UInt8), _ = _ ∧ Weak _ _
      exact ⟨((s5_0 ++ ([32] : List UInt8)) ++ x16), Option.some.inj j7, wk⟩
    replace j7 := Md.cond_f j7 c15
    refine aw_seq (aw_region (s_cm ?_))
    refine s_sa ?_
    refine aops_nil ?_
    refine aw_cond rfl (fun c18 => ?_) (fun c18 => ?_)
    · replace j7 := Md.cond_t j7 c18
      refine aw_region (s_mv ?_)
      refine s_fd ?_
      refine s_ld ?_
      obtain ⟨g19, j7⟩ := Md.ifp_s j7
      refine aops_step1 rfl (st_str_add rfl rfl rfl g19) (s_sa ?_)
      refine aops_nil ?_
      show ∃ _x : (List UInt8), _ = _ ∧ Weak _ _
      exact ⟨((s5_0 ++ ([32] : List UInt8)) ++ a0.Method), Option.some.inj j7, wk⟩
    replace j7 := Md.cond_f j7 c18
    refine aw_seq (aw_region (s_cm ?_))
    refine s_sa ?_
    refine aops_nil ?_
    refine aw_cond rfl (fun c20 => ?_) (fun c20 => ?_)
    · replace j7 := Md.cond_t j7 c20
      refine aw_region (s_mv ?_)
      refine s_fd ?_
      refine s_ld ?_
      obtain ⟨x21, hx21, j7⟩ := Md.bind_s j7
      refine aops_step1 rfl (ev_call_v (actorgridref36_Decimal_fn k a0.Number x21 hx21) rfl [] ai rfl rfl rfl (.inl rfl) rfl) ?_
      obtain ⟨g22, j7⟩ := Md.ifp_s j7
      refine aops_step1 rfl (st_str_add rfl rfl rfl g22) (s_sa ?_)
      refine aops_nil ?_
      show ∃ _x : (List UInt8), _ = _ ∧ Weak _ _
      exact ⟨((s5_0 ++ ([32] : List UInt8)) ++ x21), Option.some.inj j7, wk⟩
    replace j7 := Md.cond_f j7 c20
    refine aw_skip ?_
    show ∃ _x : (List UInt8), _ = _ ∧ Weak _ _
    exact ⟨(s5_0 ++ ([32] : List UInt8)), Option.some.inj j7, wk⟩
  replace l5 := Md.cond_f l5 c6
  refine aw_exit ?_
  show ∃ _x : (List UInt8), _ = _ ∧ Weak _ _
  exact ⟨s5_0, Option.some.inj l5, wk⟩
set_option maxHeartbeats 2000000 in
theorem actorgridref41_unhex_fn (k : Nat) (a0 : UInt8) (r : UInt8 × Bool) (h : actorgridref41_unhex k a0 = some r) : FnC Tryd.prog 60 [.one (.val (.int .u8 (a0.toNat : Int)))] [] (Det (.tup [.one (.val (.int .u8 (r.1.toNat : Int))), vB r.2]) []) := by
  unfold actorgridref41_unhex at h
  refine fn_intro' 21 Tryd.func60 rfl rfl rfl (aw_seq (aw_region ?_))
  iterate 2 refine s_sa ?_
  refine aops_nil (aw_seq (aw_seq (aw_region (s_mv ?_))))
  refine s_cm ?_
  refine s_mv ?_
  refine aops_mid 3 (⟨21, [], [(0, .one (.val (.int .u8 (a0.toNat : Int)))), (9, vB ((decide ((a0.toNat : Int) ≥ 48)) && (decide ((a0.toNat : Int) ≤ 57))))], []⟩ : ASt) ?_ ?_
  · rcases Md.bool_or ((decide ((a0.toNat : Int) ≥ 48))) with q1 | q1
    · skip
      refine y_mv q1 ?_
      refine y_cm q1 ?_
      refine s_py q1 ?_
      refine aops_nil ?_
      exact wq q1
    iterate 2 refine np q1 ?_
    refine s_pn q1 ?_
    refine aops_nil ?_
    exact wq q1
  refine aops_nil ?_
  refine aw_cond rfl (fun c2 => ?_) (fun c2 => ?_)
  · replace h := Md.cond_t h c2
    refine aw_seq (aw_region (s_mv ?_))
    refine aops_step1 rfl (ev_sub rfl rfl rfl (Md.sub_u8 a0 (48 : UInt8))) ?_
    iterate 2 refine s_sa ?_
    refine aops_nil ?_
    cases Option.some.inj h
    exact aw_ret ⟨rfl, rv (rn (.cons o1 (.cons o1 .nil)))⟩
  replace h := Md.cond_f h c2
  refine aw_skip (aw_seq (aw_seq (aw_region (s_mv ?_))))
  refine s_cm ?_
  refine s_mv ?_
  refine aops_mid 3 (⟨21, [], [(0, .one (.val (.int .u8 (a0.toNat : Int)))), (17, vB ((decide ((a0.toNat : Int) ≥ 97)) && (decide ((a0.toNat : Int) ≤ 102))))], []⟩ : ASt) ?_ ?_
  · rcases Md.bool_or ((decide ((a0.toNat : Int) ≥ 97))) with q3 | q3
    · skip
      refine y_mv q3 ?_
      refine y_cm q3 ?_
      refine s_py q3 ?_
      refine aops_nil ?_
      exact wq q3
    iterate 2 refine np q3 ?_
    refine s_pn q3 ?_
    refine aops_nil ?_
    exact wq q3
  refine aops_nil ?_
  refine aw_cond rfl (fun c4 => ?_) (fun c4 => ?_)
  · replace h := Md.cond_t h c4
    refine aw_seq (aw_region (s_mv ?_))
    refine aops_step1 rfl (ev_sub rfl rfl rfl (Md.sub_u8 a0 (97 : UInt8))) (aops_step1 rfl (ev_add rfl rfl rfl (Md.add_u8 (a0 - (97 : UInt8)) (10 : UInt8))) ?_)
    iterate 2 refine s_sa ?_
    refine aops_nil ?_
    cases Option.some.inj h
    exact aw_ret ⟨rfl, rv (rn (.cons o1 (.cons o1 .nil)))⟩
  replace h := Md.cond_f h c4
  refine aw_skip (aw_seq (aw_region ?_))
  iterate 2 refine s_sa ?_
  refine aops_nil ?_
  cases Option.some.inj h
  exact aw_ret ⟨rfl, rv (rn (.cons o1 (.cons o1 .nil)))⟩
set_option maxHeartbeats 2000000 in
theorem actorgridref41_escape_fn (k : Nat) (a0 : List UInt8) (r : UInt8 × Int × Int) (h : actorgridref41_escape k a0 = some r) : FnC Tryd.prog 46 [.one (.val (Sv a0))] [] (Det (.tup [.one (.val (.int .u8 (r.1.toNat : Int))), vI r.2.1, vI r.2.2]) []) := by
  unfold actorgridref41_escape at h
  refine fn_intro' 53 Tryd.func46 rfl rfl rfl (aw_seq (aw_region ?_))
  iterate 3 refine s_sa ?_
  refine aops_nil (aw_seq (aw_seq (aw_region (s_mv ?_))))
  refine aops_step1 rfl (st_len_str rfl rfl) (s_cm ?_)
  refine aops_nil ?_
  refine aw_cond rfl (fun c1 => ?_) (fun c1 => ?_)
  · replace h := Md.cond_t h c1
    refine aw_seq (aw_region ?_)
    iterate 3 refine s_sa ?_
    refine aops_nil ?_
    cases Option.some.inj h
    exact aw_ret ⟨rfl, rv (rn (.cons o1 (.cons o1 (.cons o1 .nil))))⟩
  replace h := Md.cond_f h c1
  refine aw_skip (aw_seq (aw_seq (aw_region (s_mv ?_))))
  obtain ⟨g2, h⟩ := Md.ifp_s h
  refine aops_step1 rfl (st_index_str rfl rfl rfl g2 rfl) (s_cm ?_)
  refine s_mv ?_
  obtain ⟨o3, j3, h⟩ := Md.bind_s h
  refine aops_cut 4 (ε := Bool) (fun x3 => (⟨53, [], [(0, .one (.val (Sv a0))), (19, vB x3)], []⟩ : ASt)) (fun x3 => x3 = o3) ?_ ?_
  · intro x3 hI3
    subst hI3
    change AOps _ _ _ (⟨53, [], [(0, .one (.val (Sv a0))), (19, vB x3)], []⟩ : ASt) _
    refine aops_nil ?_
    refine aw_cond rfl (fun c4 => ?_) (fun c4 => ?_)
    · replace h := Md.cond_t h c4
      refine aw_seq (aw_region (s_mv ?_))
      obtain ⟨g5, h⟩ := Md.ifp_s h
      refine aops_step1 rfl (st_index_str rfl rfl rfl g5 rfl) ?_
      iterate 3 refine s_sa ?_
      refine aops_nil ?_
      cases Option.some.inj h
      exact aw_ret ⟨rfl, rv (rn (.cons o1 (.cons o1 (.cons o1 .nil))))⟩
    replace h := Md.cond_f h c4
    refine aw_skip (aw_seq (aw_seq (aw_region (s_mv ?_))))
    obtain ⟨g6, h⟩ := Md.ifp_s h
    refine aops_step1 rfl (st_index_str rfl rfl rfl g6 rfl) (s_cm ?_)
    refine aops_nil ?_
    refine aw_cond rfl (fun c7 => ?_) (fun c7 => ?_)
    · replace h := Md.cond_t h c7
      refine aw_seq (aw_region ?_)
      iterate 3 refine s_sa ?_
      refine aops_nil ?_
      cases Option.some.inj h
      exact aw_ret ⟨rfl, rv (rn (.cons o1 (.cons o1 (.cons o1 .nil))))⟩
    replace h := Md.cond_f h c7
    refine aw_skip (aw_seq (aw_region (s_sa ?_)))
    refine aops_nil (aw_seq (aw_seq (aw_region (s_sa ?_))))
    refine aops_nil (aw_block ?_)
    obtain ⟨o8, ho8, h⟩ := Md.bind_s h
    refine aw_loop_x (ι := {p : Nat × UInt8 × Nat // actorgridref41_escape_loop1 k a0 p.1 p.2.1 p.2.2 = some o8}) (fun p => (⟨53, [], [(0, .one (.val (Sv a0))), (5, .one (.val (.int .u8 (p.1.2.1.toNat : Int)))), (6, vI ((p.1.2.2 : Nat) : Int))], []⟩ : ASt)) (fun p => p.1.1) ⟨(k, (0 : UInt8), 2), ho8⟩ wk 0 (ε := UInt8) (fun x => (⟨53, [], [(5, .one (.val (.int .u8 (x.toNat : Int))))], []⟩ : ASt)) (fun x => Sum.inl x = o8) (fun _ _ w h => aw_weak w h) ?_ ?_
    · intro x8_0 hI8
      subst hI8
      replace h := Md.onS_l h
      change AW _ _ (⟨53, [], [(5, .one (.val (.int .u8 (x8_0.toNat : Int))))], []⟩ : ASt) _
      refine aw_seq (aw_seq (aw_region (s_mv ?_)))
      refine s_cm ?_
      refine s_mv ?_
      refine aops_mid 3 (⟨53, [], [(5, .one (.val (.int .u8 (x8_0.toNat : Int)))), (51, vB ((decide ((x8_0.toNat : Int) ≥ 32)) && (decide ((x8_0.toNat : Int) ≤ 126))))], []⟩ : ASt) ?_ ?_
      · rcases Md.bool_or ((decide ((x8_0.toNat : Int) ≥ 32))) with q9 | q9
        · skip
          refine y_mv q9 ?_
          refine y_cm q9 ?_
          refine s_py q9 ?_
          refine aops_nil ?_
          exact wq q9
        iterate 2 refine np q9 ?_
        refine s_pn q9 ?_
        refine aops_nil ?_
        exact wq q9
      refine aops_nil ?_
      refine aw_cond rfl (fun c10 => ?_) (fun c10 => ?_)
      · replace h := Md.cond_t h c10
        refine aw_seq (aw_region ?_)
        iterate 3 refine s_sa ?_
        refine aops_nil ?_
        cases Option.some.inj h
        exact aw_ret ⟨rfl, rv (rn (.cons o1 (.cons o1 (.cons o1 .nil))))⟩
      replace h := Md.cond_f h c10
      refine aw_skip (aw_seq (aw_region (s_mv ?_)))
      iterate 3 refine s_sa ?_
      refine aops_nil ?_
      cases Option.some.inj h
      exact aw_ret ⟨rfl, rv (rn (.cons o1 (.cons o1 (.cons o1 .nil))))⟩
    intro p8
    obtain ⟨⟨n8, s8_0, s8_1⟩, l8⟩ := p8
    change AW _ _ (⟨53, [], [(0, .one (.val (Sv a0))), (5, .one (.val (.int .u8 (s8_0.toNat : Int)))), (6, vI ((s8_1 : Nat) : Int))], []⟩ : ASt) _
    replace l8 : actorgridref41_escape_loop1 k a0 n8 s8_0 s8_1 = some o8 := l8
    rcases n8 with _ | n8
    · exact absurd (show none = some o8 from l8) nofun
    rw [actorgridref41_escape_loop1] at l8
    refine aw_seq (aw_seq (aw_region (s_mv ?_)))
    refine s_cm ?_
    refine aops_nil ?_
    refine aw_cond rfl (fun c11 => ?_) (fun c11 => ?_)
    · replace l8 := Md.cond_t l8 c11
      refine aw_skip (aw_seq (aw_block (aw_seq (aw_seq (aw_region ?_)))))
      iterate 2 refine s_mv ?_
      refine aops_step1 rfl (st_len_str rfl rfl) (s_cm ?_)
      refine aops_nil ?_
      refine aw_cond rfl (fun c12 => ?_) (fun c12 => ?_)
      · replace l8 := Md.cond_t l8 c12
        refine aw_seq (aw_region ?_)
        iterate 3 refine s_sa ?_
        refine aops_nil ?_
        cases Option.some.inj l8
        replace h := Md.onS_r h
        cases Option.some.inj h
        exact aw_ret ⟨rfl, rv (rn (.cons o1 (.cons o1 (.cons o1 .nil))))⟩
      replace l8 := Md.cond_f l8 c12
      refine aw_skip (aw_seq (aw_region ?_))
      iterate 2 refine s_mv ?_
      obtain ⟨g13, l8⟩ := Md.ifp_s l8
      refine aops_step1 rfl (st_index_str rfl rfl rfl g13 rfl) ?_
      obtain ⟨x14, hx14, l8⟩ := Md.bind_s l8
      refine aops_step1 rfl (ev_call_v (actorgridref41_unhex_fn k (a0.getD s8_1 0) x14 hx14) rfl [] ai rfl rfl rfl (.inl rfl) rfl) (s_mt ?_)
      iterate 2 refine s_ex ?_
      iterate 2 refine s_sa ?_
      refine aops_nil (aw_seq (aw_seq (aw_region (s_mv ?_))))
      refine s_nt ?_
      refine aops_nil ?_
      refine aw_cond rfl (fun c15 => ?_) (fun c15 => ?_)
      · replace l8 := Md.cond_t l8 c15
        refine aw_seq (aw_region ?_)
        iterate 3 refine s_sa ?_
        refine aops_nil ?_
        cases Option.some.inj l8
        replace h := Md.onS_r h
        cases Option.some.inj h
        exact aw_ret ⟨rfl, rv (rn (.cons o1 (.cons o1 (.cons o1 .nil))))⟩
      replace l8 := Md.cond_f l8 c15
      refine aw_skip (aw_region (s_mv ?_))
      refine aops_step1 rfl (ev_mul rfl rfl rfl (Md.mul_u8 (16 : UInt8) s8_0)) (s_mv ?_)
      refine aops_step1 rfl (ev_add rfl rfl rfl (Md.add_u8 ((16 : UInt8) * s8_0) x14.1)) (s_sa ?_)
      refine aops_nil (aw_region (s_mv ?_))
      obtain ⟨g16, l8⟩ := Md.ifp_s l8
      refine aops_step1 rfl (ev_add rfl rfl rfl (Md.nat_add g16)) (s_sa ?_)
      refine aops_nil ?_
      exact ⟨⟨(n8, (((16 : UInt8) * s8_0) + x14.1), (s8_1 + 1)), l8⟩, Nat.lt_succ_self _, wk⟩
    replace l8 := Md.cond_f l8 c11
    refine aw_exit ?_
    show ∃ _x : UInt8, _ = _ ∧ Weak _ _
    exact ⟨s8_0, Option.some.inj l8, wk⟩
  rcases Md.bool_or (((((a0.getD 1 0)).toNat : Int) == 34)) with q3 | q3
  · replace j3 := Md.cond_t j3 q3
    iterate 3 refine np q3 ?_
    refine s_py q3 ?_
    refine aops_nil ?_
    show ∃ _x : Bool, _ = _ ∧ Weak _ _
    exact ⟨true, Option.some.inj j3, wk⟩
  replace j3 := Md.cond_f j3 q3
  refine y_mv q3 ?_
  obtain ⟨g17, j3⟩ := Md.ifp_s j3
  refine aops_yes rfl rfl rfl rfl q3 (st_index_str rfl rfl rfl g17 rfl) (y_cm q3 ?_)
  refine s_pn q3 ?_
  refine aops_nil ?_
  show ∃ _x : Bool, _ = _ ∧ Weak _ _
  exact ⟨((((a0.getD 1 0)).toNat : Int) == 92), Option.some.inj j3, wk⟩
set_option maxHeartbeats 2000000 in
theorem actorgridref41_Unquote_fn (k : Nat) (a0 : List UInt8) (r : (List UInt8) × Int × Int) (h : actorgridref41_Unquote k a0 = some r) : FnC Tryd.prog 24 [.one (.val (Sv a0))] [] (Det (.tup [.one (.val (Sv r.1)), vI r.2.1, vI r.2.2]) []) := by
  unfold actorgridref41_Unquote at h
  refine fn_intro' 65 Tryd.func24 rfl rfl rfl (aw_seq (aw_region ?_))
  iterate 3 refine s_sa ?_
  refine aops_nil (aw_seq (aw_seq (aw_region (s_mv ?_))))
  refine aops_step1 rfl (st_len_str rfl rfl) (s_cm ?_)
  refine aops_nil ?_
  refine aw_cond rfl (fun c1 => ?_) (fun c1 => ?_)
  · replace h := Md.cond_t h c1
    refine aw_seq (aw_region ?_)
    iterate 3 refine s_sa ?_
    refine aops_nil ?_
    cases Option.some.inj h
    exact aw_ret ⟨rfl, rv (rn (.cons o1 (.cons o1 (.cons o1 .nil))))⟩
  replace h := Md.cond_f h c1
  refine aw_skip (aw_seq (aw_seq (aw_region (s_mv ?_))))
  obtain ⟨g2, h⟩ := Md.ifp_s h
  refine aops_step1 rfl (st_index_str rfl rfl rfl g2 rfl) (s_cm ?_)
  refine aops_nil ?_
  refine aw_cond rfl (fun c3 => ?_) (fun c3 => ?_)
  · replace h := Md.cond_t h c3
    refine aw_seq (aw_region ?_)
    iterate 3 refine s_sa ?_
    refine aops_nil ?_
    cases Option.some.inj h
    exact aw_ret ⟨rfl, rv (rn (.cons o1 (.cons o1 (.cons o1 .nil))))⟩
  replace h := Md.cond_f h c3
  refine aw_skip (aw_seq (aw_region (s_sa ?_)))
  refine aops_nil (aw_seq (aw_seq (aw_region (s_sa ?_))))
  refine aops_nil (aw_block (aw_own_nil 5 0 5 1 (lsEl byC []) rfl rfl ?_))
  obtain ⟨o4, ho4, h⟩ := Md.bind_s h
  refine aw_loop_x (ι := {p : Nat × Int × (List UInt8) // actorgridref41_Unquote_loop1 k a0 p.1 p.2.1 p.2.2 = some o4}) (fun p => (⟨65, [], [(0, .one (.val (Sv a0))), (5, .one (.own 0)), (6, vI p.1.2.1)], [(0, some (.row 5 1 p.1.2.2.length (lsEl byC p.1.2.2)))]⟩ : ASt)) (fun p => p.1.1) ⟨(k, 1, ([] : List UInt8)), ho4⟩ wk 0 (ε := Unit) (fun x => (⟨65, [], [], []⟩ : ASt)) (fun x => Sum.inl x = o4) (fun _ _ w h => aw_weak w h) ?_ ?_
  · intro x4_0 hI4
    subst hI4
    replace h := Md.onS_l h
    change AW _ _ (⟨65, [], [], []⟩ : ASt) _
    refine aw_seq (aw_region ?_)
    iterate 3 refine s_sa ?_
    refine aops_nil ?_
    cases Option.some.inj h
    exact aw_ret ⟨rfl, rv (rn (.cons o1 (.cons o1 (.cons o1 .nil))))⟩
  intro p4
  obtain ⟨⟨n4, s4_0, s4_1⟩, l4⟩ := p4
  change AW _ _ (⟨65, [], [(0, .one (.val (Sv a0))), (5, .one (.own 0)), (6, vI s4_0)], [(0, some (.row 5 1 s4_1.length (lsEl byC s4_1)))]⟩ : ASt) _
  replace l4 : actorgridref41_Unquote_loop1 k a0 n4 s4_0 s4_1 = some o4 := l4
  rcases n4 with _ | n4
  · exact absurd (show none = some o4 from l4) nofun
  rw [actorgridref41_Unquote_loop1] at l4
  refine aw_seq (aw_seq (aw_region ?_))
  iterate 2 refine s_mv ?_
  refine aops_step1 rfl (st_len_str rfl rfl) (s_cm ?_)
  refine aops_nil ?_
  refine aw_cond rfl (fun c5 => ?_) (fun c5 => ?_)
  · replace l4 := Md.cond_t l4 c5
    refine aw_skip (aw_block (aw_seq (aw_region ?_)))
    iterate 2 refine s_mv ?_
    obtain ⟨g6, l4⟩ := Md.ifp_s l4
    refine aops_step1 rfl (st_index_str rfl rfl (Md.idx_eq g6) (Md.idx_lt g6) rfl) (s_sa ?_)
    refine aops_nil (aw_block (aw_seq (aw_region (s_mv ?_))))
    refine s_cm ?_
    refine s_sa ?_
    refine aops_nil ?_
    refine aw_cond rfl (fun c7 => ?_) (fun c7 => ?_)
    · replace l4 := Md.cond_t l4 c7
      refine aw_seq (aw_region (s_mv ?_))
      refine aops_step1 rfl (ev_str_bytes (.inr ⟨_, _, rfl, rfl⟩) Tryd.underlying42 Tryd.underlying5 Tryd.underlying9 rfl) (s_mv ?_)
      refine aops_step1 rfl (ev_add rfl rfl rfl (Md.wrap_W _)) ?_
      iterate 3 refine s_sa ?_
      refine aops_nil ?_
      cases Option.some.inj l4
      replace h := Md.onS_r h
      cases Option.some.inj h
      exact aw_ret ⟨rfl, rv (rn (.cons o1 (.cons o1 (.cons o1 .nil))))⟩
    replace l4 := Md.cond_f l4 c7
    refine aw_seq (aw_region (s_mv ?_))
    refine s_cm ?_
    refine s_mv ?_
    refine aops_mid 3 (⟨65, [], [(0, .one (.val (Sv a0))), (5, .one (.own 0)), (6, vI s4_0), (7, .one (.val (.int .u8 (((a0.getD ((s4_0).toNat) 0)).toNat : Int)))), (55, vB ((decide ((((a0.getD ((s4_0).toNat) 0)).toNat : Int) < 32)) || (decide ((((a0.getD ((s4_0).toNat) 0)).toNat : Int) > 126))))], [(0, some (.row 5 1 s4_1.length (lsEl byC s4_1)))]⟩ : ASt) ?_ ?_
    · rcases Md.bool_or ((decide ((((a0.getD ((s4_0).toNat) 0)).toNat : Int) < 32))) with q8 | q8
      · skip
        iterate 2 refine np q8 ?_
        refine s_py q8 ?_
        refine aops_nil ?_
        exact wq q8
      refine y_mv q8 ?_
      refine y_cm q8 ?_
      refine s_pn q8 ?_
      refine aops_nil ?_
      exact wq q8
    refine s_sa ?_
    refine aops_nil ?_
    refine aw_cond rfl (fun c9 => ?_) (fun c9 => ?_)
    · replace l4 := Md.cond_t l4 c9
      refine aw_seq (aw_region ?_)
      iterate 3 refine s_sa ?_
      refine aops_nil ?_
      cases Option.some.inj l4
      replace h := Md.onS_r h
      cases Option.some.inj h
      exact aw_ret ⟨rfl, rv (rn (.cons o1 (.cons o1 (.cons o1 .nil))))⟩
    replace l4 := Md.cond_f l4 c9
    refine aw_seq (aw_region (s_mv ?_))
    refine s_cm ?_
    refine s_sa ?_
    refine aops_nil ?_
    refine aw_cond rfl (fun c10 => ?_) (fun c10 => ?_)
    · replace l4 := Md.cond_t l4 c10
      refine aw_seq (aw_region ?_)
      iterate 2 refine s_mv ?_
      refine aops_step1 rfl (st_slice_lit (el := lsEl byC [(a0.getD ((s4_0).toNat) 0)]) 1 rfl rfl rfl rfl rfl rfl rfl rfl (lit_el byC 1 [(a0.getD ((s4_0).toNat) 0)] (fun _ => rfl)) rfl) ?_
      obtain ⟨g11, l4⟩ := Md.ifp_s l4
      refine aops_step1 rfl (st_app_ls (f := byC) s4_1 [(a0.getD ((s4_0).toNat) 0)] (fun _ => rfl) rfl rfl (.inr ⟨_, _, rfl, rfl⟩) (by omega) (by omega) rfl) (s_sa ?_)
      refine aops_nil (aw_region (s_mv ?_))
      refine aops_step1 rfl (ev_add rfl rfl rfl (Md.wrap_W _)) (s_sa ?_)
      refine aops_nil ?_
      exact ⟨⟨(n4, (Md.W (s4_0 + 1)), (s4_1 ++ [(a0.getD ((s4_0).toNat) 0)])), l4⟩, Nat.lt_succ_self _, wk⟩
    replace l4 := Md.cond_f l4 c10
    refine aw_seq (aw_region ?_)
    iterate 2 refine s_mv ?_
    obtain ⟨g12, l4⟩ := Md.ifp_s l4
    obtain ⟨g13, l4⟩ := Md.ifp_s l4
    refine aops_step1 rfl (st_cut_lo_s rfl ⟨_, _, rfl, (Md.nn_eq g12)⟩ g13 rfl) ?_
    obtain ⟨x14, hx14, l4⟩ := Md.bind_s l4
    refine aops_step1 rfl (ev_call_v (actorgridref41_escape_fn k (a0.drop ((s4_0).toNat)) x14 hx14) rfl [] ai rfl rfl rfl (.inl rfl) rfl) (s_mt ?_)
    iterate 3 refine s_ex ?_
    iterate 3 refine s_sa ?_
    refine aops_nil (aw_seq (aw_seq (aw_region (s_mv ?_))))
    refine s_cm ?_
    refine aops_nil ?_
    refine aw_cond rfl (fun c15 => ?_) (fun c15 => ?_)
    · replace l4 := Md.cond_t l4 c15
      refine aw_seq (aw_region (s_mv ?_))
      iterate 3 refine s_sa ?_
      refine aops_nil ?_
      cases Option.some.inj l4
      replace h := Md.onS_r h
      cases Option.some.inj h
      exact aw_ret ⟨rfl, rv (rn (.cons o1 (.cons o1 (.cons o1 .nil))))⟩
    replace l4 := Md.cond_f l4 c15
    refine aw_skip (aw_seq (aw_region ?_))
    iterate 2 refine s_mv ?_
    refine aops_step1 rfl (st_slice_lit (el := lsEl byC [x14.1]) 1 rfl rfl rfl rfl rfl rfl rfl rfl (lit_el byC 1 [x14.1] (fun _ => rfl)) rfl) ?_
    obtain ⟨g16, l4⟩ := Md.ifp_s l4
    refine aops_step1 rfl (st_app_ls (f := byC) s4_1 [x14.1] (fun _ => rfl) rfl rfl (.inr ⟨_, _, rfl, rfl⟩) (by omega) (by omega) rfl) (s_sa ?_)
    refine aops_nil (aw_region ?_)
    iterate 2 refine s_mv ?_
    refine aops_step1 rfl (ev_add rfl rfl rfl (Md.wrap_W _)) (s_sa ?_)
    refine aops_nil ?_
    exact ⟨⟨(n4, (Md.W (s4_0 + x14.2.1)), (s4_1 ++ [x14.1])), l4⟩, Nat.lt_succ_self _, wk⟩
  replace l4 := Md.cond_f l4 c5
  refine aw_exit ?_
  show ∃ _x : Unit, _ = _ ∧ Weak _ _
  exact ⟨(), Option.some.inj l4, wk⟩
end Md
end Go.Proofs.YtjpiiejdaiaocaaDoor
