/-
  ConsF: where a function's model gives a value, the function returns what reads as it (printed by wip/tools/auto.py). Condition of each: the model gives a value.
-/
import Derived.Test.YtjpiiejdaiaocaaDoorConsFM
import Derived.Test.YtjpiiejdaiaocaaDoorTy
import Derived.Test.YtjpiiejdaiaocaaDoorAbsX
import Derived.Test.YtjpiiejdaiaocaaDoorConsE
namespace Go.Proofs.YtjpiiejdaiaocaaDoor
open Go.ChangeShapes Go.WideShapes Go.RowKit
open Abs
set_option linter.unusedVariables false
set_option linter.unusedSimpArgs false
set_option maxRecDepth 10000
namespace Md
def c_Str (x : List UInt8) : List CV := [.val (Sv x)]
set_option maxHeartbeats 2000000 in
theorem actorgridref41_word_fn (k : Nat) (a0 : List UInt8) (r : (List UInt8)) (h : actorgridref41_word k a0 = some r) : FnC Tryd.prog 49 [.one (.val (Sv a0))] [] (Det (.one (.val (Sv r))) []) := by
  unfold actorgridref41_word at h
  refine fn_intro' 18 Tryd.func49 rfl rfl rfl (aw_seq (aw_region (s_sa ?_)))
  refine aops_nil (aw_seq (aw_seq (aw_region (s_sa ?_))))
  refine aops_nil (aw_block ?_)
  obtain ⟨o1, ho1, h⟩ := Md.bind_s h
  refine aw_loop_x (ι := {p : Nat × Nat // actorgridref41_word_loop1 k a0 p.1 p.2 = some o1}) (fun p => (⟨18, [], [(0, .one (.val (Sv a0))), (3, vI ((p.1.2 : Nat) : Int))], []⟩ : ASt)) (fun p => p.1.1) ⟨(k, 0), ho1⟩ wk 0 (ε := Unit) (fun x => (⟨18, [], [(0, .one (.val (Sv a0)))], []⟩ : ASt)) (fun x => Sum.inl x = o1) (fun _ _ w h => aw_weak w h) ?_ ?_
  · intro x1_0 hI1
    subst hI1
    replace h := Md.onS_l h
    change AW _ _ (⟨18, [], [(0, .one (.val (Sv a0)))], []⟩ : ASt) _
    refine aw_seq (aw_region (s_mv ?_))
    refine s_sa ?_
    refine aops_nil ?_
    cases Option.some.inj h
    exact aw_ret ⟨rfl, rv r1⟩
  intro p1
  obtain ⟨⟨n1, s1_0⟩, l1⟩ := p1
  change AW _ _ (⟨18, [], [(0, .one (.val (Sv a0))), (3, vI ((s1_0 : Nat) : Int))], []⟩ : ASt) _
  replace l1 : actorgridref41_word_loop1 k a0 n1 s1_0 = some o1 := l1
  rcases n1 with _ | n1
  · exact absurd (show none = some o1 from l1) nofun
  rw [actorgridref41_word_loop1] at l1
  refine aw_seq (aw_seq (aw_region ?_))
  iterate 2 refine s_mv ?_
  refine aops_step1 rfl (st_len_str rfl rfl) (s_cm ?_)
  refine aops_nil ?_
  refine aw_cond rfl (fun c2 => ?_) (fun c2 => ?_)
  · replace l1 := Md.cond_t l1 c2
    refine aw_skip (aw_seq (aw_block (aw_seq (aw_region ?_))))
    iterate 2 refine s_mv ?_
    obtain ⟨g3, l1⟩ := Md.ifp_s l1
    refine aops_step1 rfl (st_index_str rfl rfl rfl g3 rfl) (s_cm ?_)
    refine aops_nil ?_
    refine aw_cond rfl (fun c4 => ?_) (fun c4 => ?_)
    · replace l1 := Md.cond_t l1 c4
      refine aw_seq (aw_region ?_)
      iterate 2 refine s_mv ?_
      obtain ⟨g5, l1⟩ := Md.ifp_s l1
      refine aops_step1 rfl (st_cut_hi_s rfl ⟨_, _, rfl, rfl⟩ g5 rfl) (s_sa ?_)
      refine aops_nil ?_
      cases Option.some.inj l1
      replace h := Md.onS_r h
      cases Option.some.inj h
      exact aw_ret ⟨rfl, rv r1⟩
    replace l1 := Md.cond_f l1 c4
    refine aw_skip (aw_region (s_mv ?_))
    obtain ⟨g6, l1⟩ := Md.ifp_s l1
    refine aops_step1 rfl (ev_add rfl rfl rfl (Md.nat_add g6)) (s_sa ?_)
    refine aops_nil ?_
    exact ⟨⟨(n1, (s1_0 + 1)), l1⟩, Nat.lt_succ_self _, wk⟩
  replace l1 := Md.cond_f l1 c2
  refine aw_exit ?_
  show ∃ _x : Unit, _ = _ ∧ Weak _ _
  exact ⟨(), Option.some.inj l1, wk⟩
set_option maxHeartbeats 2000000 in
theorem actorgridref41_decimal_fn (k : Nat) (a0 : List UInt8) (r : Int × Bool) (h : actorgridref41_decimal k a0 = some r) : FnC Tryd.prog 63 [.one (.val (Sv a0))] [] (Det (.tup [vI r.1, vB r.2]) []) := by
  unfold actorgridref41_decimal at h
  refine fn_intro' 49 Tryd.func63 rfl rfl rfl (aw_seq (aw_region ?_))
  iterate 2 refine s_sa ?_
  refine aops_nil (aw_seq (aw_seq (aw_region (s_mv ?_))))
  refine aops_step1 rfl (st_len_str rfl rfl) (s_cm ?_)
  refine s_mv ?_
  refine aops_mid 4 (⟨49, [], [(0, .one (.val (Sv a0))), (13, vB ((decide (((a0.length : Nat) : Int) < 1)) || (decide (((a0.length : Nat) : Int) > 15))))], []⟩ : ASt) ?_ ?_
  · rcases Md.bool_or ((decide (((a0.length : Nat) : Int) < 1))) with q1 | q1
    · skip
      iterate 3 refine np q1 ?_
      refine s_py q1 ?_
      refine aops_nil ?_
      exact wq q1
    refine y_mv q1 ?_
    refine aops_yes rfl rfl rfl rfl q1 (st_len_str rfl rfl) (y_cm q1 ?_)
    refine s_pn q1 ?_
    refine aops_nil ?_
    exact wq q1
  refine s_mv ?_
  obtain ⟨o2, j2, h⟩ := Md.bind_s h
  refine aops_cut 9 (ε := Bool) (fun x2 => (⟨49, [], [(0, .one (.val (Sv a0))), (23, vB x2)], []⟩ : ASt)) (fun x2 => x2 = o2) ?_ ?_
  · intro x2 hI2
    subst hI2
    change AOps _ _ _ (⟨49, [], [(0, .one (.val (Sv a0))), (23, vB x2)], []⟩ : ASt) _
    refine aops_nil ?_
    refine aw_cond rfl (fun c3 => ?_) (fun c3 => ?_)
    · replace h := Md.cond_t h c3
      refine aw_seq (aw_region ?_)
      iterate 2 refine s_sa ?_
      refine aops_nil ?_
      cases Option.some.inj h
      exact aw_ret ⟨rfl, rv (rn (.cons o1 (.cons o1 .nil)))⟩
    replace h := Md.cond_f h c3
    refine aw_skip (aw_seq (aw_region (s_sa ?_)))
    refine aops_nil (aw_seq (aw_seq (aw_region (s_sa ?_))))
    refine aops_nil (aw_block ?_)
    obtain ⟨o4, ho4, h⟩ := Md.bind_s h
    refine aw_loop_x (ι := {p : Nat × Nat × Nat // actorgridref41_decimal_loop1 k a0 p.1 p.2.1 p.2.2 = some o4}) (fun p => (⟨49, [], [(0, .one (.val (Sv a0))), (4, vI ((p.1.2.1 : Nat) : Int)), (5, vI ((p.1.2.2 : Nat) : Int))], []⟩ : ASt)) (fun p => p.1.1) ⟨(k, 0, 0), ho4⟩ wk 0 (ε := Nat) (fun x => (⟨49, [], [(4, vI ((x : Nat) : Int))], []⟩ : ASt)) (fun x => Sum.inl x = o4) (fun _ _ w h => aw_weak w h) ?_ ?_
    · intro x4_0 hI4
      subst hI4
      replace h := Md.onS_l h
      change AW _ _ (⟨49, [], [(4, vI ((x4_0 : Nat) : Int))], []⟩ : ASt) _
      refine aw_seq (aw_region (s_mv ?_))
      iterate 2 refine s_sa ?_
      refine aops_nil ?_
      cases Option.some.inj h
      exact aw_ret ⟨rfl, rv (rn (.cons o1 (.cons o1 .nil)))⟩
    intro p4
    obtain ⟨⟨n4, s4_0, s4_1⟩, l4⟩ := p4
    change AW _ _ (⟨49, [], [(0, .one (.val (Sv a0))), (4, vI ((s4_0 : Nat) : Int)), (5, vI ((s4_1 : Nat) : Int))], []⟩ : ASt) _
    replace l4 : actorgridref41_decimal_loop1 k a0 n4 s4_0 s4_1 = some o4 := l4
    rcases n4 with _ | n4
    · exact absurd (show none = some o4 from l4) nofun
    rw [actorgridref41_decimal_loop1] at l4
    refine aw_seq (aw_seq (aw_region ?_))
    iterate 2 refine s_mv ?_
    refine aops_step1 rfl (st_len_str rfl rfl) (s_cm ?_)
    refine aops_nil ?_
    refine aw_cond rfl (fun c5 => ?_) (fun c5 => ?_)
    · replace l4 := Md.cond_t l4 c5
      refine aw_skip (aw_seq (aw_block (aw_seq (aw_seq (aw_region ?_)))))
      iterate 2 refine s_mv ?_
      obtain ⟨g6, l4⟩ := Md.ifp_s l4
      refine aops_step1 rfl (st_index_str rfl rfl rfl g6 rfl) (s_cm ?_)
      refine s_mv ?_
      obtain ⟨o7, j7, l4⟩ := Md.bind_s l4
      refine aops_cut 5 (ε := Bool) (fun x7 => (⟨49, [], [(0, .one (.val (Sv a0))), (4, vI ((s4_0 : Nat) : Int)), (5, vI ((s4_1 : Nat) : Int)), (39, vB x7)], []⟩ : ASt)) (fun x7 => x7 = o7) ?_ ?_
      · intro x7 hI7
        subst hI7
        change AOps _ _ _ (⟨49, [], [(0, .one (.val (Sv a0))), (4, vI ((s4_0 : Nat) : Int)), (5, vI ((s4_1 : Nat) : Int)), (39, vB x7)], []⟩ : ASt) _
        refine aops_nil ?_
        refine aw_cond rfl (fun c8 => ?_) (fun c8 => ?_)
        · replace l4 := Md.cond_t l4 c8
          refine aw_seq (aw_region ?_)
          iterate 2 refine s_sa ?_
          refine aops_nil ?_
          cases Option.some.inj l4
          replace h := Md.onS_r h
          cases Option.some.inj h
          exact aw_ret ⟨rfl, rv (rn (.cons o1 (.cons o1 .nil)))⟩
        replace l4 := Md.cond_f l4 c8
        refine aw_skip (aw_region (s_mv ?_))
        obtain ⟨g9, l4⟩ := Md.ifp_s l4
        refine aops_step1 rfl (ev_mul rfl rfl rfl (Md.nat_mul g9)) ?_
        iterate 2 refine s_mv ?_
        obtain ⟨g10, l4⟩ := Md.ifp_s l4
        refine aops_step1 rfl (st_index_str rfl rfl rfl g10 rfl) (aops_step1 rfl (ev_sub rfl rfl rfl (Md.sub_u8 (a0.getD s4_1 0) (48 : UInt8))) ?_)
        refine aops_step1 rfl (st_conv_int rfl rfl Tryd.underlying5 Tryd.underlying3 (Md.conv_u8_i64 ((a0.getD s4_1 0) - (48 : UInt8)))) ?_
        obtain ⟨g11, l4⟩ := Md.ifp_s l4
        refine aops_step1 rfl (ev_add rfl rfl rfl (Md.nat_add g11)) (s_sa ?_)
        refine aops_nil (aw_region (s_mv ?_))
        obtain ⟨g12, l4⟩ := Md.ifp_s l4
        refine aops_step1 rfl (ev_add rfl rfl rfl (Md.nat_add g12)) (s_sa ?_)
        refine aops_nil ?_
        exact ⟨⟨(n4, ((10 * s4_0) + (((a0.getD s4_1 0) - (48 : UInt8)).toNat)), (s4_1 + 1)), l4⟩, Nat.lt_succ_self _, wk⟩
      rcases Md.bool_or ((decide ((((a0.getD s4_1 0)).toNat : Int) < 48))) with q7 | q7
      · replace j7 := Md.cond_t j7 q7
        iterate 4 refine np q7 ?_
        refine s_py q7 ?_
        refine aops_nil ?_
        show ∃ _x : Bool, _ = _ ∧ Weak _ _
        exact ⟨true, Option.some.inj j7, wk⟩
      replace j7 := Md.cond_f j7 q7
      iterate 2 refine y_mv q7 ?_
      obtain ⟨g13, j7⟩ := Md.ifp_s j7
      refine aops_yes rfl rfl rfl rfl q7 (st_index_str rfl rfl rfl g13 rfl) (y_cm q7 ?_)
      refine s_pn q7 ?_
      refine aops_nil ?_
      show ∃ _x : Bool, _ = _ ∧ Weak _ _
      exact ⟨(decide ((((a0.getD s4_1 0)).toNat : Int) > 57)), Option.some.inj j7, wk⟩
    replace l4 := Md.cond_f l4 c5
    refine aw_exit ?_
    show ∃ _x : Nat, _ = _ ∧ Weak _ _
    exact ⟨s4_0, Option.some.inj l4, wk⟩
  rcases Md.bool_or (((decide (((a0.length : Nat) : Int) < 1)) || (decide (((a0.length : Nat) : Int) > 15)))) with q2 | q2
  · replace j2 := Md.cond_t j2 q2
    iterate 4 refine np q2 ?_
    iterate 3 refine aops_und rfl rfl rfl rfl rfl ?_
    refine np q2 ?_
    refine s_py q2 ?_
    refine aops_nil ?_
    show ∃ _x : Bool, _ = _ ∧ Weak _ _
    exact ⟨true, Option.some.inj j2, wk⟩
  replace j2 := Md.cond_f j2 q2
  refine y_mv q2 ?_
  obtain ⟨g14, j2⟩ := Md.ifp_s j2
  refine aops_yes rfl rfl rfl rfl q2 (st_index_str rfl rfl rfl g14 rfl) (y_cm q2 ?_)
  refine y_mv q2 ?_
  refine aops_mid 4 (⟨49, [], [(0, .one (.val (Sv a0))), (14, vB ((decide (((a0.length : Nat) : Int) < 1)) || (decide (((a0.length : Nat) : Int) > 15)))), (22, vB (((((a0.getD 0 0)).toNat : Int) == 48) && (decide (((a0.length : Nat) : Int) > 1))))], []⟩ : ASt) ?_ ?_
  · rcases Md.bool_or (((((a0.getD 0 0)).toNat : Int) == 48)) with q15 | q15
    · skip
      refine y_mv q15 ?_
      refine aops_yes rfl rfl rfl rfl q15 (st_len_str rfl rfl) (y_cm q15 ?_)
      refine aops_yes rfl rfl rfl rfl q2 (st_pick_yes rfl (by first | rfl | exact q15) rfl rfl) (aops_nil ?_)
      exact wq q15
    iterate 3 refine np q15 ?_
    refine aops_yes rfl rfl rfl rfl q2 (st_pick_no rfl (by first | rfl | exact q15) rfl rfl) (aops_nil ?_)
    exact wq q15
  refine s_pn q2 ?_
  refine aops_nil ?_
  show ∃ _x : Bool, _ = _ ∧ Weak _ _
  exact ⟨(((((a0.getD 0 0)).toNat : Int) == 48) && (decide (((a0.length : Nat) : Int) > 1))), Option.some.inj j2, wk⟩
set_option maxHeartbeats 2000000 in
theorem actorgridref41_part_fn (k : Nat) (a0 : ConsoleCommand) (a1 : Actorgridref41form) (a2 : UInt8) (a3 : List UInt8) (r : Int × Int × ConsoleCommand) (h : actorgridref41_part k a0 a1 a2 a3 = some r) : FnC Tryd.prog 50 [.one (.ptr 0 0), .agg (c_Actorgridref41form a1), .one (.val (.int .u8 (a2.toNat : Int))), .one (.val (Sv a3))] (boxesH 0 [(c_ConsoleCommand a0)]) (Det (.tup [vI r.1, vI r.2.1]) (boxesH 0 [(c_ConsoleCommand r.2.2)])) := by
  unfold actorgridref41_part at h
  refine fn_intro' 88 Tryd.func50 rfl rfl rfl (aw_seq (aw_region (aops_step1 rfl (st_box 1 rfl rfl rfl rfl) ?_)))
  iterate 2 refine s_sa ?_
  refine aops_nil (aw_seq (aw_seq (aw_region (s_mv ?_))))
  refine s_cm ?_
  refine aops_nil ?_
  refine aw_cond rfl (fun c1 => ?_) (fun c1 => ?_)
  · replace h := Md.cond_t h c1
    refine aw_seq (aw_region (s_mv ?_))
    obtain ⟨x2, hx2, h⟩ := Md.bind_s h
    refine aops_step1 rfl (ev_call_v (actorgridref41_Unquote_fn k a3 x2 hx2) rfl [] ai rfl rfl rfl (.inl rfl) rfl) (s_mt ?_)
    iterate 3 refine s_ex ?_
    iterate 3 refine s_sa ?_
    refine aops_nil (aw_seq (aw_seq (aw_region (s_mv ?_))))
    refine s_cm ?_
    refine aops_nil ?_
    refine aw_cond rfl (fun c3 => ?_) (fun c3 => ?_)
    · replace h := Md.cond_t h c3
      refine aw_seq (aw_region (s_mv ?_))
      iterate 2 refine s_sa ?_
      refine aops_nil ?_
      cases Option.some.inj h
      refine aw_ret ⟨rfl, ret_b (bs := [(c_ConsoleCommand a0)]) (rn (.cons o1 (.cons o1 .nil))) rfl rfl rfl rfl rfl (by intro i cs h; rcases i with _ | i <;> simp at h <;> (subst h; rfl)) ?_⟩
      (repeat' (first | exact .refl _ | exact .nil | refine .tup ?_ | refine .v ?_ | refine .cons ?_ ?_ | refine .agg ?_ | refine .one ?_ | exact .nil _ | exact .emp _ | refine .val ?_ | refine .slc ?_ ?_ | fail))
    replace h := Md.cond_f h c3
    refine aw_skip (aw_seq (aw_seq (aw_region (s_mv ?_))))
    refine aops_step1 rfl (st_len_str rfl rfl) (s_cm ?_)
    refine aops_nil ?_
    refine aw_cond rfl (fun c4 => ?_) (fun c4 => ?_)
    · replace h := Md.cond_t h c4
      refine aw_seq (aw_region ?_)
      iterate 2 refine s_sa ?_
      refine aops_nil ?_
      cases Option.some.inj h
      refine aw_ret ⟨rfl, ret_b (bs := [(c_ConsoleCommand a0)]) (rn (.cons o1 (.cons o1 .nil))) rfl rfl rfl rfl rfl (by intro i cs h; rcases i with _ | i <;> simp at h <;> (subst h; rfl)) ?_⟩
      (repeat' (first | exact .refl _ | exact .nil | refine .tup ?_ | refine .v ?_ | refine .cons ?_ ?_ | refine .agg ?_ | refine .one ?_ | exact .nil _ | exact .emp _ | refine .val ?_ | refine .slc ?_ ?_ | fail))
    replace h := Md.cond_f h c4
    refine aw_skip (aw_seq (aw_region ?_))
    iterate 2 refine s_mv ?_
    refine aops_step1 rfl (ev_nilc rfl rfl) ?_
    iterate 2 refine s_fd ?_
    refine s_st [_, _, _, _, _, _] ?_
    refine aops_nil (aw_seq (aw_region (s_mv ?_)))
    iterate 2 refine s_sa ?_
    refine aops_nil ?_
    cases Option.some.inj h
    refine aw_ret ⟨rfl, ret_b (bs := [(c_ConsoleCommand (⟨a0.Kind, a0.Topic, (⟨a0.Actor.fType, x2.1⟩ : Ref), a0.Method, a0.Number⟩ : ConsoleCommand))]) (rn (.cons o1 (.cons o1 .nil))) rfl rfl rfl rfl rfl (by intro i cs h; rcases i with _ | i <;> simp at h <;> (subst h; rfl)) ?_⟩
    (repeat' (first | exact .refl _ | exact .nil | refine .tup ?_ | refine .v ?_ | refine .cons ?_ ?_ | refine .agg ?_ | refine .one ?_ | exact .nil _ | exact .emp _ | refine .val ?_ | refine .slc ?_ ?_ | fail))
  replace h := Md.cond_f h c1
  refine aw_skip (aw_seq (aw_region (s_mv ?_)))
  obtain ⟨x5, hx5, h⟩ := Md.bind_s h
  refine aops_step1 rfl (ev_call_v (actorgridref41_word_fn k a3 x5 hx5) rfl [] ai rfl rfl rfl (.inl rfl) rfl) (s_sa ?_)
  refine aops_nil (aw_seq (aw_seq (aw_region (s_mv ?_))))
  refine s_cm ?_
  refine aops_nil ?_
  refine aw_cond rfl (fun c6 => ?_) (fun c6 => ?_)
  · replace h := Md.cond_t h c6
    refine aw_seq (aw_region (s_mv ?_))
    obtain ⟨x7, hx7, h⟩ := Md.bind_s h
    refine aops_step1 rfl (ev_call_v (actorgridref41_decimal_fn k x5 x7 hx7) rfl [] ai rfl rfl rfl (.inl rfl) rfl) (s_mt ?_)
    iterate 2 refine s_ex ?_
    iterate 2 refine s_sa ?_
    refine aops_nil (aw_seq (aw_seq (aw_region (s_mv ?_))))
    refine s_nt ?_
    refine aops_nil ?_
    refine aw_cond rfl (fun c8 => ?_) (fun c8 => ?_)
    · replace h := Md.cond_t h c8
      refine aw_seq (aw_region ?_)
      iterate 2 refine s_sa ?_
      refine aops_nil ?_
      cases Option.some.inj h
      refine aw_ret ⟨rfl, ret_b (bs := [(c_ConsoleCommand a0)]) (rn (.cons o1 (.cons o1 .nil))) rfl rfl rfl rfl rfl (by intro i cs h; rcases i with _ | i <;> simp at h <;> (subst h; rfl)) ?_⟩
      (repeat' (first | exact .refl _ | exact .nil | refine .tup ?_ | refine .v ?_ | refine .cons ?_ ?_ | refine .agg ?_ | refine .one ?_ | exact .nil _ | exact .emp _ | refine .val ?_ | refine .slc ?_ ?_ | fail))
    replace h := Md.cond_f h c8
    refine aw_skip (aw_seq (aw_seq (aw_region (s_mv ?_))))
    refine s_fd ?_
    refine s_ld ?_
    refine s_cm ?_
    refine s_mv ?_
    refine aops_mid 5 (⟨88, [0], [(0, .one (.ptr 0 0)), (13, .one (.val (Sv x5))), (14, vI x7.1), (56, vB ((decide (x7.1 < a1.low)) || (decide (x7.1 > a1.high))))], [(0, some (.box (c_ConsoleCommand a0)))]⟩ : ASt) ?_ ?_
    · rcases Md.bool_or ((decide (x7.1 < a1.low))) with q9 | q9
      · skip
        iterate 4 refine np q9 ?_
        refine s_py q9 ?_
        refine aops_nil ?_
        exact wq q9
      refine y_mv q9 ?_
      refine y_fd q9 ?_
      refine y_ld q9 ?_
      refine y_cm q9 ?_
      refine s_pn q9 ?_
      refine aops_nil ?_
      exact wq q9
    refine aops_nil ?_
    refine aw_cond rfl (fun c10 => ?_) (fun c10 => ?_)
    · replace h := Md.cond_t h c10
      refine aw_seq (aw_region ?_)
      iterate 2 refine s_sa ?_
      refine aops_nil ?_
      cases Option.some.inj h
      refine aw_ret ⟨rfl, ret_b (bs := [(c_ConsoleCommand a0)]) (rn (.cons o1 (.cons o1 .nil))) rfl rfl rfl rfl rfl (by intro i cs h; rcases i with _ | i <;> simp at h <;> (subst h; rfl)) ?_⟩
      (repeat' (first | exact .refl _ | exact .nil | refine .tup ?_ | refine .v ?_ | refine .cons ?_ ?_ | refine .agg ?_ | refine .one ?_ | exact .nil _ | exact .emp _ | refine .val ?_ | refine .slc ?_ ?_ | fail))
    replace h := Md.cond_f h c10
    refine aw_skip (aw_seq (aw_region ?_))
    iterate 2 refine s_mv ?_
    refine aops_step1 rfl (ev_nilc rfl rfl) (s_fd ?_)
    refine s_st [_, _, _, _, _, _] ?_
    refine aops_nil (aw_seq (aw_region (s_mv ?_)))
    refine aops_step1 rfl (st_len_str rfl rfl) ?_
    iterate 2 refine s_sa ?_
    refine aops_nil ?_
    cases Option.some.inj h
    refine aw_ret ⟨rfl, ret_b (bs := [(c_ConsoleCommand (⟨a0.Kind, a0.Topic, a0.Actor, a0.Method, x7.1⟩ : ConsoleCommand))]) (rn (.cons o1 (.cons o1 .nil))) rfl rfl rfl rfl rfl (by intro i cs h; rcases i with _ | i <;> simp at h <;> (subst h; rfl)) ?_⟩
    (repeat' (first | exact .refl _ | exact .nil | refine .tup ?_ | refine .v ?_ | refine .cons ?_ ?_ | refine .agg ?_ | refine .one ?_ | exact .nil _ | exact .emp _ | refine .val ?_ | refine .slc ?_ ?_ | fail))
  replace h := Md.cond_f h c6
  refine aw_skip (aw_seq (aw_seq (aw_region (s_mv ?_))))
  obtain ⟨x11, hx11, h⟩ := Md.bind_s h
  refine aops_step1 rfl (ev_call_v (actorgridref41_Name_fn k x5 x11 hx11) rfl [] ai rfl rfl rfl (.inl rfl) rfl) (s_nt ?_)
  refine aops_nil ?_
  refine aw_cond rfl (fun c12 => ?_) (fun c12 => ?_)
  · replace h := Md.cond_t h c12
    refine aw_seq (aw_region ?_)
    iterate 2 refine s_sa ?_
    refine aops_nil ?_
    cases Option.some.inj h
    refine aw_ret ⟨rfl, ret_b (bs := [(c_ConsoleCommand a0)]) (rn (.cons o1 (.cons o1 .nil))) rfl rfl rfl rfl rfl (by intro i cs h; rcases i with _ | i <;> simp at h <;> (subst h; rfl)) ?_⟩
    (repeat' (first | exact .refl _ | exact .nil | refine .tup ?_ | refine .v ?_ | refine .cons ?_ ?_ | refine .agg ?_ | refine .one ?_ | exact .nil _ | exact .emp _ | refine .val ?_ | refine .slc ?_ ?_ | fail))
  replace h := Md.cond_f h c12
  refine aw_skip (aw_seq (aw_seq (aw_region (s_mv ?_))))
  refine aops_nil (aw_block (aw_seq (aw_region (s_cm ?_))))
  refine s_sa ?_
  refine aops_nil ?_
  refine aw_cond rfl (fun c13 => ?_) (fun c13 => ?_)
  · replace h := Md.cond_t h c13
    refine aw_region ?_
    iterate 2 refine s_mv ?_
    refine aops_step1 rfl (ev_nilc rfl rfl) (s_fd ?_)
    refine s_st [_, _, _, _, _, _] ?_
    refine aops_nil (aw_seq (aw_region (s_mv ?_)))
    refine aops_step1 rfl (st_len_str rfl rfl) ?_
    iterate 2 refine s_sa ?_
    refine aops_nil ?_
    cases Option.some.inj h
    refine aw_ret ⟨rfl, ret_b (bs := [(c_ConsoleCommand (⟨a0.Kind, x5, a0.Actor, a0.Method, a0.Number⟩ : ConsoleCommand))]) (rn (.cons o1 (.cons o1 .nil))) rfl rfl rfl rfl rfl (by intro i cs h; rcases i with _ | i <;> simp at h <;> (subst h; rfl)) ?_⟩
    (repeat' (first | exact .refl _ | exact .nil | refine .tup ?_ | refine .v ?_ | refine .cons ?_ ?_ | refine .agg ?_ | refine .one ?_ | exact .nil _ | exact .emp _ | refine .val ?_ | refine .slc ?_ ?_ | fail))
  replace h := Md.cond_f h c13
  refine aw_seq (aw_region (s_cm ?_))
  refine s_sa ?_
  refine aops_nil ?_
  refine aw_cond rfl (fun c14 => ?_) (fun c14 => ?_)
  · replace h := Md.cond_t h c14
    refine aw_region ?_
    iterate 2 refine s_mv ?_
    refine aops_step1 rfl (ev_nilc rfl rfl) ?_
    iterate 2 refine s_fd ?_
    refine s_st [_, _, _, _, _, _] ?_
    refine aops_nil (aw_seq (aw_region (s_mv ?_)))
    refine aops_step1 rfl (st_len_str rfl rfl) ?_
    iterate 2 refine s_sa ?_
    refine aops_nil ?_
    cases Option.some.inj h
    refine aw_ret ⟨rfl, ret_b (bs := [(c_ConsoleCommand (⟨a0.Kind, a0.Topic, (⟨x5, a0.Actor.Key⟩ : Ref), a0.Method, a0.Number⟩ : ConsoleCommand))]) (rn (.cons o1 (.cons o1 .nil))) rfl rfl rfl rfl rfl (by intro i cs h; rcases i with _ | i <;> simp at h <;> (subst h; rfl)) ?_⟩
    (repeat' (first | exact .refl _ | exact .nil | refine .tup ?_ | refine .v ?_ | refine .cons ?_ ?_ | refine .agg ?_ | refine .one ?_ | exact .nil _ | exact .emp _ | refine .val ?_ | refine .slc ?_ ?_ | fail))
  replace h := Md.cond_f h c14
  refine aw_seq (aw_region (s_cm ?_))
  refine s_sa ?_
  refine aops_nil ?_
  refine aw_cond rfl (fun c15 => ?_) (fun c15 => ?_)
  · replace h := Md.cond_t h c15
    refine aw_region ?_
    iterate 2 refine s_mv ?_
    refine aops_step1 rfl (ev_nilc rfl rfl) (s_fd ?_)
    refine s_st [_, _, _, _, _, _] ?_
    refine aops_nil (aw_seq (aw_region (s_mv ?_)))
    refine aops_step1 rfl (st_len_str rfl rfl) ?_
    iterate 2 refine s_sa ?_
    refine aops_nil ?_
    cases Option.some.inj h
    refine aw_ret ⟨rfl, ret_b (bs := [(c_ConsoleCommand (⟨a0.Kind, a0.Topic, a0.Actor, x5, a0.Number⟩ : ConsoleCommand))]) (rn (.cons o1 (.cons o1 .nil))) rfl rfl rfl rfl rfl (by intro i cs h; rcases i with _ | i <;> simp at h <;> (subst h; rfl)) ?_⟩
    (repeat' (first | exact .refl _ | exact .nil | refine .tup ?_ | refine .v ?_ | refine .cons ?_ ?_ | refine .agg ?_ | refine .one ?_ | exact .nil _ | exact .emp _ | refine .val ?_ | refine .slc ?_ ?_ | fail))
  replace h := Md.cond_f h c15
  refine aw_skip (aw_seq (aw_region (s_mv ?_)))
  refine aops_step1 rfl (st_len_str rfl rfl) ?_
  iterate 2 refine s_sa ?_
  refine aops_nil ?_
  cases Option.some.inj h
  refine aw_ret ⟨rfl, ret_b (bs := [(c_ConsoleCommand a0)]) (rn (.cons o1 (.cons o1 .nil))) rfl rfl rfl rfl rfl (by intro i cs h; rcases i with _ | i <;> simp at h <;> (subst h; rfl)) ?_⟩
  (repeat' (first | exact .refl _ | exact .nil | refine .tup ?_ | refine .v ?_ | refine .cons ?_ ?_ | refine .agg ?_ | refine .one ?_ | exact .nil _ | exact .emp _ | refine .val ?_ | refine .slc ?_ ?_ | fail))
set_option maxHeartbeats 2000000 in
theorem actorgridref41_Parse_fn (k : Nat) (a0 : List UInt8) (r : ConsoleCommand × Int × Int) (h : actorgridref41_Parse k a0 = some r) : FnC Tryd.prog 27 [.one (.val (Sv a0))] [] (Det (.tup [.agg (c_ConsoleCommand r.1), vI r.2.1, vI r.2.2]) []) := by
  unfold actorgridref41_Parse at h
  refine fn_intro' 91 Tryd.func27 rfl rfl rfl (aw_seq (aw_region ?_))
  refine aops_step1 rfl (st_alloc (cs := [cI 0, .val (Sv []), .val (Sv []), .val (Sv []), .val (Sv []), cI 0]) 0 rfl rfl rfl rfl rfl) ?_
  iterate 2 refine s_sa ?_
  refine aops_nil (aw_seq (aw_region (s_mv ?_)))
  obtain ⟨x1, hx1, h⟩ := Md.bind_s h
  refine aops_step1 rfl (ev_call_v (actorgridref41_word_fn k a0 x1 hx1) rfl [] ai rfl rfl rfl (.inl rfl) rfl) (s_sa ?_)
  refine aops_nil (aw_seq (aw_region (aops_step1 rfl (ev_build' (out := [_, _, _, _, _, _]) rfl rfl rfl rfl rfl) ?_)))
  refine aops_step1 rfl (st_alloc (cs := [cI 0, .val (Sv []), .val (Sv []), .val (Sv []), .val (Sv []), cI 0]) 1 rfl rfl rfl rfl rfl) (s_st [_, _, _, _, _, _] ?_)
  refine aops_nil (aw_seq (aw_region ?_))
  obtain ⟨x2, hx2, h⟩ := Md.bind_s h
  refine aops_step1 rfl (st_call_r (r' := .one (.own 2)) 2 rfl (actorgridref41_forms_fn k x2 hx2) rfl [] ai rfl rfl rfl (.inl rfl) rfl rfl) (s_sa ?_)
  refine aops_nil (aw_seq (aw_seq (aw_region (s_sa ?_))))
  refine aops_nil (aw_block (aw_freeze 2 rfl ?_))
  obtain ⟨o3, ho3, h⟩ := Md.bind_s h
  refine aw_loop_x (ι := {p : Nat × Nat × ConsoleCommand // actorgridref41_Parse_loop1 k x1 x2 p.1 p.2.1 p.2.2 = some o3}) (fun p => (⟨91, [], [(0, .one (.val (Sv a0))), (2, .one (.ptr 0 0)), (5, .one (.val (Sv x1))), (6, .one (.ptr 1 0)), (7, .one (CV.ls c_Actorgridref41form x2)), (8, vI ((p.1.2.1 : Nat) : Int))], [(0, some (.box [cI 0, .val (Sv []), .val (Sv []), .val (Sv []), .val (Sv []), cI 0])), (1, some (.box (c_ConsoleCommand p.1.2.2)))]⟩ : ASt)) (fun p => p.1.1) ⟨(k, 1, (⟨0, ([] : List UInt8), (⟨([] : List UInt8), ([] : List UInt8)⟩ : Ref), ([] : List UInt8), 0⟩ : ConsoleCommand)), ho3⟩ wk 0 (ε := ConsoleCommand) (fun x => (⟨91, [], [(0, .one (.val (Sv a0))), (2, .one (.ptr 0 0)), (5, .one (.val (Sv x1))), (6, .one (.ptr 1 0)), (7, .one (CV.ls c_Actorgridref41form x2))], [(0, some (.box [cI 0, .val (Sv []), .val (Sv []), .val (Sv []), .val (Sv []), cI 0])), (1, some (.box ([cI x.Kind, .val (Sv x.Topic)] ++ c_Ref x.Actor ++ [.val (Sv x.Method), cI x.Number])))]⟩ : ASt)) (fun x => x = o3) (fun _ _ w h => aw_weak w h) ?_ ?_
  · intro x3_0 hI3
    subst hI3
    change AW _ _ (⟨91, [], [(0, .one (.val (Sv a0))), (2, .one (.ptr 0 0)), (5, .one (.val (Sv x1))), (6, .one (.ptr 1 0)), (7, .one (CV.ls c_Actorgridref41form x2))], [(0, some (.box [cI 0, .val (Sv []), .val (Sv []), .val (Sv []), .val (Sv []), cI 0])), (1, some (.box (c_ConsoleCommand x3_0)))]⟩ : ASt) _
    refine aw_seq (aw_seq (aw_region (s_fd ?_)))
    refine s_ld ?_
    refine s_cm ?_
    refine aops_nil ?_
    refine aw_cond rfl (fun c4 => ?_) (fun c4 => ?_)
    · replace h := Md.cond_t h c4
      refine aw_seq (aw_region (aops_step1 rfl (ev_build' (out := [_, _, _, _, _, _]) rfl rfl rfl rfl rfl) (s_st [_, _, _, _, _, _] ?_)))
      iterate 2 refine s_sa ?_
      refine aops_nil ?_
      cases Option.some.inj h
      exact aw_ret ⟨rfl, rv (rn (.cons (va [_, _, _, _, _, _]) (.cons o1 (.cons o1 .nil))))⟩
    replace h := Md.cond_f h c4
    refine aw_skip (aw_seq (aw_region (s_mv ?_)))
    refine s_fd ?_
    refine s_ld ?_
    obtain ⟨g5, h⟩ := Md.ifp_s h
    refine aops_step1 rfl (ev_index_in rfl rfl (Md.idx_eq g5) (Md.idx_lt g5) rfl rfl) (aops_step1 rfl (ev_loads_in (ds := [_, _, _, _]) rfl rfl rfl rfl) ?_)
    refine aops_step1 rfl (st_alloc (cs := [.val (Sv []), .val (Sv []), cI 0, cI 0]) 3 rfl rfl rfl rfl rfl) (s_st [_, _, _, _] ?_)
    refine aops_nil (aw_seq (aw_region (s_mv ?_)))
    refine aops_step1 rfl (st_len_str rfl rfl) (s_sa ?_)
    refine aops_nil (aw_seq (aw_seq (aw_region (s_sa ?_))))
    refine aops_nil (aw_block ?_)
    obtain ⟨o6, ho6, h⟩ := Md.bind_s h
    refine aw_loop_x (ι := {p : Nat × Int × Nat × ConsoleCommand // actorgridref41_Parse_loop2 k a0 x2 x3_0 p.1 p.2.1 p.2.2.1 p.2.2.2 = some o6}) (fun p => (⟨91, [], [(0, .one (.val (Sv a0))), (2, .one (.ptr 0 0)), (6, .one (.ptr 1 0)), (9, .one (.ptr 3 0)), (10, vI p.1.2.1), (11, vI ((p.1.2.2.1 : Nat) : Int))], [(0, some (.box [cI 0, .val (Sv []), .val (Sv []), .val (Sv []), .val (Sv []), cI 0])), (1, some (.box (c_ConsoleCommand p.1.2.2.2))), (3, some (.box (c_Actorgridref41form (x2.getD ((x3_0.Kind).toNat) default))))]⟩ : ASt)) (fun p => p.1.1) ⟨(k, ((x1.length : Nat) : Int), 0, x3_0), ho6⟩ wk 2 (ε := (Int × ConsoleCommand)) (fun x => (⟨91, [], [(0, .one (.val (Sv a0))), (2, .one (.ptr 0 0)), (6, .one (.ptr 1 0)), (10, vI x.1)], [(0, some (.box [cI 0, .val (Sv []), .val (Sv []), .val (Sv []), .val (Sv []), cI 0])), (1, some (.box (c_ConsoleCommand x.2)))]⟩ : ASt)) (fun x => Sum.inl x = o6) (fun _ _ w h => aw_weak w h) ?_ ?_
    · intro x6_0 hI6
      subst hI6
      replace h := Md.onS_l h
      change AW _ _ (⟨91, [], [(0, .one (.val (Sv a0))), (2, .one (.ptr 0 0)), (6, .one (.ptr 1 0)), (10, vI x6_0.1)], [(0, some (.box [cI 0, .val (Sv []), .val (Sv []), .val (Sv []), .val (Sv []), cI 0])), (1, some (.box (c_ConsoleCommand x6_0.2)))]⟩ : ASt) _
      refine aw_seq (aw_seq (aw_region ?_))
      iterate 2 refine s_mv ?_
      refine aops_step1 rfl (st_len_str rfl rfl) (s_cm ?_)
      refine aops_nil ?_
      refine aw_cond rfl (fun c7 => ?_) (fun c7 => ?_)
      · replace h := Md.cond_t h c7
        refine aw_seq (aw_region (aops_step1 rfl (ev_build' (out := [_, _, _, _, _, _]) rfl rfl rfl rfl rfl) (s_mv ?_)))
        refine s_st [_, _, _, _, _, _] ?_
        iterate 2 refine s_sa ?_
        refine aops_nil ?_
        cases Option.some.inj h
        exact aw_ret ⟨rfl, rv (rn (.cons (va [_, _, _, _, _, _]) (.cons o1 (.cons o1 .nil))))⟩
      replace h := Md.cond_f h c7
      refine aw_skip (aw_seq (aw_region (s_ls [_, _, _, _, _, _] ?_)))
      refine s_mv ?_
      refine s_st [_, _, _, _, _, _] ?_
      iterate 2 refine s_sa ?_
      refine aops_nil ?_
      cases Option.some.inj h
      exact aw_ret ⟨rfl, rv (rn (.cons (va [_, _, _, _, _, _]) (.cons o1 (.cons o1 .nil))))⟩
    intro p6
    obtain ⟨⟨n6, s6_0, s6_1, s6_2⟩, l6⟩ := p6
    change AW _ _ (⟨91, [], [(0, .one (.val (Sv a0))), (2, .one (.ptr 0 0)), (6, .one (.ptr 1 0)), (9, .one (.ptr 3 0)), (10, vI s6_0), (11, vI ((s6_1 : Nat) : Int))], [(0, some (.box [cI 0, .val (Sv []), .val (Sv []), .val (Sv []), .val (Sv []), cI 0])), (1, some (.box (c_ConsoleCommand s6_2))), (3, some (.box (c_Actorgridref41form (x2.getD ((x3_0.Kind).toNat) default))))]⟩ : ASt) _
    replace l6 : actorgridref41_Parse_loop2 k a0 x2 x3_0 n6 s6_0 s6_1 s6_2 = some o6 := l6
    rcases n6 with _ | n6
    · exact absurd (show none = some o6 from l6) nofun
    rw [actorgridref41_Parse_loop2] at l6
    refine aw_seq (aw_seq (aw_region (s_mv ?_)))
    refine s_fd ?_
    refine s_ld ?_
    refine aops_step1 rfl (st_len_str rfl rfl) (s_cm ?_)
    refine aops_nil ?_
    refine aw_cond rfl (fun c8 => ?_) (fun c8 => ?_)
    · replace l6 := Md.cond_t l6 c8
      refine aw_skip (aw_seq (aw_block (aw_seq (aw_seq (aw_region ?_)))))
      iterate 2 refine s_mv ?_
      refine aops_step1 rfl (st_len_str rfl rfl) (s_cm ?_)
      refine aops_nil ?_
      refine aw_cond rfl (fun c9 => ?_) (fun c9 => ?_)
      · replace l6 := Md.cond_t l6 c9
        refine aw_seq (aw_region (aops_step1 rfl (ev_build' (out := [_, _, _, _, _, _]) rfl rfl rfl rfl rfl) (s_mv ?_)))
        refine s_st [_, _, _, _, _, _] ?_
        iterate 2 refine s_sa ?_
        refine aops_nil ?_
        cases Option.some.inj l6
        replace h := Md.onS_r h
        cases Option.some.inj h
        exact aw_ret ⟨rfl, rv (rn (.cons (va [_, _, _, _, _, _]) (.cons o1 (.cons o1 .nil))))⟩
      replace l6 := Md.cond_f l6 c9
      refine aw_skip (aw_seq (aw_seq (aw_region ?_)))
      iterate 2 refine s_mv ?_
      obtain ⟨g10, l6⟩ := Md.ifp_s l6
      refine aops_step1 rfl (st_index_str rfl rfl (Md.idx_eq g10) (Md.idx_lt g10) rfl) (s_cm ?_)
      refine aops_nil ?_
      refine aw_cond rfl (fun c11 => ?_) (fun c11 => ?_)
      · replace l6 := Md.cond_t l6 c11
        refine aw_seq (aw_region (aops_step1 rfl (ev_build' (out := [_, _, _, _, _, _]) rfl rfl rfl rfl rfl) (s_mv ?_)))
        refine s_st [_, _, _, _, _, _] ?_
        iterate 2 refine s_sa ?_
        refine aops_nil ?_
        cases Option.some.inj l6
        replace h := Md.onS_r h
        cases Option.some.inj h
        exact aw_ret ⟨rfl, rv (rn (.cons (va [_, _, _, _, _, _]) (.cons o1 (.cons o1 .nil))))⟩
      replace l6 := Md.cond_f l6 c11
      refine aw_skip (aw_seq (aw_region (s_mv ?_)))
      refine aops_step1 rfl (ev_add rfl rfl rfl (Md.wrap_W _)) (s_sa ?_)
      refine aops_nil ?_
      obtain ⟨g12, l6⟩ := Md.ifp_s l6
      obtain ⟨g13, l6⟩ := Md.ifp_s l6
      obtain ⟨g14, l6⟩ := Md.ifp_s l6
      obtain ⟨x15, hx15, l6⟩ := Md.bind_s l6
      refine aw_seq ?_
      apply aw_draw_set 13 8 (0 :: 4 :: 7 :: 2 :: 3 :: 5 :: 6 :: 1 :: []) ((⟨[], .agg (c_Actorgridref41form (x2.getD ((x3_0.Kind).toNat) default))⟩ : Add) :: ⟨[], .one (.ptr 3 _)⟩ :: ⟨[], .one (.val (Sv ((x2.getD ((x3_0.Kind).toNat) default).parts)))⟩ :: ⟨[], vI ((s6_1 : Nat) : Int)⟩ :: ⟨[], .one (.val (.int .u8 (((((x2.getD ((x3_0.Kind).toNat) default).parts).getD s6_1 0)).toNat : Int)))⟩ :: ⟨[], .one (.val (Sv a0))⟩ :: ⟨[], vI (Md.W (s6_0 + 1))⟩ :: ⟨[], .one (.val (Sv (a0.drop (((Md.W (s6_0 + 1))).toNat))))⟩ :: ⟨[(1, some (.box (c_ConsoleCommand x15.2.2)))], .tup [vI x15.1, vI x15.2.1]⟩ :: ⟨[], .tup [vI x15.1, vI x15.2.1]⟩ :: ⟨[], vI x15.1⟩ :: ⟨[], vI x15.2.1⟩ :: ⟨[], vI x15.1⟩ :: []) (by decide) rfl (by decide +kernel) ?hk6x ?hf6x ?ho6x ?hr6x
      case ho6x =>
       refine ⟨⟨[], (by decide +kernel), .inr (.inl rfl), fun S hle hfr0 => ?_⟩, ?_⟩
       · exact .inl ⟨w0, ev_loads (ds := [_, _, _, _]) (hle.e rfl) (hle.heap _ _ rfl) rfl rfl (hle.d rfl)⟩
       refine ⟨⟨[], (by decide +kernel), .inr (.inl rfl), fun S hle hfr0 => ?_⟩, ?_⟩
       · exact .inl ⟨w0, ev_field (hle.e rfl) rfl (hle.d rfl)⟩
       refine ⟨⟨1 :: [], (by decide +kernel), .inr (.inl rfl), fun S hle hfr0 => ?_⟩, ?_⟩
       · exact .inl ⟨w0, ev_load (hle.e rfl) (hle.heap _ _ rfl) rfl (hle.d rfl)⟩
       refine ⟨⟨[], (by decide +kernel), .inr (.inl rfl), fun S hle hfr0 => ?_⟩, ?_⟩
       · exact .inl ⟨w0, st_move (hle.e rfl) (hle.d rfl)⟩
       refine ⟨⟨2 :: 3 :: 1 :: [], (by decide +kernel), .inr (.inl rfl), fun S hle hfr0 => ?_⟩, ?_⟩
       · exact .inl ⟨w0, st_index_str (hle.e rfl) (hle.e rfl) rfl g12 (hle.d rfl)⟩
       refine ⟨⟨[], (by decide +kernel), .inr (.inl rfl), fun S hle hfr0 => ?_⟩, ?_⟩
       · exact .inl ⟨w0, st_move (hle.e rfl) (hle.d rfl)⟩
       refine ⟨⟨[], (by decide +kernel), .inr (.inl rfl), fun S hle hfr0 => ?_⟩, ?_⟩
       · exact .inl ⟨w0, st_move (hle.e rfl) (hle.d rfl)⟩
       refine ⟨⟨5 :: 6 :: [], (by decide +kernel), .inr (.inl rfl), fun S hle hfr0 => ?_⟩, ?_⟩
       · exact .inl ⟨w0, st_cut_lo_s (hle.e rfl) ⟨_, _, (hle.e rfl), (Md.nn_eq g13)⟩ g14 (hle.d rfl)⟩
       refine ⟨⟨0 :: 4 :: 7 :: 2 :: 3 :: 5 :: 6 :: 1 :: [], (by decide +kernel), .inl rfl, fun S hle hfr0 => ?_⟩, ?_⟩
       · exact .inl ⟨w0, ev_call_b [1] (actorgridref41_part_fn k s6_2 (⟨((x2.getD ((x3_0.Kind).toNat) default).word), ((x2.getD ((x3_0.Kind).toNat) default).parts), ((x2.getD ((x3_0.Kind).toNat) default).low), ((x2.getD ((x3_0.Kind).toNat) default).high)⟩ : Actorgridref41form) (((x2.getD ((x3_0.Kind).toNat) default).parts).getD s6_1 0) (a0.drop (((Md.W (s6_0 + 1))).toNat)) x15 hx15) (map_ev (.cons (hle.e rfl) (.cons (hle.e rfl) (.cons (hle.e rfl) (.cons (hle.e rfl) (.nil)))))) [] (by repeat' (first | exact .nil | refine .cons ?_ ?_ | refine .one ?_ | refine .agg ?_ | exact .mk rfl | exact .lend (hle.heap _ _ rfl) (by simp) | exact .le (.nil _) rfl | exact .le (.emp _) rfl | exact .le (.any _) rfl | fail)) rfl rfl rfl rfl rfl rfl (.cons (hle.heap _ _ rfl) .nil) rfl rfl rfl (.inl rfl) (hle.d rfl)⟩
       refine ⟨⟨8 :: 0 :: 4 :: 7 :: 2 :: 3 :: 5 :: 6 :: 1 :: [], (by decide +kernel), .inr (.inr rfl), fun S hle hfr0 => ?_⟩, ?_⟩
       · exact .inl ⟨w0, st_movet (hle.e rfl) (hle.d rfl)⟩
       refine ⟨⟨9 :: 8 :: 0 :: 4 :: 7 :: 2 :: 3 :: 5 :: 6 :: 1 :: [], (by decide +kernel), .inr (.inr rfl), fun S hle hfr0 => ?_⟩, ?_⟩
       · exact .inl ⟨w0, ev_extract (hle.e rfl) rfl (hle.d rfl)⟩
       refine ⟨⟨9 :: 8 :: 0 :: 4 :: 7 :: 2 :: 3 :: 5 :: 6 :: 1 :: [], (by decide +kernel), .inr (.inr rfl), fun S hle hfr0 => ?_⟩, ?_⟩
       · exact .inl ⟨w0, ev_extract (hle.e rfl) rfl (hle.d rfl)⟩
       refine ⟨⟨10 :: 8 :: 0 :: 1 :: 2 :: 3 :: 4 :: 5 :: 6 :: 7 :: 9 :: [], (by decide +kernel), .inr (.inr rfl), fun S hle hfr0 => ?_⟩, ?_⟩
       · exact .inl ⟨w0, st_assign (hle.e rfl) (hle.d rfl)⟩
       exact trivial
      case hk6x => rfl
      case hf6x => rfl
      refine s_sa ?_
      refine aops_nil (aw_seq (aw_seq (aw_region (s_mv ?_))))
      refine s_cm ?_
      refine aops_nil ?_
      refine aw_cond rfl (fun c16 => ?_) (fun c16 => ?_)
      · replace l6 := Md.cond_t l6 c16
        refine aw_seq (aw_region (aops_step1 rfl (ev_build' (out := [_, _, _, _, _, _]) rfl rfl rfl rfl rfl) ?_))
        iterate 2 refine s_mv ?_
        refine s_st [_, _, _, _, _, _] ?_
        iterate 2 refine s_sa ?_
        refine aops_nil ?_
        cases Option.some.inj l6
        replace h := Md.onS_r h
        cases Option.some.inj h
        exact aw_ret ⟨rfl, rv (rn (.cons (va [_, _, _, _, _, _]) (.cons o1 (.cons o1 .nil))))⟩
      replace l6 := Md.cond_f l6 c16
      refine aw_skip (aw_region ?_)
      iterate 2 refine s_mv ?_
      refine aops_step1 rfl (ev_add rfl rfl rfl (Md.wrap_W _)) (s_sa ?_)
      refine aops_nil (aw_region (s_mv ?_))
      obtain ⟨g17, l6⟩ := Md.ifp_s l6
      refine aops_step1 rfl (ev_add rfl rfl rfl (Md.nat_add g17)) (s_sa ?_)
      refine aops_nil ?_
      exact ⟨⟨(n6, (Md.W ((Md.W (s6_0 + 1)) + x15.1)), (s6_1 + 1), x15.2.2), l6⟩, Nat.lt_succ_self _, wk⟩
    replace l6 := Md.cond_f l6 c8
    refine aw_exit ?_
    show ∃ _x : Int × ConsoleCommand, _ = _ ∧ Weak _ _
    exact ⟨(s6_0, s6_2), Option.some.inj l6, wk⟩
  intro p3
  obtain ⟨⟨n3, s3_0, s3_1⟩, l3⟩ := p3
  change AW _ _ (⟨91, [], [(0, .one (.val (Sv a0))), (2, .one (.ptr 0 0)), (5, .one (.val (Sv x1))), (6, .one (.ptr 1 0)), (7, .one (CV.ls c_Actorgridref41form x2)), (8, vI ((s3_0 : Nat) : Int))], [(0, some (.box [cI 0, .val (Sv []), .val (Sv []), .val (Sv []), .val (Sv []), cI 0])), (1, some (.box (c_ConsoleCommand s3_1)))]⟩ : ASt) _
  replace l3 : actorgridref41_Parse_loop1 k x1 x2 n3 s3_0 s3_1 = some o3 := l3
  rcases n3 with _ | n3
  · exact absurd (show none = some o3 from l3) nofun
  rw [actorgridref41_Parse_loop1] at l3
  refine aw_seq (aw_seq (aw_region (s_mv ?_)))
  refine s_cm ?_
  refine aops_nil ?_
  refine aw_cond rfl (fun c18 => ?_) (fun c18 => ?_)
  · replace l3 := Md.cond_t l3 c18
    refine aw_skip ?_
    obtain ⟨o19, j19, l3⟩ := Md.bind_s l3
    refine aw_cut (ε := ConsoleCommand) (fun x => (⟨91, [], [(0, .one (.val (Sv a0))), (2, .one (.ptr 0 0)), (5, .one (.val (Sv x1))), (6, .one (.ptr 1 0)), (7, .one (CV.ls c_Actorgridref41form x2)), (8, vI ((s3_0 : Nat) : Int))], [(0, some (.box [cI 0, .val (Sv []), .val (Sv []), .val (Sv []), .val (Sv []), cI 0])), (1, some (.box ([cI x.Kind, .val (Sv x.Topic)] ++ c_Ref x.Actor ++ [.val (Sv x.Method), cI x.Number])))]⟩ : ASt)) (fun x => x = o19) ?_ ?_
    · intro x19_0 hI19
      subst hI19
      change AW _ _ (⟨91, [], [(0, .one (.val (Sv a0))), (2, .one (.ptr 0 0)), (5, .one (.val (Sv x1))), (6, .one (.ptr 1 0)), (7, .one (CV.ls c_Actorgridref41form x2)), (8, vI ((s3_0 : Nat) : Int))], [(0, some (.box [cI 0, .val (Sv []), .val (Sv []), .val (Sv []), .val (Sv []), cI 0])), (1, some (.box (c_ConsoleCommand x19_0)))]⟩ : ASt) _
      refine aw_region (s_mv ?_)
      obtain ⟨g20, l3⟩ := Md.ifp_s l3
      refine aops_step1 rfl (ev_add rfl rfl rfl (Md.nat_add g20)) (s_sa ?_)
      refine aops_nil ?_
      exact ⟨⟨(n3, (s3_0 + 1), x19_0), l3⟩, Nat.lt_succ_self _, wk⟩
    refine aw_block (aw_seq (aw_region ?_))
    iterate 2 refine s_mv ?_
    obtain ⟨g21, j19⟩ := Md.ifp_s j19
    refine aops_step1 rfl (ev_index_in rfl rfl rfl g21 rfl rfl) (aops_step1 rfl (ev_field_in rfl rfl rfl) (aops_step1 rfl (ev_load_in rfl rfl rfl) (s_mv ?_)))
    refine aops_step1 rfl (st_str_eq rfl rfl rfl) (aops_nil ?_)
    refine aw_cond rfl (fun c22 => ?_) (fun c22 => ?_)
    · replace j19 := Md.cond_t j19 c22
      refine aw_region (s_mv ?_)
      refine s_fd ?_
      refine s_st [_, _, _, _, _, _] ?_
      refine aops_nil ?_
      show ∃ _x : ConsoleCommand, _ = _ ∧ Weak _ _
      exact ⟨(⟨((s3_0 : Nat) : Int), s3_1.Topic, s3_1.Actor, s3_1.Method, s3_1.Number⟩ : ConsoleCommand), Option.some.inj j19, wk⟩
    replace j19 := Md.cond_f j19 c22
    refine aw_skip ?_
    show ∃ _x : ConsoleCommand, _ = _ ∧ Weak _ _
    exact ⟨s3_1, Option.some.inj j19, wk⟩
  replace l3 := Md.cond_f l3 c18
  refine aw_exit ?_
  show ∃ _x : ConsoleCommand, _ = _ ∧ Weak _ _
  exact ⟨s3_1, Option.some.inj l3, wk⟩
set_option maxHeartbeats 2000000 in
theorem actorgridlaw41_command_fn (k : Nat) (a0 : UInt8) (a1 : UInt8) (a2 : UInt8) (a3 : UInt8) (a4 : List UInt8) (a5 : UInt64) (r : ConsoleCommand) (h : actorgridlaw41_command k a0 a1 a2 a3 a4 a5 = some r) : FnC Tryd.prog 25 [.one (.val (.int .u8 (a0.toNat : Int))), .one (.val (.int .u8 (a1.toNat : Int))), .one (.val (.int .u8 (a2.toNat : Int))), .one (.val (.int .u8 (a3.toNat : Int))), .one (.val (Sv a4)), .one (.val (.int .u64 (a5.toNat : Int)))] [] (Det (.agg (c_ConsoleCommand r)) []) := by
  unfold actorgridlaw41_command at h
  refine fn_intro' 74 Tryd.func25 rfl rfl rfl (aw_seq (aw_region ?_))
  refine aops_step1 rfl (st_alloc (cs := [cI 0, .val (Sv []), .val (Sv []), .val (Sv []), .val (Sv []), cI 0]) 0 rfl rfl rfl rfl rfl) (aops_nil (aw_seq (aw_region ?_)))
  refine aops_step1 rfl (st_slice_lit (el := lsEl c_Str [([97] : List UInt8), ([65, 99, 99, 111, 117, 110, 116] : List UInt8), ([120, 95, 49] : List UInt8), ([116, 111, 112, 105, 99] : List UInt8), ([95] : List UInt8), ([90, 122, 57] : List UInt8)]) 1 rfl rfl rfl rfl rfl rfl rfl rfl (lit_el c_Str 1 [([97] : List UInt8), ([65, 99, 99, 111, 117, 110, 116] : List UInt8), ([120, 95, 49] : List UInt8), ([116, 111, 112, 105, 99] : List UInt8), ([95] : List UInt8), ([90, 122, 57] : List UInt8)] (fun _ => rfl)) rfl) (s_sa ?_)
  refine aops_nil (aw_seq (aw_region (s_mv ?_)))
  refine aops_step1 rfl (ev_rem rfl rfl rfl (by decide) (Md.rem_u8 a0 (7 : UInt8))) ?_
  refine aops_step1 rfl (st_conv_int rfl rfl Tryd.underlying5 Tryd.underlying3 (Md.conv_u8_i64 (a0 % (7 : UInt8)))) ?_
  obtain ⟨g1, h⟩ := Md.ifp_s h
  refine aops_step1 rfl (ev_add rfl rfl rfl (Md.nat_add g1)) (aops_step1 rfl (ev_build' (out := [_, _, _, _, _, _]) rfl rfl rfl rfl rfl) ?_)
  refine aops_step1 rfl (st_alloc (cs := [cI 0, .val (Sv []), .val (Sv []), .val (Sv []), .val (Sv []), cI 0]) 2 rfl rfl rfl rfl rfl) (s_st [_, _, _, _, _, _] ?_)
  refine aops_nil (aw_seq (aw_seq (aw_region (s_fd ?_))))
  refine s_ld ?_
  refine s_cm ?_
  refine aops_nil ?_
  refine aw_cond rfl (fun c2 => ?_) (fun c2 => ?_)
  · replace h := Md.cond_t h c2
    obtain ⟨g3, h⟩ := Md.ifp_s h
    obtain ⟨g4, h⟩ := Md.ifp_s h
    refine aw_freeze 1 rfl ?_
    apply aw_draw 10 ((⟨[], .one (CV.ls c_Str [([97] : List UInt8), ([65, 99, 99, 111, 117, 110, 116] : List UInt8), ([120, 95, 49] : List UInt8), ([116, 111, 112, 105, 99] : List UInt8), ([95] : List UInt8), ([90, 122, 57] : List UInt8)])⟩ : Add) :: ⟨[], .one (.val (.int .u8 (a2.toNat : Int)))⟩ :: ⟨[], .one (.val (.int .u8 (((a2 % (6 : UInt8))).toNat : Int)))⟩ :: ⟨[], .one (.cptr _)⟩ :: ⟨[], .one (.val (Sv ([([97] : List UInt8), ([65, 99, 99, 111, 117, 110, 116] : List UInt8), ([120, 95, 49] : List UInt8), ([116, 111, 112, 105, 99] : List UInt8), ([95] : List UInt8), ([90, 122, 57] : List UInt8)].getD ((a2 % (6 : UInt8)).toNat) default)))⟩ :: ⟨[], .one (.val (Sv a4))⟩ :: ⟨[], .one (.val (Sv a4))⟩ :: ⟨[], vI ((a4.length : Nat) : Int)⟩ :: ⟨[], vI (((min a4.length 32) : Nat) : Int)⟩ :: ⟨[], .one (.val (Sv (a4.take (min a4.length 32))))⟩ :: []) (by decide) rfl ?hk1x ?hf1x ?ho1x ?hr1x
    case ho1x =>
     refine ob [] (fun S hle hfr => .inl ⟨w0, st_move (hle.e rfl) (hle.d rfl)⟩) (ob [] (fun S hle hfr => .inl ⟨w0, st_move (hle.e rfl) (hle.d rfl)⟩) ?_)
     refine ob [1] (fun S hle hfr => .inl ⟨w0, ev_rem (hle.e rfl) (hle.e rfl) (hle.d rfl) (by decide) (Md.rem_u8 a2 (6 : UInt8))⟩) ?_
     refine ob [0, 2, 1] (fun S hle hfr => .inl ⟨w0, ev_index_in (hle.e rfl) (hle.e rfl) rfl g3 rfl (hle.d rfl)⟩) ?_
     refine ob [3, 0, 2, 1] (fun S hle hfr => .inl ⟨w0, ev_load_in (hle.e rfl) rfl (hle.d rfl)⟩) ?_
     refine ob [] (fun S hle hfr => .inl ⟨w0, st_move (hle.e rfl) (hle.d rfl)⟩) (ob [] (fun S hle hfr => .inl ⟨w0, st_move (hle.e rfl) (hle.d rfl)⟩) ?_)
     refine ob [6] (fun S hle hfr => .inl ⟨w0, st_len_str (hle.e rfl) (hle.d rfl)⟩) ?_
     refine ob [7, 6] (fun S hle hfr => .inl ⟨w0, ev_min (hle.e rfl) (hle.e rfl) (hle.d rfl) (Md.nat_min _ _)⟩) ?_
     refine ob [5, 8, 7, 6] (fun S hle hfr => .inl ⟨w0, st_cut_hi_s (hle.e rfl) ⟨_, _, (hle.e rfl), rfl⟩ g4 (hle.d rfl)⟩) ?_
     exact trivial
    case hk1x => rfl
    case hf1x => rfl
    refine aops_step1 rfl (ev_build' (out := [_, _]) rfl rfl rfl rfl rfl) (s_fd ?_)
    refine s_st [_, _, _, _, _, _] ?_
    refine aops_nil (aw_seq (aw_seq (aw_region (s_fd ?_))))
    refine s_ld ?_
    refine aops_nil (aw_block (aw_seq (aw_seq (aw_region (s_cm ?_)))))
    refine s_sa ?_
    refine aops_nil ?_
    refine aw_cond rfl (fun c5 => ?_) (fun c5 => ?_)
    · replace h := Md.cond_t h c5
      refine aw_skip (aw_yes rfl (c5) ?_)
      obtain ⟨g6, h⟩ := Md.ifp_s h
      obtain ⟨g7, h⟩ := Md.ifp_s h
      apply aw_draw_stores 12 [(11, [10, 4, 0, 1, 2, 3], 2, [cI (((((a0 % (7 : UInt8)).toNat) + 1) : Nat) : Int), .val (Sv ([([97] : List UInt8), ([65, 99, 99, 111, 117, 110, 116] : List UInt8), ([120, 95, 49] : List UInt8), ([116, 111, 112, 105, 99] : List UInt8), ([95] : List UInt8), ([90, 122, 57] : List UInt8)].getD ((a1 % (6 : UInt8)).toNat) default)), .val (Sv ([([97] : List UInt8), ([65, 99, 99, 111, 117, 110, 116] : List UInt8), ([120, 95, 49] : List UInt8), ([116, 111, 112, 105, 99] : List UInt8), ([95] : List UInt8), ([90, 122, 57] : List UInt8)].getD ((a2 % (6 : UInt8)).toNat) default)), .val (Sv (a4.take (min a4.length 32))), .val (Sv []), cI 0])] ((⟨[], .one (CV.ls c_Str [([97] : List UInt8), ([65, 99, 99, 111, 117, 110, 116] : List UInt8), ([120, 95, 49] : List UInt8), ([116, 111, 112, 105, 99] : List UInt8), ([95] : List UInt8), ([90, 122, 57] : List UInt8)])⟩ : Add) :: ⟨[], .one (.val (.int .u8 (a1.toNat : Int)))⟩ :: ⟨[], .one (.val (.int .u8 (((a1 % (6 : UInt8))).toNat : Int)))⟩ :: ⟨[], .one (.cptr _)⟩ :: ⟨[], .one (.val (Sv ([([97] : List UInt8), ([65, 99, 99, 111, 117, 110, 116] : List UInt8), ([120, 95, 49] : List UInt8), ([116, 111, 112, 105, 99] : List UInt8), ([95] : List UInt8), ([90, 122, 57] : List UInt8)].getD ((a1 % (6 : UInt8)).toNat) default)))⟩ :: ⟨[], .one (CV.ls c_Str [([97] : List UInt8), ([65, 99, 99, 111, 117, 110, 116] : List UInt8), ([120, 95, 49] : List UInt8), ([116, 111, 112, 105, 99] : List UInt8), ([95] : List UInt8), ([90, 122, 57] : List UInt8)])⟩ :: ⟨[], .one (.val (.int .u8 (a3.toNat : Int)))⟩ :: ⟨[], .one (.val (.int .u8 (((a3 % (6 : UInt8))).toNat : Int)))⟩ :: ⟨[], .one (.cptr _)⟩ :: ⟨[], .one (.val (Sv ([([97] : List UInt8), ([65, 99, 99, 111, 117, 110, 116] : List UInt8), ([120, 95, 49] : List UInt8), ([116, 111, 112, 105, 99] : List UInt8), ([95] : List UInt8), ([90, 122, 57] : List UInt8)].getD ((a3 % (6 : UInt8)).toNat) default)))⟩ :: ⟨[], .one (.ptr 2 _)⟩ :: ⟨[], .one .any⟩ :: []) (by decide) rfl ?hk2x ?hf2x ?ho2x ?hv2x ?hr2x
      case ho2x =>
       refine ⟨.inr ⟨[], [], (by decide +kernel), (by decide +kernel), ⟨?_, .inl rfl⟩⟩, ?_⟩
       · refine .inr (.inr fun S hle hfr => ?_)
         exact .inl ⟨w0, st_move (hle.e rfl) (hle.d rfl)⟩
       refine ⟨.inr ⟨[], [], (by decide +kernel), (by decide +kernel), ⟨?_, .inl rfl⟩⟩, ?_⟩
       · refine .inr (.inr fun S hle hfr => ?_)
         exact .inl ⟨w0, st_move (hle.e rfl) (hle.d rfl)⟩
       refine ⟨.inr ⟨1 :: [], [], (by decide +kernel), (by decide +kernel), ⟨?_, .inl rfl⟩⟩, ?_⟩
       · refine .inr (.inr fun S hle hfr => ?_)
         exact .inl ⟨w0, ev_rem (hle.e rfl) (hle.e rfl) (hle.d rfl) (by decide) (Md.rem_u8 a1 (6 : UInt8))⟩
       refine ⟨.inr ⟨0 :: 2 :: 1 :: [], [], (by decide +kernel), (by decide +kernel), ⟨?_, .inl rfl⟩⟩, ?_⟩
       · refine .inr (.inr fun S hle hfr => ?_)
         exact .inl ⟨w0, ev_index_in (hle.e rfl) (hle.e rfl) rfl g6 rfl (hle.d rfl)⟩
       refine ⟨.inr ⟨3 :: 0 :: 2 :: 1 :: [], [], (by decide +kernel), (by decide +kernel), ⟨?_, .inl rfl⟩⟩, ?_⟩
       · refine .inr (.inr fun S hle hfr => ?_)
         exact .inl ⟨w0, ev_load_in (hle.e rfl) rfl (hle.d rfl)⟩
       refine ⟨.inr ⟨[], [], (by decide +kernel), (by decide +kernel), ⟨?_, ?_⟩⟩, ?_⟩
       · refine .inr (.inr fun S hle hfr => ?_)
         exact .inl ⟨w0, st_move (hle.e rfl) (hle.d rfl)⟩
       · refine .inr fun S hle hfr => ?_
         exact .inl ⟨w0, st_move (hle.e rfl) (hle.d rfl)⟩
       refine ⟨.inr ⟨[], [], (by decide +kernel), (by decide +kernel), ⟨?_, ?_⟩⟩, ?_⟩
       · refine .inr (.inr fun S hle hfr => ?_)
         exact .inl ⟨w0, st_move (hle.e rfl) (hle.d rfl)⟩
       · refine .inr fun S hle hfr => ?_
         exact .inl ⟨w0, st_move (hle.e rfl) (hle.d rfl)⟩
       refine ⟨.inr ⟨6 :: [], [], (by decide +kernel), (by decide +kernel), ⟨?_, ?_⟩⟩, ?_⟩
       · refine .inr (.inr fun S hle hfr => ?_)
         exact .inl ⟨w0, ev_rem (hle.e rfl) (hle.e rfl) (hle.d rfl) (by decide) (Md.rem_u8 a3 (6 : UInt8))⟩
       · refine .inr fun S hle hfr => ?_
         exact .inl ⟨w0, ev_rem (hle.e rfl) (hle.e rfl) (hle.d rfl) (by decide) (Md.rem_u8 a3 (6 : UInt8))⟩
       refine ⟨.inr ⟨5 :: 7 :: 6 :: [], [], (by decide +kernel), (by decide +kernel), ⟨?_, ?_⟩⟩, ?_⟩
       · refine .inr (.inr fun S hle hfr => ?_)
         exact .inl ⟨w0, ev_index_in (hle.e rfl) (hle.e rfl) rfl g7 rfl (hle.d rfl)⟩
       · refine .inr fun S hle hfr => ?_
         exact .inl ⟨w0, ev_index_in (hle.e rfl) (hle.e rfl) rfl g7 rfl (hle.d rfl)⟩
       refine ⟨.inr ⟨8 :: 5 :: 7 :: 6 :: [], [], (by decide +kernel), (by decide +kernel), ⟨?_, ?_⟩⟩, ?_⟩
       · refine .inr (.inr fun S hle hfr => ?_)
         exact .inl ⟨w0, ev_load_in (hle.e rfl) rfl (hle.d rfl)⟩
       · refine .inr fun S hle hfr => ?_
         exact .inl ⟨w0, ev_load_in (hle.e rfl) rfl (hle.d rfl)⟩
       refine ⟨.inr ⟨0 :: 1 :: 2 :: 3 :: 4 :: [], [], (by decide +kernel), (by decide +kernel), ⟨?_, .inl rfl⟩⟩, ?_⟩
       · refine .inr (.inr fun S hle hfr => ?_)
         exact .inl ⟨w0, ev_field (hle.e rfl) rfl (hle.d rfl)⟩
       refine ⟨.inl rfl, ?_⟩
       exact trivial
      case hv2x =>
       refine ⟨⟨rfl, rfl, (by decide +kernel), rfl, rfl, _, _, rfl, rfl, rfl, fun S hle => st_store (cs' := [_, _, _, _, _, _]) (hle.e rfl) (hle.heap _ _ rfl) (hle.e rfl) rfl rfl rfl rfl (hle.d rfl) rfl⟩, ?_⟩
       exact trivial
      case hk2x => rfl
      case hf2x => rfl
      refine s_fd ?_
      refine s_st [_, _, _, _, _, _] ?_
      refine aops_nil (aw_seq (aw_region (s_ls [_, _, _, _, _, _] ?_)))
      refine s_st [_, _, _, _, _, _] ?_
      refine aops_nil ?_
      cases Option.some.inj h
      exact aw_ret ⟨rfl, rv (rg [_, _, _, _, _, _])⟩
    replace h := Md.cond_f h c5
    refine aw_region (s_cm ?_)
    refine s_sa ?_
    refine aops_nil ?_
    refine aw_cond rfl (fun c8 => ?_) (fun c8 => ?_)
    · replace h := Md.cond_t h c8
      obtain ⟨g9, h⟩ := Md.ifp_s h
      obtain ⟨g10, h⟩ := Md.ifp_s h
      apply aw_draw_stores 12 [(11, [10, 4, 0, 1, 2, 3], 2, [cI (((((a0 % (7 : UInt8)).toNat) + 1) : Nat) : Int), .val (Sv ([([97] : List UInt8), ([65, 99, 99, 111, 117, 110, 116] : List UInt8), ([120, 95, 49] : List UInt8), ([116, 111, 112, 105, 99] : List UInt8), ([95] : List UInt8), ([90, 122, 57] : List UInt8)].getD ((a1 % (6 : UInt8)).toNat) default)), .val (Sv ([([97] : List UInt8), ([65, 99, 99, 111, 117, 110, 116] : List UInt8), ([120, 95, 49] : List UInt8), ([116, 111, 112, 105, 99] : List UInt8), ([95] : List UInt8), ([90, 122, 57] : List UInt8)].getD ((a2 % (6 : UInt8)).toNat) default)), .val (Sv (a4.take (min a4.length 32))), .val (Sv []), cI 0])] ((⟨[], .one (CV.ls c_Str [([97] : List UInt8), ([65, 99, 99, 111, 117, 110, 116] : List UInt8), ([120, 95, 49] : List UInt8), ([116, 111, 112, 105, 99] : List UInt8), ([95] : List UInt8), ([90, 122, 57] : List UInt8)])⟩ : Add) :: ⟨[], .one (.val (.int .u8 (a1.toNat : Int)))⟩ :: ⟨[], .one (.val (.int .u8 (((a1 % (6 : UInt8))).toNat : Int)))⟩ :: ⟨[], .one (.cptr _)⟩ :: ⟨[], .one (.val (Sv ([([97] : List UInt8), ([65, 99, 99, 111, 117, 110, 116] : List UInt8), ([120, 95, 49] : List UInt8), ([116, 111, 112, 105, 99] : List UInt8), ([95] : List UInt8), ([90, 122, 57] : List UInt8)].getD ((a1 % (6 : UInt8)).toNat) default)))⟩ :: ⟨[], .one (CV.ls c_Str [([97] : List UInt8), ([65, 99, 99, 111, 117, 110, 116] : List UInt8), ([120, 95, 49] : List UInt8), ([116, 111, 112, 105, 99] : List UInt8), ([95] : List UInt8), ([90, 122, 57] : List UInt8)])⟩ :: ⟨[], .one (.val (.int .u8 (a3.toNat : Int)))⟩ :: ⟨[], .one (.val (.int .u8 (((a3 % (6 : UInt8))).toNat : Int)))⟩ :: ⟨[], .one (.cptr _)⟩ :: ⟨[], .one (.val (Sv ([([97] : List UInt8), ([65, 99, 99, 111, 117, 110, 116] : List UInt8), ([120, 95, 49] : List UInt8), ([116, 111, 112, 105, 99] : List UInt8), ([95] : List UInt8), ([90, 122, 57] : List UInt8)].getD ((a3 % (6 : UInt8)).toNat) default)))⟩ :: ⟨[], .one (.ptr 2 _)⟩ :: ⟨[], .one .any⟩ :: []) (by decide) rfl ?hk3x ?hf3x ?ho3x ?hv3x ?hr3x
      case ho3x =>
       refine ⟨.inr ⟨[], [], (by decide +kernel), (by decide +kernel), ⟨?_, .inl rfl⟩⟩, ?_⟩
       · refine .inr (.inr fun S hle hfr => ?_)
         exact .inl ⟨w0, st_move (hle.e rfl) (hle.d rfl)⟩
       refine ⟨.inr ⟨[], [], (by decide +kernel), (by decide +kernel), ⟨?_, .inl rfl⟩⟩, ?_⟩
       · refine .inr (.inr fun S hle hfr => ?_)
         exact .inl ⟨w0, st_move (hle.e rfl) (hle.d rfl)⟩
       refine ⟨.inr ⟨1 :: [], [], (by decide +kernel), (by decide +kernel), ⟨?_, .inl rfl⟩⟩, ?_⟩
       · refine .inr (.inr fun S hle hfr => ?_)
         exact .inl ⟨w0, ev_rem (hle.e rfl) (hle.e rfl) (hle.d rfl) (by decide) (Md.rem_u8 a1 (6 : UInt8))⟩
       refine ⟨.inr ⟨0 :: 2 :: 1 :: [], [], (by decide +kernel), (by decide +kernel), ⟨?_, .inl rfl⟩⟩, ?_⟩
       · refine .inr (.inr fun S hle hfr => ?_)
         exact .inl ⟨w0, ev_index_in (hle.e rfl) (hle.e rfl) rfl g9 rfl (hle.d rfl)⟩
       refine ⟨.inr ⟨3 :: 0 :: 2 :: 1 :: [], [], (by decide +kernel), (by decide +kernel), ⟨?_, .inl rfl⟩⟩, ?_⟩
       · refine .inr (.inr fun S hle hfr => ?_)
         exact .inl ⟨w0, ev_load_in (hle.e rfl) rfl (hle.d rfl)⟩
       refine ⟨.inr ⟨[], [], (by decide +kernel), (by decide +kernel), ⟨?_, ?_⟩⟩, ?_⟩
       · refine .inr (.inr fun S hle hfr => ?_)
         exact .inl ⟨w0, st_move (hle.e rfl) (hle.d rfl)⟩
       · refine .inr fun S hle hfr => ?_
         exact .inl ⟨w0, st_move (hle.e rfl) (hle.d rfl)⟩
       refine ⟨.inr ⟨[], [], (by decide +kernel), (by decide +kernel), ⟨?_, ?_⟩⟩, ?_⟩
       · refine .inr (.inr fun S hle hfr => ?_)
         exact .inl ⟨w0, st_move (hle.e rfl) (hle.d rfl)⟩
       · refine .inr fun S hle hfr => ?_
         exact .inl ⟨w0, st_move (hle.e rfl) (hle.d rfl)⟩
       refine ⟨.inr ⟨6 :: [], [], (by decide +kernel), (by decide +kernel), ⟨?_, ?_⟩⟩, ?_⟩
       · refine .inr (.inr fun S hle hfr => ?_)
         exact .inl ⟨w0, ev_rem (hle.e rfl) (hle.e rfl) (hle.d rfl) (by decide) (Md.rem_u8 a3 (6 : UInt8))⟩
       · refine .inr fun S hle hfr => ?_
         exact .inl ⟨w0, ev_rem (hle.e rfl) (hle.e rfl) (hle.d rfl) (by decide) (Md.rem_u8 a3 (6 : UInt8))⟩
       refine ⟨.inr ⟨5 :: 7 :: 6 :: [], [], (by decide +kernel), (by decide +kernel), ⟨?_, ?_⟩⟩, ?_⟩
       · refine .inr (.inr fun S hle hfr => ?_)
         exact .inl ⟨w0, ev_index_in (hle.e rfl) (hle.e rfl) rfl g10 rfl (hle.d rfl)⟩
       · refine .inr fun S hle hfr => ?_
         exact .inl ⟨w0, ev_index_in (hle.e rfl) (hle.e rfl) rfl g10 rfl (hle.d rfl)⟩
       refine ⟨.inr ⟨8 :: 5 :: 7 :: 6 :: [], [], (by decide +kernel), (by decide +kernel), ⟨?_, ?_⟩⟩, ?_⟩
       · refine .inr (.inr fun S hle hfr => ?_)
         exact .inl ⟨w0, ev_load_in (hle.e rfl) rfl (hle.d rfl)⟩
       · refine .inr fun S hle hfr => ?_
         exact .inl ⟨w0, ev_load_in (hle.e rfl) rfl (hle.d rfl)⟩
       refine ⟨.inr ⟨0 :: 1 :: 2 :: 3 :: 4 :: [], [], (by decide +kernel), (by decide +kernel), ⟨?_, .inl rfl⟩⟩, ?_⟩
       · refine .inr (.inr fun S hle hfr => ?_)
         exact .inl ⟨w0, ev_field (hle.e rfl) rfl (hle.d rfl)⟩
       refine ⟨.inl rfl, ?_⟩
       exact trivial
      case hv3x =>
       refine ⟨⟨rfl, rfl, (by decide +kernel), rfl, rfl, _, _, rfl, rfl, rfl, fun S hle => st_store (cs' := [_, _, _, _, _, _]) (hle.e rfl) (hle.heap _ _ rfl) (hle.e rfl) rfl rfl rfl rfl (hle.d rfl) rfl⟩, ?_⟩
       exact trivial
      case hk3x => rfl
      case hf3x => rfl
      refine s_fd ?_
      refine s_st [_, _, _, _, _, _] ?_
      refine aops_nil (aw_seq (aw_region (s_ls [_, _, _, _, _, _] ?_)))
      refine s_st [_, _, _, _, _, _] ?_
      refine aops_nil ?_
      cases Option.some.inj h
      exact aw_ret ⟨rfl, rv (rg [_, _, _, _, _, _])⟩
    replace h := Md.cond_f h c8
    refine aw_seq (aw_region (s_cm ?_))
    refine s_sa ?_
    refine aops_nil ?_
    refine aw_cond rfl (fun c11 => ?_) (fun c11 => ?_)
    · replace h := Md.cond_t h c11
      refine aw_region (s_mv ?_)
      refine aops_step1 rfl (ev_rem rfl rfl rfl (by decide) (Md.rem_u64 a5 (1000 : UInt64))) ?_
      refine aops_step1 rfl (st_conv_int rfl rfl Tryd.underlying37 Tryd.underlying3 (Md.wrap_W _)) (aops_step1 rfl (ev_add rfl rfl rfl (Md.wrap_W _)) (s_fd ?_))
      refine s_st [_, _, _, _, _, _] ?_
      refine aops_nil (aw_seq (aw_region (s_ls [_, _, _, _, _, _] ?_)))
      refine s_st [_, _, _, _, _, _] ?_
      refine aops_nil ?_
      cases Option.some.inj h
      exact aw_ret ⟨rfl, rv (rg [_, _, _, _, _, _])⟩
    replace h := Md.cond_f h c11
    refine aw_seq (aw_region (s_cm ?_))
    refine s_sa ?_
    refine aops_nil ?_
    refine aw_cond rfl (fun c12 => ?_) (fun c12 => ?_)
    · replace h := Md.cond_t h c12
      refine aw_region (s_mv ?_)
      refine aops_step1 rfl (ev_rem rfl rfl rfl (by decide) (Md.rem_u64 a5 (1099511627776 : UInt64))) ?_
      refine aops_step1 rfl (st_conv_int rfl rfl Tryd.underlying37 Tryd.underlying3 (Md.wrap_W _)) (aops_step1 rfl (ev_add rfl rfl rfl (Md.wrap_W _)) (s_fd ?_))
      refine s_st [_, _, _, _, _, _] ?_
      refine aops_nil (aw_seq (aw_region (s_ls [_, _, _, _, _, _] ?_)))
      refine s_st [_, _, _, _, _, _] ?_
      refine aops_nil ?_
      cases Option.some.inj h
      exact aw_ret ⟨rfl, rv (rg [_, _, _, _, _, _])⟩
    replace h := Md.cond_f h c12
    refine aw_seq (aw_region (s_cm ?_))
    refine s_sa ?_
    refine aops_nil ?_
    refine aw_cond rfl (fun c13 => ?_) (fun c13 => ?_)
    · replace h := Md.cond_t h c13
      refine aw_region (s_mv ?_)
      refine aops_step1 rfl (ev_rem rfl rfl rfl (by decide) (Md.rem_u64 a5 (101 : UInt64))) ?_
      refine aops_step1 rfl (st_conv_int rfl rfl Tryd.underlying37 Tryd.underlying3 (Md.wrap_W _)) (s_fd ?_)
      refine s_st [_, _, _, _, _, _] ?_
      refine aops_nil (aw_seq (aw_region (s_ls [_, _, _, _, _, _] ?_)))
      refine s_st [_, _, _, _, _, _] ?_
      refine aops_nil ?_
      cases Option.some.inj h
      exact aw_ret ⟨rfl, rv (rg [_, _, _, _, _, _])⟩
    replace h := Md.cond_f h c13
    refine aw_skip (aw_seq (aw_region (s_ls [_, _, _, _, _, _] ?_)))
    refine s_st [_, _, _, _, _, _] ?_
    refine aops_nil ?_
    cases Option.some.inj h
    exact aw_ret ⟨rfl, rv (rg [_, _, _, _, _, _])⟩
  replace h := Md.cond_f h c2
  refine aw_skip (aw_seq (aw_seq (aw_region (s_fd ?_))))
  refine s_ld ?_
  refine aops_nil (aw_block (aw_seq (aw_seq (aw_region (s_cm ?_)))))
  refine s_sa ?_
  refine aops_nil ?_
  refine aw_cond rfl (fun c14 => ?_) (fun c14 => ?_)
  · replace h := Md.cond_t h c14
    refine aw_skip (aw_yes rfl (c14) ?_)
    obtain ⟨g15, h⟩ := Md.ifp_s h
    obtain ⟨g16, h⟩ := Md.ifp_s h
    refine aw_freeze 1 rfl ?_
    apply aw_draw_stores 12 [(11, [10, 4, 0, 1, 2, 3], 2, [cI (((((a0 % (7 : UInt8)).toNat) + 1) : Nat) : Int), .val (Sv ([([97] : List UInt8), ([65, 99, 99, 111, 117, 110, 116] : List UInt8), ([120, 95, 49] : List UInt8), ([116, 111, 112, 105, 99] : List UInt8), ([95] : List UInt8), ([90, 122, 57] : List UInt8)].getD ((a1 % (6 : UInt8)).toNat) default)), .val (Sv []), .val (Sv []), .val (Sv []), cI 0])] ((⟨[], .one (CV.ls c_Str [([97] : List UInt8), ([65, 99, 99, 111, 117, 110, 116] : List UInt8), ([120, 95, 49] : List UInt8), ([116, 111, 112, 105, 99] : List UInt8), ([95] : List UInt8), ([90, 122, 57] : List UInt8)])⟩ : Add) :: ⟨[], .one (.val (.int .u8 (a1.toNat : Int)))⟩ :: ⟨[], .one (.val (.int .u8 (((a1 % (6 : UInt8))).toNat : Int)))⟩ :: ⟨[], .one (.cptr _)⟩ :: ⟨[], .one (.val (Sv ([([97] : List UInt8), ([65, 99, 99, 111, 117, 110, 116] : List UInt8), ([120, 95, 49] : List UInt8), ([116, 111, 112, 105, 99] : List UInt8), ([95] : List UInt8), ([90, 122, 57] : List UInt8)].getD ((a1 % (6 : UInt8)).toNat) default)))⟩ :: ⟨[], .one (CV.ls c_Str [([97] : List UInt8), ([65, 99, 99, 111, 117, 110, 116] : List UInt8), ([120, 95, 49] : List UInt8), ([116, 111, 112, 105, 99] : List UInt8), ([95] : List UInt8), ([90, 122, 57] : List UInt8)])⟩ :: ⟨[], .one (.val (.int .u8 (a3.toNat : Int)))⟩ :: ⟨[], .one (.val (.int .u8 (((a3 % (6 : UInt8))).toNat : Int)))⟩ :: ⟨[], .one (.cptr _)⟩ :: ⟨[], .one (.val (Sv ([([97] : List UInt8), ([65, 99, 99, 111, 117, 110, 116] : List UInt8), ([120, 95, 49] : List UInt8), ([116, 111, 112, 105, 99] : List UInt8), ([95] : List UInt8), ([90, 122, 57] : List UInt8)].getD ((a3 % (6 : UInt8)).toNat) default)))⟩ :: ⟨[], .one (.ptr 2 _)⟩ :: ⟨[], .one .any⟩ :: []) (by decide) rfl ?hk4x ?hf4x ?ho4x ?hv4x ?hr4x
    case ho4x =>
     refine ⟨.inr ⟨[], [], (by decide +kernel), (by decide +kernel), ⟨?_, .inl rfl⟩⟩, ?_⟩
     · refine .inr (.inr fun S hle hfr => ?_)
       exact .inl ⟨w0, st_move (hle.e rfl) (hle.d rfl)⟩
     refine ⟨.inr ⟨[], [], (by decide +kernel), (by decide +kernel), ⟨?_, .inl rfl⟩⟩, ?_⟩
     · refine .inr (.inr fun S hle hfr => ?_)
       exact .inl ⟨w0, st_move (hle.e rfl) (hle.d rfl)⟩
     refine ⟨.inr ⟨1 :: [], [], (by decide +kernel), (by decide +kernel), ⟨?_, .inl rfl⟩⟩, ?_⟩
     · refine .inr (.inr fun S hle hfr => ?_)
       exact .inl ⟨w0, ev_rem (hle.e rfl) (hle.e rfl) (hle.d rfl) (by decide) (Md.rem_u8 a1 (6 : UInt8))⟩
     refine ⟨.inr ⟨0 :: 2 :: 1 :: [], [], (by decide +kernel), (by decide +kernel), ⟨?_, .inl rfl⟩⟩, ?_⟩
     · refine .inr (.inr fun S hle hfr => ?_)
       exact .inl ⟨w0, ev_index_in (hle.e rfl) (hle.e rfl) rfl g15 rfl (hle.d rfl)⟩
     refine ⟨.inr ⟨3 :: 0 :: 2 :: 1 :: [], [], (by decide +kernel), (by decide +kernel), ⟨?_, .inl rfl⟩⟩, ?_⟩
     · refine .inr (.inr fun S hle hfr => ?_)
       exact .inl ⟨w0, ev_load_in (hle.e rfl) rfl (hle.d rfl)⟩
     refine ⟨.inr ⟨[], [], (by decide +kernel), (by decide +kernel), ⟨?_, ?_⟩⟩, ?_⟩
     · refine .inr (.inr fun S hle hfr => ?_)
       exact .inl ⟨w0, st_move (hle.e rfl) (hle.d rfl)⟩
     · refine .inr fun S hle hfr => ?_
       exact .inl ⟨w0, st_move (hle.e rfl) (hle.d rfl)⟩
     refine ⟨.inr ⟨[], [], (by decide +kernel), (by decide +kernel), ⟨?_, ?_⟩⟩, ?_⟩
     · refine .inr (.inr fun S hle hfr => ?_)
       exact .inl ⟨w0, st_move (hle.e rfl) (hle.d rfl)⟩
     · refine .inr fun S hle hfr => ?_
       exact .inl ⟨w0, st_move (hle.e rfl) (hle.d rfl)⟩
     refine ⟨.inr ⟨6 :: [], [], (by decide +kernel), (by decide +kernel), ⟨?_, ?_⟩⟩, ?_⟩
     · refine .inr (.inr fun S hle hfr => ?_)
       exact .inl ⟨w0, ev_rem (hle.e rfl) (hle.e rfl) (hle.d rfl) (by decide) (Md.rem_u8 a3 (6 : UInt8))⟩
     · refine .inr fun S hle hfr => ?_
       exact .inl ⟨w0, ev_rem (hle.e rfl) (hle.e rfl) (hle.d rfl) (by decide) (Md.rem_u8 a3 (6 : UInt8))⟩
     refine ⟨.inr ⟨5 :: 7 :: 6 :: [], [], (by decide +kernel), (by decide +kernel), ⟨?_, ?_⟩⟩, ?_⟩
     · refine .inr (.inr fun S hle hfr => ?_)
       exact .inl ⟨w0, ev_index_in (hle.e rfl) (hle.e rfl) rfl g16 rfl (hle.d rfl)⟩
     · refine .inr fun S hle hfr => ?_
       exact .inl ⟨w0, ev_index_in (hle.e rfl) (hle.e rfl) rfl g16 rfl (hle.d rfl)⟩
     refine ⟨.inr ⟨8 :: 5 :: 7 :: 6 :: [], [], (by decide +kernel), (by decide +kernel), ⟨?_, ?_⟩⟩, ?_⟩
     · refine .inr (.inr fun S hle hfr => ?_)
       exact .inl ⟨w0, ev_load_in (hle.e rfl) rfl (hle.d rfl)⟩
     · refine .inr fun S hle hfr => ?_
       exact .inl ⟨w0, ev_load_in (hle.e rfl) rfl (hle.d rfl)⟩
     refine ⟨.inr ⟨0 :: 1 :: 2 :: 3 :: 4 :: [], [], (by decide +kernel), (by decide +kernel), ⟨?_, .inl rfl⟩⟩, ?_⟩
     · refine .inr (.inr fun S hle hfr => ?_)
       exact .inl ⟨w0, ev_field (hle.e rfl) rfl (hle.d rfl)⟩
     refine ⟨.inl rfl, ?_⟩
     exact trivial
    case hv4x =>
     refine ⟨⟨rfl, rfl, (by decide +kernel), rfl, rfl, _, _, rfl, rfl, rfl, fun S hle => st_store (cs' := [_, _, _, _, _, _]) (hle.e rfl) (hle.heap _ _ rfl) (hle.e rfl) rfl rfl rfl rfl (hle.d rfl) rfl⟩, ?_⟩
     exact trivial
    case hk4x => rfl
    case hf4x => rfl
    refine s_fd ?_
    refine s_st [_, _, _, _, _, _] ?_
    refine aops_nil (aw_seq (aw_region (s_ls [_, _, _, _, _, _] ?_)))
    refine s_st [_, _, _, _, _, _] ?_
    refine aops_nil ?_
    cases Option.some.inj h
    exact aw_ret ⟨rfl, rv (rg [_, _, _, _, _, _])⟩
  replace h := Md.cond_f h c14
  refine aw_region (s_cm ?_)
  refine s_sa ?_
  refine aops_nil ?_
  refine aw_cond rfl (fun c17 => ?_) (fun c17 => ?_)
  · replace h := Md.cond_t h c17
    obtain ⟨g18, h⟩ := Md.ifp_s h
    obtain ⟨g19, h⟩ := Md.ifp_s h
    refine aw_freeze 1 rfl ?_
    apply aw_draw_stores 12 [(11, [10, 4, 0, 1, 2, 3], 2, [cI (((((a0 % (7 : UInt8)).toNat) + 1) : Nat) : Int), .val (Sv ([([97] : List UInt8), ([65, 99, 99, 111, 117, 110, 116] : List UInt8), ([120, 95, 49] : List UInt8), ([116, 111, 112, 105, 99] : List UInt8), ([95] : List UInt8), ([90, 122, 57] : List UInt8)].getD ((a1 % (6 : UInt8)).toNat) default)), .val (Sv []), .val (Sv []), .val (Sv []), cI 0])] ((⟨[], .one (CV.ls c_Str [([97] : List UInt8), ([65, 99, 99, 111, 117, 110, 116] : List UInt8), ([120, 95, 49] : List UInt8), ([116, 111, 112, 105, 99] : List UInt8), ([95] : List UInt8), ([90, 122, 57] : List UInt8)])⟩ : Add) :: ⟨[], .one (.val (.int .u8 (a1.toNat : Int)))⟩ :: ⟨[], .one (.val (.int .u8 (((a1 % (6 : UInt8))).toNat : Int)))⟩ :: ⟨[], .one (.cptr _)⟩ :: ⟨[], .one (.val (Sv ([([97] : List UInt8), ([65, 99, 99, 111, 117, 110, 116] : List UInt8), ([120, 95, 49] : List UInt8), ([116, 111, 112, 105, 99] : List UInt8), ([95] : List UInt8), ([90, 122, 57] : List UInt8)].getD ((a1 % (6 : UInt8)).toNat) default)))⟩ :: ⟨[], .one (CV.ls c_Str [([97] : List UInt8), ([65, 99, 99, 111, 117, 110, 116] : List UInt8), ([120, 95, 49] : List UInt8), ([116, 111, 112, 105, 99] : List UInt8), ([95] : List UInt8), ([90, 122, 57] : List UInt8)])⟩ :: ⟨[], .one (.val (.int .u8 (a3.toNat : Int)))⟩ :: ⟨[], .one (.val (.int .u8 (((a3 % (6 : UInt8))).toNat : Int)))⟩ :: ⟨[], .one (.cptr _)⟩ :: ⟨[], .one (.val (Sv ([([97] : List UInt8), ([65, 99, 99, 111, 117, 110, 116] : List UInt8), ([120, 95, 49] : List UInt8), ([116, 111, 112, 105, 99] : List UInt8), ([95] : List UInt8), ([90, 122, 57] : List UInt8)].getD ((a3 % (6 : UInt8)).toNat) default)))⟩ :: ⟨[], .one (.ptr 2 _)⟩ :: ⟨[], .one .any⟩ :: []) (by decide) rfl ?hk5x ?hf5x ?ho5x ?hv5x ?hr5x
    case ho5x =>
     refine ⟨.inr ⟨[], [], (by decide +kernel), (by decide +kernel), ⟨?_, .inl rfl⟩⟩, ?_⟩
     · refine .inr (.inr fun S hle hfr => ?_)
       exact .inl ⟨w0, st_move (hle.e rfl) (hle.d rfl)⟩
     refine ⟨.inr ⟨[], [], (by decide +kernel), (by decide +kernel), ⟨?_, .inl rfl⟩⟩, ?_⟩
     · refine .inr (.inr fun S hle hfr => ?_)
       exact .inl ⟨w0, st_move (hle.e rfl) (hle.d rfl)⟩
     refine ⟨.inr ⟨1 :: [], [], (by decide +kernel), (by decide +kernel), ⟨?_, .inl rfl⟩⟩, ?_⟩
     · refine .inr (.inr fun S hle hfr => ?_)
       exact .inl ⟨w0, ev_rem (hle.e rfl) (hle.e rfl) (hle.d rfl) (by decide) (Md.rem_u8 a1 (6 : UInt8))⟩
     refine ⟨.inr ⟨0 :: 2 :: 1 :: [], [], (by decide +kernel), (by decide +kernel), ⟨?_, .inl rfl⟩⟩, ?_⟩
     · refine .inr (.inr fun S hle hfr => ?_)
       exact .inl ⟨w0, ev_index_in (hle.e rfl) (hle.e rfl) rfl g18 rfl (hle.d rfl)⟩
     refine ⟨.inr ⟨3 :: 0 :: 2 :: 1 :: [], [], (by decide +kernel), (by decide +kernel), ⟨?_, .inl rfl⟩⟩, ?_⟩
     · refine .inr (.inr fun S hle hfr => ?_)
       exact .inl ⟨w0, ev_load_in (hle.e rfl) rfl (hle.d rfl)⟩
     refine ⟨.inr ⟨[], [], (by decide +kernel), (by decide +kernel), ⟨?_, ?_⟩⟩, ?_⟩
     · refine .inr (.inr fun S hle hfr => ?_)
       exact .inl ⟨w0, st_move (hle.e rfl) (hle.d rfl)⟩
     · refine .inr fun S hle hfr => ?_
       exact .inl ⟨w0, st_move (hle.e rfl) (hle.d rfl)⟩
     refine ⟨.inr ⟨[], [], (by decide +kernel), (by decide +kernel), ⟨?_, ?_⟩⟩, ?_⟩
     · refine .inr (.inr fun S hle hfr => ?_)
       exact .inl ⟨w0, st_move (hle.e rfl) (hle.d rfl)⟩
     · refine .inr fun S hle hfr => ?_
       exact .inl ⟨w0, st_move (hle.e rfl) (hle.d rfl)⟩
     refine ⟨.inr ⟨6 :: [], [], (by decide +kernel), (by decide +kernel), ⟨?_, ?_⟩⟩, ?_⟩
     · refine .inr (.inr fun S hle hfr => ?_)
       exact .inl ⟨w0, ev_rem (hle.e rfl) (hle.e rfl) (hle.d rfl) (by decide) (Md.rem_u8 a3 (6 : UInt8))⟩
     · refine .inr fun S hle hfr => ?_
       exact .inl ⟨w0, ev_rem (hle.e rfl) (hle.e rfl) (hle.d rfl) (by decide) (Md.rem_u8 a3 (6 : UInt8))⟩
     refine ⟨.inr ⟨5 :: 7 :: 6 :: [], [], (by decide +kernel), (by decide +kernel), ⟨?_, ?_⟩⟩, ?_⟩
     · refine .inr (.inr fun S hle hfr => ?_)
       exact .inl ⟨w0, ev_index_in (hle.e rfl) (hle.e rfl) rfl g19 rfl (hle.d rfl)⟩
     · refine .inr fun S hle hfr => ?_
       exact .inl ⟨w0, ev_index_in (hle.e rfl) (hle.e rfl) rfl g19 rfl (hle.d rfl)⟩
     refine ⟨.inr ⟨8 :: 5 :: 7 :: 6 :: [], [], (by decide +kernel), (by decide +kernel), ⟨?_, ?_⟩⟩, ?_⟩
     · refine .inr (.inr fun S hle hfr => ?_)
       exact .inl ⟨w0, ev_load_in (hle.e rfl) rfl (hle.d rfl)⟩
     · refine .inr fun S hle hfr => ?_
       exact .inl ⟨w0, ev_load_in (hle.e rfl) rfl (hle.d rfl)⟩
     refine ⟨.inr ⟨0 :: 1 :: 2 :: 3 :: 4 :: [], [], (by decide +kernel), (by decide +kernel), ⟨?_, .inl rfl⟩⟩, ?_⟩
     · refine .inr (.inr fun S hle hfr => ?_)
       exact .inl ⟨w0, ev_field (hle.e rfl) rfl (hle.d rfl)⟩
     refine ⟨.inl rfl, ?_⟩
     exact trivial
    case hv5x =>
     refine ⟨⟨rfl, rfl, (by decide +kernel), rfl, rfl, _, _, rfl, rfl, rfl, fun S hle => st_store (cs' := [_, _, _, _, _, _]) (hle.e rfl) (hle.heap _ _ rfl) (hle.e rfl) rfl rfl rfl rfl (hle.d rfl) rfl⟩, ?_⟩
     exact trivial
    case hk5x => rfl
    case hf5x => rfl
    refine s_fd ?_
    refine s_st [_, _, _, _, _, _] ?_
    refine aops_nil (aw_seq (aw_region (s_ls [_, _, _, _, _, _] ?_)))
    refine s_st [_, _, _, _, _, _] ?_
    refine aops_nil ?_
    cases Option.some.inj h
    exact aw_ret ⟨rfl, rv (rg [_, _, _, _, _, _])⟩
  replace h := Md.cond_f h c17
  refine aw_seq (aw_region (s_cm ?_))
  refine s_sa ?_
  refine aops_nil ?_
  refine aw_cond rfl (fun c20 => ?_) (fun c20 => ?_)
  · replace h := Md.cond_t h c20
    refine aw_region (s_mv ?_)
    refine aops_step1 rfl (ev_rem rfl rfl rfl (by decide) (Md.rem_u64 a5 (1000 : UInt64))) ?_
    refine aops_step1 rfl (st_conv_int rfl rfl Tryd.underlying37 Tryd.underlying3 (Md.wrap_W _)) (aops_step1 rfl (ev_add rfl rfl rfl (Md.wrap_W _)) (s_fd ?_))
    refine s_st [_, _, _, _, _, _] ?_
    refine aops_nil (aw_seq (aw_region (s_ls [_, _, _, _, _, _] ?_)))
    refine s_st [_, _, _, _, _, _] ?_
    refine aops_nil ?_
    cases Option.some.inj h
    exact aw_ret ⟨rfl, rv (rg [_, _, _, _, _, _])⟩
  replace h := Md.cond_f h c20
  refine aw_seq (aw_region (s_cm ?_))
  refine s_sa ?_
  refine aops_nil ?_
  refine aw_cond rfl (fun c21 => ?_) (fun c21 => ?_)
  · replace h := Md.cond_t h c21
    refine aw_region (s_mv ?_)
    refine aops_step1 rfl (ev_rem rfl rfl rfl (by decide) (Md.rem_u64 a5 (1099511627776 : UInt64))) ?_
    refine aops_step1 rfl (st_conv_int rfl rfl Tryd.underlying37 Tryd.underlying3 (Md.wrap_W _)) (aops_step1 rfl (ev_add rfl rfl rfl (Md.wrap_W _)) (s_fd ?_))
    refine s_st [_, _, _, _, _, _] ?_
    refine aops_nil (aw_seq (aw_region (s_ls [_, _, _, _, _, _] ?_)))
    refine s_st [_, _, _, _, _, _] ?_
    refine aops_nil ?_
    cases Option.some.inj h
    exact aw_ret ⟨rfl, rv (rg [_, _, _, _, _, _])⟩
  replace h := Md.cond_f h c21
  refine aw_seq (aw_region (s_cm ?_))
  refine s_sa ?_
  refine aops_nil ?_
  refine aw_cond rfl (fun c22 => ?_) (fun c22 => ?_)
  · replace h := Md.cond_t h c22
    refine aw_region (s_mv ?_)
    refine aops_step1 rfl (ev_rem rfl rfl rfl (by decide) (Md.rem_u64 a5 (101 : UInt64))) ?_
    refine aops_step1 rfl (st_conv_int rfl rfl Tryd.underlying37 Tryd.underlying3 (Md.wrap_W _)) (s_fd ?_)
    refine s_st [_, _, _, _, _, _] ?_
    refine aops_nil (aw_seq (aw_region (s_ls [_, _, _, _, _, _] ?_)))
    refine s_st [_, _, _, _, _, _] ?_
    refine aops_nil ?_
    cases Option.some.inj h
    exact aw_ret ⟨rfl, rv (rg [_, _, _, _, _, _])⟩
  replace h := Md.cond_f h c22
  refine aw_skip (aw_seq (aw_region (s_ls [_, _, _, _, _, _] ?_)))
  refine s_st [_, _, _, _, _, _] ?_
  refine aops_nil ?_
  cases Option.some.inj h
  exact aw_ret ⟨rfl, rv (rg [_, _, _, _, _, _])⟩
end Md
end Go.Proofs.YtjpiiejdaiaocaaDoor
