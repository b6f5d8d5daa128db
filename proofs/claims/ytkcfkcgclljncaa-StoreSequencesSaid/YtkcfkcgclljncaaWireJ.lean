/-
  WireJ: where a function's model gives a value, the function returns what reads as it (printed by wip/tools/auto.py). Condition of each: the model gives a value.
-/
import Derived.Test.YtkcfkcgclljncaaWireJM
import Derived.Test.YtkcfkcgclljncaaTy
import Derived.Test.YtkcfkcgclljncaaAbsS
import Derived.Test.YtkcfkcgclljncaaDisk
namespace Go.Proofs.Ytkcfkcgclljncaa
open Go.ChangeShapes Go.WideShapes Go.RowKit
open Abs
set_option linter.unusedVariables false
set_option linter.unusedSimpArgs false
set_option maxRecDepth 10000
namespace Md
set_option maxHeartbeats 2000000 in
theorem wire_extend_fn (k : Nat) (a0 : List UInt8) (a1 : Int) (r : (List UInt8)) (h : wire_extend k a0 a1 = some r) : FnC Try.prog 80 [.one (CV.ls byC a0), vI a1] [] (Det (.one (.own 0)) [(0, some (.row 5 1 r.length (lsEl byC r)))]) := by
  unfold wire_extend at h
  refine fn_intro' 17 Try.func80 rfl rfl rfl (aw_seq (aw_region (s_sa ?_)))
  refine aops_nil (aw_seq (aw_region (s_mv ?_)))
  refine s_ln ?_
  refine s_mv ?_
  refine s_ln ?_
  refine s_mv ?_
  refine aops_step1 rfl (ev_add rfl rfl rfl (Md.wrap_W _)) ?_
  obtain ⟨g1, h⟩ := Md.ifp_s h
  obtain ⟨g2, h⟩ := Md.ifp_s h
  obtain ⟨g3, h⟩ := Md.ifp_s h
  refine aops_step1 rfl (st_make (f := byC) 0 a0.length (((Md.W (((a0.length : Nat) : Int) + a1))).toNat) (0 : UInt8) rfl rfl (Md.ev_nn rfl g1) g3 g2 rfl rfl rfl (fun _ => rfl) (by decide) rfl) (s_sa ?_)
  refine aops_nil (aw_seq (aw_region ?_))
  iterate 2 refine s_mv ?_
  refine aops_step1 rfl (st_copy (f := byC) (List.replicate a0.length (0 : UInt8)) a0 (fun _ => rfl) rfl rfl (.inl rfl) rfl) (aops_nil (aw_seq (aw_region (s_mv ?_))))
  refine s_sa ?_
  refine aops_nil ?_
  cases Option.some.inj h
  refine aw_ret ⟨rfl, ret_r 0 r1 rfl rfl rfl ?_ ?_ ?_⟩
  · first | exact TLe.refl _ | (repeat' (first | exact .refl _ | exact .nil | refine .tup ?_ | refine .v ?_ | refine .cons ?_ ?_ | refine .agg ?_ | refine .one ?_ | exact .nil _ | exact .emp _ | refine .val ?_ | refine .slc ?_ ?_ | fail))
  · rfl
  · rfl
set_option maxHeartbeats 2000000 in
theorem wire_putUint_fn (k : Nat) (a0 : List UInt8) (a1 : UInt64) (r : (List UInt8)) (h : wire_putUint k a0 a1 = some r) : FnC Try.prog 79 [.one (.own 0), .one (.val (.int .u64 (a1.toNat : Int)))] [(0, some (.row 5 1 a0.length (lsEl byC a0)))] (Det (.one (.own 0)) [(0, some (.row 5 1 r.length (lsEl byC r)))]) := by
  unfold wire_putUint at h
  refine fn_intro' 20 Try.func79 rfl rfl rfl (aw_seq (aw_region (s_sa ?_)))
  refine aops_nil (aw_seq (aw_block ?_))
  obtain ⟨o1, ho1, h⟩ := Md.bind_s h
  refine aw_loop_x (ι := {p : Nat × UInt64 × (List UInt8) // wire_putUint_loop1 k p.1 p.2.1 p.2.2 = some o1}) (fun p => (⟨20, [], [(0, .one (.own 0)), (1, .one (.val (.int .u64 (p.1.2.1.toNat : Int))))], [(0, some (.row 5 1 p.1.2.2.length (lsEl byC p.1.2.2)))]⟩ : ASt)) (fun p => p.1.1) ⟨(k, a1, a0), ho1⟩ wk 0 (ε := (UInt64 × (List UInt8))) (fun x => (⟨20, [], [(0, .one (.own 0)), (1, .one (.val (.int .u64 (x.1.toNat : Int))))], [(0, some (.row 5 1 x.2.length (lsEl byC x.2)))]⟩ : ASt)) (fun x => x = o1) (fun _ _ w h => aw_weak w h) ?_ ?_
  · intro x1_0 hI1
    subst hI1
    change AW _ _ (⟨20, [], [(0, .one (.own 0)), (1, .one (.val (.int .u64 (x1_0.1.toNat : Int))))], [(0, some (.row 5 1 x1_0.2.length (lsEl byC x1_0.2)))]⟩ : ASt) _
    refine aw_seq (aw_region ?_)
    iterate 2 refine s_mv ?_
    refine aops_step1 rfl (st_conv_int rfl rfl Try.underlying109 Try.underlying5 (Md.conv_u64_u8 x1_0.1)) ?_
    refine aops_step1 rfl (st_slice_lit (el := lsEl byC [(x1_0.1.toUInt8)]) 1 rfl rfl rfl rfl rfl rfl rfl rfl (lit_el byC 1 [(x1_0.1.toUInt8)] (fun _ => rfl)) rfl) ?_
    obtain ⟨g2, h⟩ := Md.ifp_s h
    refine aops_step1 rfl (st_app_ls (f := byC) x1_0.2 [(x1_0.1.toUInt8)] (fun _ => rfl) rfl rfl (.inr ⟨_, _, rfl, rfl⟩) (by omega) (by omega) rfl) (s_sa ?_)
    refine aops_nil ?_
    cases Option.some.inj h
    refine aw_ret ⟨rfl, ret_r 0 r1 rfl rfl rfl ?_ ?_ ?_⟩
    · first | exact TLe.refl _ | (repeat' (first | exact .refl _ | exact .nil | refine .tup ?_ | refine .v ?_ | refine .cons ?_ ?_ | refine .agg ?_ | refine .one ?_ | exact .nil _ | exact .emp _ | refine .val ?_ | refine .slc ?_ ?_ | fail))
    · rfl
    · rfl
  intro p1
  obtain ⟨⟨n1, s1_0, s1_1⟩, l1⟩ := p1
  change AW _ _ (⟨20, [], [(0, .one (.own 0)), (1, .one (.val (.int .u64 (s1_0.toNat : Int))))], [(0, some (.row 5 1 s1_1.length (lsEl byC s1_1)))]⟩ : ASt) _
  replace l1 : wire_putUint_loop1 k n1 s1_0 s1_1 = some o1 := l1
  rcases n1 with _ | n1
  · exact absurd (show none = some o1 from l1) nofun
  rw [wire_putUint_loop1] at l1
  refine aw_seq (aw_seq (aw_region (s_mv ?_)))
  refine s_cm ?_
  refine aops_nil ?_
  refine aw_cond rfl (fun c3 => ?_) (fun c3 => ?_)
  · replace l1 := Md.cond_t l1 c3
    refine aw_skip (aw_block (aw_seq (aw_region ?_)))
    iterate 2 refine s_mv ?_
    refine aops_step1 rfl (st_conv_int rfl rfl Try.underlying109 Try.underlying5 (Md.conv_u64_u8 s1_0)) ?_
    refine aops_step1 rfl (ev_bits rfl rfl rfl rfl (Md.or_u8 (s1_0.toUInt8) (128 : UInt8))) ?_
    refine aops_step1 rfl (st_slice_lit (el := lsEl byC [((s1_0.toUInt8) ||| (128 : UInt8))]) 1 rfl rfl rfl rfl rfl rfl rfl rfl (lit_el byC 1 [((s1_0.toUInt8) ||| (128 : UInt8))] (fun _ => rfl)) rfl) ?_
    obtain ⟨g4, l1⟩ := Md.ifp_s l1
    refine aops_step1 rfl (st_app_ls (f := byC) s1_1 [((s1_0.toUInt8) ||| (128 : UInt8))] (fun _ => rfl) rfl rfl (.inr ⟨_, _, rfl, rfl⟩) (by omega) (by omega) rfl) (s_sa ?_)
    refine aops_nil (aw_region (s_mv ?_))
    refine aops_step1 rfl (ev_shr rfl rfl rfl (by decide) (Md.shr_u64 s1_0 (Md.nat_toNat 7))) (s_sa ?_)
    refine aops_nil ?_
    exact ⟨⟨(n1, (Md.shr64 s1_0 7), (s1_1 ++ [((s1_0.toUInt8) ||| (128 : UInt8))])), l1⟩, Nat.lt_succ_self _, wk⟩
  replace l1 := Md.cond_f l1 c3
  refine aw_exit ?_
  show ∃ _x : UInt64 × (List UInt8), _ = _ ∧ Weak _ _
  exact ⟨(s1_0, s1_1), Option.some.inj l1, wk⟩
set_option maxHeartbeats 2000000 in
theorem wire_AppendUint_fn (k : Nat) (a0 : List UInt8) (a1 : UInt64) (r : (List UInt8)) (h : wire_AppendUint k a0 a1 = some r) : FnC Try.prog 88 [.one (CV.ls byC a0), .one (.val (.int .u64 (a1.toNat : Int)))] [] (Det (.one (.own 0)) [(0, some (.row 5 1 r.length (lsEl byC r)))]) := by
  unfold wire_AppendUint at h
  refine fn_intro' 9 Try.func88 rfl rfl rfl (aw_seq (aw_region (s_sa ?_)))
  refine aops_nil (aw_seq (aw_region (s_mv ?_)))
  obtain ⟨x1, hx1, h⟩ := Md.bind_s h
  refine aops_step1 rfl (st_call_r (r' := .one (.own 0)) 0 rfl (wire_extend_fn k a0 10 x1 hx1) rfl [] ai rfl rfl rfl (.inl rfl) rfl rfl) (s_mv ?_)
  obtain ⟨x2, hx2, h⟩ := Md.bind_s h
  refine aops_step1 rfl (st_call_o (r' := .one (.own 0)) 0 rfl (wire_putUint_fn k x1 a1 x2 hx2) rfl [] ai rfl rfl rfl (.inl rfl) rfl rfl) (s_sa ?_)
  refine aops_nil ?_
  cases Option.some.inj h
  refine aw_ret ⟨rfl, ret_r 0 r1 rfl rfl rfl ?_ ?_ ?_⟩
  · first | exact TLe.refl _ | (repeat' (first | exact .refl _ | exact .nil | refine .tup ?_ | refine .v ?_ | refine .cons ?_ ?_ | refine .agg ?_ | refine .one ?_ | exact .nil _ | exact .emp _ | refine .val ?_ | refine .slc ?_ ?_ | fail))
  · rfl
  · rfl
set_option maxHeartbeats 2000000 in
theorem wire_Uint_fn (k : Nat) (a0 : List UInt8) (r : UInt64 × Int × Int) (h : wire_Uint k a0 = some r) : FnC Try.prog 91 [.one (CV.ls byC a0)] [] (Det (.tup [.one (.val (.int .u64 (r.1.toNat : Int))), vI r.2.1, vI r.2.2]) []) := by
  unfold wire_Uint at h
  refine fn_intro' 42 Try.func91 rfl rfl rfl (aw_seq (aw_region ?_))
  iterate 3 refine s_sa ?_
  refine aops_nil (aw_seq (aw_seq (aw_region (s_mv ?_))))
  refine s_ln ?_
  refine s_mv ?_
  refine aops_nil (aw_block ?_)
  obtain ⟨o1, ho1, h⟩ := Md.bind_s h
  refine aw_loop_x (ι := {p : Nat × UInt64 × Nat // wire_Uint_loop1 k a0 p.1 p.2.1 p.2.2 = some o1}) (fun p => (⟨42, [], [(2, .one (.val (.int .u64 (p.1.2.1.toNat : Int)))), (7, .one (CV.ls byC a0)), (8, vI ((a0.length : Nat) : Int)), (9, vI ((p.1.2.2 : Nat) : Int))], []⟩ : ASt)) (fun p => p.1.1) ⟨(k, (0 : UInt64), 0), ho1⟩ wk 0 (ε := Unit) (fun x => (⟨42, [], [], []⟩ : ASt)) (fun x => Sum.inl x = o1) (fun _ _ w h => aw_weak w h) ?_ ?_
  · intro x1_0 hI1
    subst hI1
    replace h := Md.onS_l h
    change AW _ _ (⟨42, [], [], []⟩ : ASt) _
    refine aw_seq (aw_region ?_)
    iterate 3 refine s_sa ?_
    refine aops_nil ?_
    cases Option.some.inj h
    exact aw_ret ⟨rfl, rv (rn (.cons o1 (.cons o1 (.cons o1 .nil))))⟩
  intro p1
  obtain ⟨⟨n1, s1_0, s1_1⟩, l1⟩ := p1
  change AW _ _ (⟨42, [], [(2, .one (.val (.int .u64 (s1_0.toNat : Int)))), (7, .one (CV.ls byC a0)), (8, vI ((a0.length : Nat) : Int)), (9, vI ((s1_1 : Nat) : Int))], []⟩ : ASt) _
  replace l1 : wire_Uint_loop1 k a0 n1 s1_0 s1_1 = some o1 := l1
  rcases n1 with _ | n1
  · exact absurd (show none = some o1 from l1) nofun
  rw [wire_Uint_loop1] at l1
  refine aw_seq (aw_region (s_cm ?_))
  refine aops_nil (aw_seq ?_)
  refine aw_cond rfl (fun c2 => ?_) (fun c2 => ?_)
  · replace l1 := Md.cond_t l1 c2
    refine aw_skip (aw_seq (aw_block (aw_seq (aw_region (s_mv ?_)))))
    obtain ⟨g3, l1⟩ := Md.ifp_s l1
    refine aops_step1 rfl (ev_index_in rfl rfl rfl g3 rfl rfl) (aops_step1 rfl (ev_load_in rfl rfl rfl) ?_)
    iterate 2 refine s_sa ?_
    refine aops_nil (aw_seq (aw_seq (aw_region (s_mv ?_))))
    refine s_cm ?_
    refine s_mv ?_
    refine aops_mid 3 (⟨42, [], [(2, .one (.val (.int .u64 (s1_0.toNat : Int)))), (5, vI ((s1_1 : Nat) : Int)), (6, .one (.val (.int .u8 (((a0.getD s1_1 default)).toNat : Int)))), (7, .one (CV.ls byC a0)), (8, vI ((a0.length : Nat) : Int)), (9, vI ((s1_1 : Nat) : Int)), (19, vB ((((s1_1 : Nat) : Int) == 9) && (decide ((((a0.getD s1_1 default)).toNat : Int) > 1))))], []⟩ : ASt) ?_ ?_
    · rcases Md.bool_or ((((s1_1 : Nat) : Int) == 9)) with q4 | q4
      · skip
        refine y_mv q4 ?_
        refine y_cm q4 ?_
        refine s_py q4 ?_
        refine aops_nil ?_
        exact wq q4
      iterate 2 refine np q4 ?_
      refine s_pn q4 ?_
      refine aops_nil ?_
      exact wq q4
    refine s_mv ?_
    refine aops_mid 7 (⟨42, [], [(2, .one (.val (.int .u64 (s1_0.toNat : Int)))), (5, vI ((s1_1 : Nat) : Int)), (6, .one (.val (.int .u8 (((a0.getD s1_1 default)).toNat : Int)))), (7, .one (CV.ls byC a0)), (8, vI ((a0.length : Nat) : Int)), (9, vI ((s1_1 : Nat) : Int)), (27, vB (((((s1_1 : Nat) : Int) == 9) && (decide ((((a0.getD s1_1 default)).toNat : Int) > 1))) || ((decide (((s1_1 : Nat) : Int) > 0)) && ((((a0.getD s1_1 default)).toNat : Int) == 0))))], []⟩ : ASt) ?_ ?_
    · rcases Md.bool_or (((((s1_1 : Nat) : Int) == 9) && (decide ((((a0.getD s1_1 default)).toNat : Int) > 1)))) with q5 | q5
      · skip
        iterate 3 refine np q5 ?_
        refine aops_und rfl rfl rfl rfl rfl (aops_und rfl rfl rfl rfl rfl (np q5 ?_))
        refine s_py q5 ?_
        refine aops_nil ?_
        exact wq q5
      refine y_mv q5 ?_
      refine y_cm q5 ?_
      refine y_mv q5 ?_
      refine aops_mid 3 (⟨42, [], [(2, .one (.val (.int .u64 (s1_0.toNat : Int)))), (5, vI ((s1_1 : Nat) : Int)), (6, .one (.val (.int .u8 (((a0.getD s1_1 default)).toNat : Int)))), (7, .one (CV.ls byC a0)), (8, vI ((a0.length : Nat) : Int)), (9, vI ((s1_1 : Nat) : Int)), (20, vB ((((s1_1 : Nat) : Int) == 9) && (decide ((((a0.getD s1_1 default)).toNat : Int) > 1)))), (26, vB ((decide (((s1_1 : Nat) : Int) > 0)) && ((((a0.getD s1_1 default)).toNat : Int) == 0)))], []⟩ : ASt) ?_ ?_
      · rcases Md.bool_or ((decide (((s1_1 : Nat) : Int) > 0))) with q6 | q6
        · skip
          refine y_mv q6 ?_
          refine y_cm q6 ?_
          refine aops_yes rfl rfl rfl rfl q5 (st_pick_yes rfl (by first | rfl | exact q6) rfl rfl) (aops_nil ?_)
          exact wq q6
        iterate 2 refine np q6 ?_
        refine aops_yes rfl rfl rfl rfl q5 (st_pick_no rfl (by first | rfl | exact q6) rfl rfl) (aops_nil ?_)
        exact wq q6
      change AOps _ _ _ (⟨42, [], [(2, .one (.val (.int .u64 (s1_0.toNat : Int)))), (5, vI ((s1_1 : Nat) : Int)), (6, .one (.val (.int .u8 (((a0.getD s1_1 default)).toNat : Int)))), (7, .one (CV.ls byC a0)), (8, vI ((a0.length : Nat) : Int)), (9, vI ((s1_1 : Nat) : Int)), (20, vB ((((s1_1 : Nat) : Int) == 9) && (decide ((((a0.getD s1_1 default)).toNat : Int) > 1)))), (26, vB ((decide (((s1_1 : Nat) : Int) > 0)) && ((((a0.getD s1_1 default)).toNat : Int) == 0)))], []⟩ : ASt) _
      refine s_pn q5 ?_
      refine aops_nil ?_
      exact wq q5
    refine aops_nil ?_
    refine aw_cond rfl (fun c7 => ?_) (fun c7 => ?_)
    · replace l1 := Md.cond_t l1 c7
      refine aw_seq (aw_region ?_)
      iterate 3 refine s_sa ?_
      refine aops_nil ?_
      cases Option.some.inj l1
      replace h := Md.onS_r h
      cases Option.some.inj h
      exact aw_ret ⟨rfl, rv (rn (.cons o1 (.cons o1 (.cons o1 .nil))))⟩
    replace l1 := Md.cond_f l1 c7
    refine aw_skip (aw_seq (aw_region ?_))
    iterate 2 refine s_mv ?_
    refine aops_step1 rfl (ev_bits rfl rfl rfl rfl (Md.and_u8 (a0.getD s1_1 default) (127 : UInt8))) ?_
    refine aops_step1 rfl (st_conv_int rfl rfl Try.underlying5 Try.underlying109 (Md.conv_u8_u64 ((a0.getD s1_1 default) &&& (127 : UInt8)))) (s_mv ?_)
    obtain ⟨g8, l1⟩ := Md.ifp_s l1
    refine aops_step1 rfl (ev_mul rfl rfl rfl (Md.nat_mul g8)) ?_
    refine aops_step1 rfl (ev_shl rfl rfl rfl (Md.nn _) (Md.shl_u64 (((a0.getD s1_1 default) &&& (127 : UInt8)).toUInt64) (Md.nat_toNat (7 * s1_1)))) ?_
    refine aops_step1 rfl (ev_bits rfl rfl rfl rfl (Md.or_u64 s1_0 (Md.shl64 (((a0.getD s1_1 default) &&& (127 : UInt8)).toUInt64) (7 * s1_1)))) (s_sa ?_)
    refine aops_nil (aw_seq (aw_region (s_mv ?_)))
    refine s_cm ?_
    refine aops_nil ?_
    refine aw_cond rfl (fun c9 => ?_) (fun c9 => ?_)
    · replace l1 := Md.cond_t l1 c9
      refine aw_seq (aw_region ?_)
      iterate 2 refine s_mv ?_
      obtain ⟨g10, l1⟩ := Md.ifp_s l1
      refine aops_step1 rfl (ev_add rfl rfl rfl (Md.nat_add g10)) ?_
      iterate 3 refine s_sa ?_
      refine aops_nil ?_
      cases Option.some.inj l1
      replace h := Md.onS_r h
      cases Option.some.inj h
      exact aw_ret ⟨rfl, rv (rn (.cons o1 (.cons o1 (.cons o1 .nil))))⟩
    replace l1 := Md.cond_f l1 c9
    refine aw_skip (aw_region ?_)
    obtain ⟨g11, l1⟩ := Md.ifp_s l1
    refine aops_step1 rfl (ev_add rfl rfl rfl (Md.nat_add g11)) (s_mv ?_)
    refine aops_nil ?_
    exact ⟨⟨(n1, (s1_0 ||| (Md.shl64 (((a0.getD s1_1 default) &&& (127 : UInt8)).toUInt64) (7 * s1_1))), (s1_1 + 1)), l1⟩, Nat.lt_succ_self _, wk⟩
  replace l1 := Md.cond_f l1 c2
  refine aw_exit ?_
  show ∃ _x : Unit, _ = _ ∧ Weak _ _
  exact ⟨(), Option.some.inj l1, wk⟩
set_option maxHeartbeats 2000000 in
theorem wire_length_fn (k : Nat) (a0 : List UInt8) (a1 : Int) (r : Int × Int × Int) (h : wire_length k a0 a1 = some r) : FnC Try.prog 86 [.one (CV.ls byC a0), vI a1] [] (Det (.tup [vI r.1, vI r.2.1, vI r.2.2]) []) := by
  unfold wire_length at h
  refine fn_intro' 26 Try.func86 rfl rfl rfl (aw_seq (aw_region ?_))
  iterate 3 refine s_sa ?_
  refine aops_nil (aw_seq (aw_seq (aw_region (s_mv ?_))))
  refine s_cm ?_
  refine aops_nil ?_
  refine aw_cond rfl (fun c1 => ?_) (fun c1 => ?_)
  · replace h := Md.cond_t h c1
    refine aw_seq (aw_region ?_)
    iterate 3 refine s_sa ?_
    refine aops_nil ?_
    cases Option.some.inj h
    exact aw_ret ⟨rfl, rv (rn (.cons o1 (.cons o1 (.cons o1 .nil))))⟩
  replace h := Md.cond_f h c1
  refine aw_skip (aw_seq (aw_region (s_mv ?_)))
  obtain ⟨x2, hx2, h⟩ := Md.bind_s h
  refine aops_step1 rfl (ev_call_v (wire_Uint_fn k a0 x2 hx2) rfl [] ai rfl rfl rfl (.inl rfl) rfl) (s_mt ?_)
  iterate 3 refine s_ex ?_
  iterate 3 refine s_sa ?_
  refine aops_nil (aw_seq (aw_seq (aw_region (s_mv ?_))))
  refine s_cm ?_
  refine aops_nil ?_
  refine aw_cond rfl (fun c3 => ?_) (fun c3 => ?_)
  · replace h := Md.cond_t h c3
    refine aw_seq (aw_region (s_mv ?_))
    iterate 3 refine s_sa ?_
    refine aops_nil ?_
    cases Option.some.inj h
    exact aw_ret ⟨rfl, rv (rn (.cons o1 (.cons o1 (.cons o1 .nil))))⟩
  replace h := Md.cond_f h c3
  refine aw_skip (aw_seq (aw_seq (aw_region ?_)))
  iterate 2 refine s_mv ?_
  refine aops_step1 rfl (st_conv_int rfl rfl Try.underlying3 Try.underlying109 (Md.ofInt_u64 a1)) (s_cm ?_)
  refine aops_nil ?_
  refine aw_cond rfl (fun c4 => ?_) (fun c4 => ?_)
  · replace h := Md.cond_t h c4
    refine aw_seq (aw_region ?_)
    iterate 3 refine s_sa ?_
    refine aops_nil ?_
    cases Option.some.inj h
    exact aw_ret ⟨rfl, rv (rn (.cons o1 (.cons o1 (.cons o1 .nil))))⟩
  replace h := Md.cond_f h c4
  refine aw_skip (aw_seq (aw_region (s_mv ?_)))
  refine aops_step1 rfl (st_conv_int rfl rfl Try.underlying109 Try.underlying3 (Md.wrap_W _)) (s_mv ?_)
  iterate 3 refine s_sa ?_
  refine aops_nil ?_
  cases Option.some.inj h
  exact aw_ret ⟨rfl, rv (rn (.cons o1 (.cons o1 (.cons o1 .nil))))⟩
set_option maxHeartbeats 2000000 in
theorem wire_Checksum_fn (k : Nat) (a0 : List UInt8) (r : UInt32) (h : wire_Checksum k a0 = some r) : FnC Try.prog 82 [.one (CV.ls byC a0)] [] (Det (.one (.val (.int .u32 (r.toNat : Int)))) []) := by
  unfold wire_Checksum at h
  refine fn_intro' 28 Try.func82 rfl rfl rfl (aw_seq (aw_region (s_sa ?_)))
  refine aops_nil (aw_seq (aw_region (s_sa ?_)))
  refine aops_nil (aw_seq (aw_seq (aw_region (s_mv ?_))))
  refine s_ln ?_
  refine s_mv ?_
  refine aops_nil (aw_block ?_)
  obtain ⟨o1, ho1, h⟩ := Md.bind_s h
  refine aw_loop_x (ι := {p : Nat × UInt32 × Nat // wire_Checksum_loop1 k a0 p.1 p.2.1 p.2.2 = some o1}) (fun p => (⟨28, [], [(3, .one (.val (.int .u32 (p.1.2.1.toNat : Int)))), (6, .one (CV.ls byC a0)), (7, vI ((a0.length : Nat) : Int)), (8, vI ((p.1.2.2 : Nat) : Int))], []⟩ : ASt)) (fun p => p.1.1) ⟨(k, (4294967295 : UInt32), 0), ho1⟩ wk 0 (ε := UInt32) (fun x => (⟨28, [], [(3, .one (.val (.int .u32 (x.toNat : Int))))], []⟩ : ASt)) (fun x => x = o1) (fun _ _ w h => aw_weak w h) ?_ ?_
  · intro x1_0 hI1
    subst hI1
    change AW _ _ (⟨28, [], [(3, .one (.val (.int .u32 (x1_0.toNat : Int))))], []⟩ : ASt) _
    refine aw_seq (aw_region (s_mv ?_))
    refine aops_step1 rfl (st_compl rfl rfl (Md.compl_u32 _)) (s_sa ?_)
    refine aops_nil ?_
    cases Option.some.inj h
    exact aw_ret ⟨rfl, rv r1⟩
  intro p1
  obtain ⟨⟨n1, s1_0, s1_1⟩, l1⟩ := p1
  change AW _ _ (⟨28, [], [(3, .one (.val (.int .u32 (s1_0.toNat : Int)))), (6, .one (CV.ls byC a0)), (7, vI ((a0.length : Nat) : Int)), (8, vI ((s1_1 : Nat) : Int))], []⟩ : ASt) _
  replace l1 : wire_Checksum_loop1 k a0 n1 s1_0 s1_1 = some o1 := l1
  rcases n1 with _ | n1
  · exact absurd (show none = some o1 from l1) nofun
  rw [wire_Checksum_loop1] at l1
  refine aw_seq (aw_region (s_cm ?_))
  refine aops_nil (aw_seq ?_)
  refine aw_cond rfl (fun c2 => ?_) (fun c2 => ?_)
  · replace l1 := Md.cond_t l1 c2
    refine aw_skip (aw_seq (aw_block (aw_seq (aw_region ?_))))
    obtain ⟨g3, l1⟩ := Md.ifp_s l1
    refine aops_step1 rfl (ev_index_in rfl rfl rfl g3 rfl rfl) (aops_step1 rfl (ev_load_in rfl rfl rfl) (s_sa ?_))
    refine aops_nil (aw_seq (aw_region ?_))
    iterate 2 refine s_mv ?_
    refine aops_step1 rfl (st_conv_int rfl rfl Try.underlying5 Try.underlying111 (Md.conv_u8_u32 (a0.getD s1_1 default))) ?_
    refine aops_step1 rfl (ev_bits rfl rfl rfl rfl (Md.xor_u32 s1_0 ((a0.getD s1_1 default).toUInt32))) (s_sa ?_)
    refine aops_nil (aw_seq (aw_region (s_mv ?_)))
    refine aops_nil (aw_block ?_)
    obtain ⟨o4, ho4, l1⟩ := Md.bind_s l1
    refine aw_loop_x (ι := {p : Nat × UInt32 × Nat // wire_Checksum_loop2 k p.1 p.2.1 p.2.2 = some o4}) (fun p => (⟨28, [], [(3, .one (.val (.int .u32 (p.1.2.1.toNat : Int)))), (6, .one (CV.ls byC a0)), (7, vI ((a0.length : Nat) : Int)), (8, vI ((s1_1 : Nat) : Int)), (16, vI ((p.1.2.2 : Nat) : Int))], []⟩ : ASt)) (fun p => p.1.1) ⟨(k, (s1_0 ^^^ ((a0.getD s1_1 default).toUInt32)), 0), ho4⟩ wk 2 (ε := UInt32) (fun x => (⟨28, [], [(3, .one (.val (.int .u32 (x.toNat : Int)))), (6, .one (CV.ls byC a0)), (7, vI ((a0.length : Nat) : Int)), (8, vI ((s1_1 : Nat) : Int))], []⟩ : ASt)) (fun x => x = o4) (fun _ _ w h => aw_weak w h) ?_ ?_
    · intro x4_0 hI4
      subst hI4
      change AW _ _ (⟨28, [], [(3, .one (.val (.int .u32 (x4_0.toNat : Int)))), (6, .one (CV.ls byC a0)), (7, vI ((a0.length : Nat) : Int)), (8, vI ((s1_1 : Nat) : Int))], []⟩ : ASt) _
      refine aw_region ?_
      obtain ⟨g5, l1⟩ := Md.ifp_s l1
      refine aops_step1 rfl (ev_add rfl rfl rfl (Md.nat_add g5)) (s_mv ?_)
      refine aops_nil ?_
      exact ⟨⟨(n1, x4_0, (s1_1 + 1)), l1⟩, Nat.lt_succ_self _, wk⟩
    intro p4
    obtain ⟨⟨n4, s4_0, s4_1⟩, l4⟩ := p4
    change AW _ _ (⟨28, [], [(3, .one (.val (.int .u32 (s4_0.toNat : Int)))), (6, .one (CV.ls byC a0)), (7, vI ((a0.length : Nat) : Int)), (8, vI ((s1_1 : Nat) : Int)), (16, vI ((s4_1 : Nat) : Int))], []⟩ : ASt) _
    replace l4 : wire_Checksum_loop2 k n4 s4_0 s4_1 = some o4 := l4
    rcases n4 with _ | n4
    · exact absurd (show none = some o4 from l4) nofun
    rw [wire_Checksum_loop2] at l4
    refine aw_seq (aw_region (s_cm ?_))
    refine aops_nil (aw_seq ?_)
    refine aw_cond rfl (fun c6 => ?_) (fun c6 => ?_)
    · replace l4 := Md.cond_t l4 c6
      refine aw_skip (aw_seq (aw_block (aw_region (s_mv ?_))))
      refine aops_step1 rfl (ev_shr rfl rfl rfl (by decide) (Md.shr_u32 s4_0 (Md.nat_toNat 1))) (s_mv ?_)
      refine aops_step1 rfl (ev_bits rfl rfl rfl rfl (Md.and_u32 s4_0 (1 : UInt32))) ?_
      refine aops_step1 rfl (ev_mul rfl rfl rfl (Md.mul_u32 (3988292384 : UInt32) (s4_0 &&& (1 : UInt32)))) ?_
      refine aops_step1 rfl (ev_bits rfl rfl rfl rfl (Md.xor_u32 (Md.shr32 s4_0 1) ((3988292384 : UInt32) * (s4_0 &&& (1 : UInt32))))) (s_sa ?_)
      refine aops_nil (aw_region ?_)
      obtain ⟨g7, l4⟩ := Md.ifp_s l4
      refine aops_step1 rfl (ev_add rfl rfl rfl (Md.nat_add g7)) (s_mv ?_)
      refine aops_nil ?_
      exact ⟨⟨(n4, ((Md.shr32 s4_0 1) ^^^ ((3988292384 : UInt32) * (s4_0 &&& (1 : UInt32)))), (s4_1 + 1)), l4⟩, Nat.lt_succ_self _, wk⟩
    replace l4 := Md.cond_f l4 c6
    refine aw_exit ?_
    show ∃ _x : UInt32, _ = _ ∧ Weak _ _
    exact ⟨s4_0, Option.some.inj l4, wk⟩
  replace l1 := Md.cond_f l1 c2
  refine aw_exit ?_
  show ∃ _x : UInt32, _ = _ ∧ Weak _ _
  exact ⟨s1_0, Option.some.inj l1, wk⟩
set_option maxHeartbeats 2000000 in
theorem wire_word_fn (k : Nat) (a0 : List UInt8) (a1 : UInt32) (r : (List UInt8)) (h : wire_word k a0 a1 = some r) : FnC Try.prog 81 [.one (.own 0), .one (.val (.int .u32 (a1.toNat : Int)))] [(0, some (.row 5 1 a0.length (lsEl byC a0)))] (Det (.one (.own 0)) [(0, some (.row 5 1 r.length (lsEl byC r)))]) := by
  unfold wire_word at h
  refine fn_intro' 19 Try.func81 rfl rfl rfl (aw_seq (aw_region (s_sa ?_)))
  refine aops_nil (aw_seq (aw_region ?_))
  iterate 2 refine s_mv ?_
  refine aops_step1 rfl (st_conv_int rfl rfl Try.underlying111 Try.underlying5 (Md.conv_u32_u8 a1)) (s_mv ?_)
  refine aops_step1 rfl (ev_shr rfl rfl rfl (by decide) (Md.shr_u32 a1 (Md.nat_toNat 8))) ?_
  refine aops_step1 rfl (st_conv_int rfl rfl Try.underlying111 Try.underlying5 (Md.conv_u32_u8 (Md.shr32 a1 8))) (s_mv ?_)
  refine aops_step1 rfl (ev_shr rfl rfl rfl (by decide) (Md.shr_u32 a1 (Md.nat_toNat 16))) ?_
  refine aops_step1 rfl (st_conv_int rfl rfl Try.underlying111 Try.underlying5 (Md.conv_u32_u8 (Md.shr32 a1 16))) (s_mv ?_)
  refine aops_step1 rfl (ev_shr rfl rfl rfl (by decide) (Md.shr_u32 a1 (Md.nat_toNat 24))) ?_
  refine aops_step1 rfl (st_conv_int rfl rfl Try.underlying111 Try.underlying5 (Md.conv_u32_u8 (Md.shr32 a1 24))) ?_
  refine aops_step1 rfl (st_slice_lit (el := lsEl byC [(a1.toUInt8), ((Md.shr32 a1 8).toUInt8), ((Md.shr32 a1 16).toUInt8), ((Md.shr32 a1 24).toUInt8)]) 1 rfl rfl rfl rfl rfl rfl rfl rfl (lit_el byC 1 [(a1.toUInt8), ((Md.shr32 a1 8).toUInt8), ((Md.shr32 a1 16).toUInt8), ((Md.shr32 a1 24).toUInt8)] (fun _ => rfl)) rfl) ?_
  obtain ⟨g1, h⟩ := Md.ifp_s h
  refine aops_step1 rfl (st_app_ls (f := byC) a0 [(a1.toUInt8), ((Md.shr32 a1 8).toUInt8), ((Md.shr32 a1 16).toUInt8), ((Md.shr32 a1 24).toUInt8)] (fun _ => rfl) rfl rfl (.inr ⟨_, _, rfl, rfl⟩) (by omega) (by omega) rfl) (s_sa ?_)
  refine aops_nil ?_
  cases Option.some.inj h
  refine aw_ret ⟨rfl, ret_r 0 r1 rfl rfl rfl ?_ ?_ ?_⟩
  · first | exact TLe.refl _ | (repeat' (first | exact .refl _ | exact .nil | refine .tup ?_ | refine .v ?_ | refine .cons ?_ ?_ | refine .agg ?_ | refine .one ?_ | exact .nil _ | exact .emp _ | refine .val ?_ | refine .slc ?_ ?_ | fail))
  · rfl
  · rfl
set_option maxHeartbeats 2000000 in
theorem wire_Seal_fn (k : Nat) (a0 : Int) (a1 : List UInt8) (r : (List UInt8) × Int) (h : wire_Seal k a0 a1 = some r) : FnC Try.prog 64 [vI a0, .one (CV.ls byC a1)] [] (Det (.tup [.one (CV.ls byC r.1), vI r.2]) []) := by
  unfold wire_Seal at h
  refine fn_intro' 36 Try.func64 rfl rfl rfl (aw_seq (aw_region ?_))
  iterate 2 refine s_sa ?_
  refine aops_nil (aw_seq (aw_seq (aw_region (s_mv ?_))))
  refine s_cm ?_
  refine s_mv ?_
  refine aops_mid 3 (⟨36, [], [(0, vI a0), (1, .one (CV.ls byC a1)), (12, vB ((decide (a0 < 1)) || (decide (a0 > 255))))], []⟩ : ASt) ?_ ?_
  · rcases Md.bool_or ((decide (a0 < 1))) with q1 | q1
    · skip
      iterate 2 refine np q1 ?_
      refine s_py q1 ?_
      refine aops_nil ?_
      exact wq q1
    refine y_mv q1 ?_
    refine y_cm q1 ?_
    refine s_pn q1 ?_
    refine aops_nil ?_
    exact wq q1
  refine s_mv ?_
  refine aops_mid 4 (⟨36, [], [(0, vI a0), (1, .one (CV.ls byC a1)), (17, vB (((decide (a0 < 1)) || (decide (a0 > 255))) || (decide (((a1.length : Nat) : Int) > 16777216))))], []⟩ : ASt) ?_ ?_
  · rcases Md.bool_or (((decide (a0 < 1)) || (decide (a0 > 255)))) with q2 | q2
    · skip
      iterate 3 refine np q2 ?_
      refine s_py q2 ?_
      refine aops_nil ?_
      exact wq q2
    refine y_mv q2 ?_
    refine y_ln q2 ?_
    refine y_cm q2 ?_
    refine s_pn q2 ?_
    refine aops_nil ?_
    exact wq q2
  refine aops_nil ?_
  refine aw_cond rfl (fun c3 => ?_) (fun c3 => ?_)
  · replace h := Md.cond_t h c3
    refine aw_seq (aw_region ?_)
    iterate 2 refine s_sa ?_
    refine aops_nil ?_
    cases Option.some.inj h
    exact aw_ret ⟨rfl, rv (rn (.cons o1 (.cons o1 .nil)))⟩
  replace h := Md.cond_f h c3
  refine aw_skip (aw_seq (aw_region (s_mv ?_)))
  refine aops_step1 rfl (st_conv_int rfl rfl Try.underlying3 Try.underlying5 (Md.ofInt_u8 a0)) ?_
  refine aops_step1 rfl (st_slice_lit (el := lsEl byC [(65 : UInt8), (71 : UInt8), (UInt8.ofInt a0)]) 0 rfl rfl rfl rfl rfl rfl rfl rfl (lit_el byC 1 [(65 : UInt8), (71 : UInt8), (UInt8.ofInt a0)] (fun _ => rfl)) rfl) (s_mv ?_)
  refine s_ln ?_
  obtain ⟨g4, h⟩ := Md.ifp_s h
  refine aops_step1 rfl (ev_add rfl rfl rfl (Md.nat_add g4)) ?_
  obtain ⟨x5, hx5, h⟩ := Md.bind_s h
  refine aops_step1 rfl (st_call_r (r' := .one (.own 1)) 1 rfl (wire_extend_fn k [(65 : UInt8), (71 : UInt8), (UInt8.ofInt a0)] (((a1.length + 8) : Nat) : Int) x5 hx5) rfl [0] ai rfl rfl rfl (.inr ⟨rfl, fun _ _ => rfl⟩) rfl rfl) (s_mv ?_)
  refine s_ln ?_
  refine aops_step1 rfl (st_conv_int rfl rfl Try.underlying3 Try.underlying109 (Md.ofNat_u64 a1.length)) ?_
  obtain ⟨x6, hx6, h⟩ := Md.bind_s h
  refine aops_step1 rfl (st_call_o (r' := .one (.own 1)) 1 rfl (wire_putUint_fn k x5 (UInt64.ofNat a1.length) x6 hx6) rfl [] ai rfl rfl rfl (.inl rfl) rfl rfl) (s_sa ?_)
  refine aops_nil (aw_seq (aw_region ?_))
  iterate 2 refine s_mv ?_
  obtain ⟨g7, h⟩ := Md.ifp_s h
  refine aops_step1 rfl (st_app_ls (f := byC) x6 a1 (fun _ => rfl) rfl rfl (.inl rfl) (by omega) (by omega) rfl) (s_sa ?_)
  refine aops_nil (aw_seq (aw_region ?_))
  iterate 2 refine s_mv ?_
  obtain ⟨x8, hx8, h⟩ := Md.bind_s h
  refine aops_step1 rfl (ev_call_v (wire_Checksum_fn k (x6 ++ a1) x8 hx8) rfl [1] ai rfl rfl rfl (.inr rfl) rfl) ?_
  obtain ⟨x9, hx9, h⟩ := Md.bind_s h
  refine aops_step1 rfl (st_call_o (r' := .one (.own 1)) 1 rfl (wire_word_fn k (x6 ++ a1) x8 x9 hx9) rfl [] ai rfl rfl rfl (.inl rfl) rfl rfl) ?_
  iterate 2 refine s_sa ?_
  refine aops_nil ?_
  cases Option.some.inj h
  refine aw_freeze 1 rfl ?_
  exact aw_ret ⟨rfl, rv (rn (.cons o1 (.cons o1 .nil)))⟩
set_option maxHeartbeats 2000000 in
theorem wire_Open_fn (k : Nat) (a0 : List UInt8) (r : Int × (List UInt8) × Int × Int) (h : wire_Open k a0 = some r) : FnC Try.prog 66 [.one (CV.ls byC a0)] [] (Det (.tup [vI r.1, .one (CV.ls byC r.2.1), vI r.2.2.1, vI r.2.2.2]) []) := by
  unfold wire_Open at h
  refine fn_intro' 77 Try.func66 rfl rfl rfl (aw_seq (aw_region ?_))
  iterate 4 refine s_sa ?_
  refine aops_nil (aw_seq (aw_block (aw_seq (aw_region (s_mv ?_)))))
  refine s_ln ?_
  refine s_cm ?_
  refine s_sa ?_
  refine aops_nil ?_
  refine aw_cond rfl (fun c1 => ?_) (fun c1 => ?_)
  · replace h := Md.cond_t h c1
    refine aw_seq (aw_region ?_)
    iterate 4 refine s_sa ?_
    refine aops_nil ?_
    cases Option.some.inj h
    exact aw_ret ⟨rfl, rv (rn (.cons o1 (.cons o1 (.cons o1 (.cons o1 .nil)))))⟩
  replace h := Md.cond_f h c1
  refine aw_seq (aw_region (s_mv ?_))
  obtain ⟨g2, h⟩ := Md.ifp_s h
  refine aops_step1 rfl (ev_index_in rfl rfl rfl g2 rfl rfl) (aops_step1 rfl (ev_load_in rfl rfl rfl) (s_cm ?_))
  refine s_mv ?_
  obtain ⟨o3, j3, h⟩ := Md.bind_s h
  refine aops_cut 5 (ε := Bool) (fun x3 => (⟨77, [], [(0, .one (CV.ls byC a0)), (24, vB x3)], []⟩ : ASt)) (fun x3 => x3 = o3) ?_ ?_
  · intro x3 hI3
    subst hI3
    change AOps _ _ _ (⟨77, [], [(0, .one (CV.ls byC a0)), (24, vB x3)], []⟩ : ASt) _
    refine s_mv ?_
    obtain ⟨o4, j4, h⟩ := Md.bind_s h
    refine aops_cut 5 (ε := Bool) (fun x4 => (⟨77, [], [(0, .one (CV.ls byC a0)), (30, vB x4)], []⟩ : ASt)) (fun x4 => x4 = o4) ?_ ?_
    · intro x4 hI4
      subst hI4
      change AOps _ _ _ (⟨77, [], [(0, .one (CV.ls byC a0)), (30, vB x4)], []⟩ : ASt) _
      refine s_sa ?_
      refine aops_nil ?_
      refine aw_cond rfl (fun c5 => ?_) (fun c5 => ?_)
      · replace h := Md.cond_t h c5
        refine aw_seq (aw_region ?_)
        iterate 4 refine s_sa ?_
        refine aops_nil ?_
        cases Option.some.inj h
        exact aw_ret ⟨rfl, rv (rn (.cons o1 (.cons o1 (.cons o1 (.cons o1 .nil)))))⟩
      replace h := Md.cond_f h c5
      refine aw_skip (aw_seq (aw_region (s_mv ?_)))
      obtain ⟨g6, h⟩ := Md.ifp_s h
      refine aops_step1 rfl (st_cut_lo (f := byC) (fun _ => rfl) rfl ⟨_, _, rfl, rfl⟩ g6 rfl) ?_
      obtain ⟨x7, hx7, h⟩ := Md.bind_s h
      refine aops_step1 rfl (ev_call_v (wire_length_fn k (a0.drop 3) 16777216 x7 hx7) rfl [] ai rfl rfl rfl (.inl rfl) rfl) (s_mt ?_)
      iterate 3 refine s_ex ?_
      iterate 3 refine s_sa ?_
      refine aops_nil (aw_seq (aw_seq (aw_region (s_mv ?_))))
      refine s_cm ?_
      refine aops_nil ?_
      refine aw_cond rfl (fun c8 => ?_) (fun c8 => ?_)
      · replace h := Md.cond_t h c8
        refine aw_seq (aw_region (s_mv ?_))
        iterate 4 refine s_sa ?_
        refine aops_nil ?_
        cases Option.some.inj h
        exact aw_ret ⟨rfl, rv (rn (.cons o1 (.cons o1 (.cons o1 (.cons o1 .nil)))))⟩
      replace h := Md.cond_f h c8
      refine aw_skip (aw_seq (aw_region (s_mv ?_)))
      refine aops_step1 rfl (ev_add rfl rfl rfl (Md.wrap_W _)) (s_sa ?_)
      refine aops_nil (aw_seq (aw_seq (aw_region (s_mv ?_))))
      refine s_ln ?_
      refine s_mv ?_
      refine aops_step1 rfl (ev_sub rfl rfl rfl (Md.wrap_W _)) (s_mv ?_)
      refine aops_step1 rfl (ev_add rfl rfl rfl (Md.wrap_W _)) (s_cm ?_)
      refine aops_nil ?_
      refine aw_cond rfl (fun c9 => ?_) (fun c9 => ?_)
      · replace h := Md.cond_t h c9
        refine aw_seq (aw_region ?_)
        iterate 4 refine s_sa ?_
        refine aops_nil ?_
        cases Option.some.inj h
        exact aw_ret ⟨rfl, rv (rn (.cons o1 (.cons o1 (.cons o1 (.cons o1 .nil)))))⟩
      replace h := Md.cond_f h c9
      refine aw_skip (aw_seq (aw_region ?_))
      iterate 2 refine s_mv ?_
      refine aops_step1 rfl (ev_add rfl rfl rfl (Md.wrap_W _)) (s_sa ?_)
      refine aops_nil (aw_seq ?_)
      obtain ⟨g10, h⟩ := Md.ifp_s h
      obtain ⟨g11, h⟩ := Md.ifp_s h
      obtain ⟨x12, hx12, h⟩ := Md.bind_s h
      obtain ⟨x13, hx13, h⟩ := Md.bind_s h
      obtain ⟨g14, h⟩ := Md.ifp_s h
      obtain ⟨g15, h⟩ := Md.ifp_s h
      obtain ⟨g16, h⟩ := Md.ifp_s h
      refine aw_seq ?_
      apply aw_draw 12 ((⟨[], .one (CV.ls byC a0)⟩ : Add) :: ⟨[], vI (Md.W ((Md.W (3 + x7.2.1)) + x7.1))⟩ :: ⟨[], .one (CV.ls byC (a0.take (((Md.W ((Md.W (3 + x7.2.1)) + x7.1))).toNat)))⟩ :: ⟨[], .one (.val (.int .u32 (x12.toNat : Int)))⟩ :: ⟨[], .one (CV.ls byC x13)⟩ :: ⟨[], .one (.val (Sv x13))⟩ :: ⟨[], .one (CV.ls byC a0)⟩ :: ⟨[], vI (Md.W ((Md.W (3 + x7.2.1)) + x7.1))⟩ :: ⟨[], vI (Md.W ((Md.W (3 + x7.2.1)) + x7.1))⟩ :: ⟨[], vI (Md.W ((Md.W ((Md.W (3 + x7.2.1)) + x7.1)) + 4))⟩ :: ⟨[], .one (CV.ls byC ((a0.drop (((Md.W ((Md.W (3 + x7.2.1)) + x7.1))).toNat)).take (((Md.W ((Md.W ((Md.W (3 + x7.2.1)) + x7.1)) + 4))).toNat - (((Md.W ((Md.W (3 + x7.2.1)) + x7.1))).toNat))))⟩ :: ⟨[], .one (.val (Sv ((a0.drop (((Md.W ((Md.W (3 + x7.2.1)) + x7.1))).toNat)).take (((Md.W ((Md.W ((Md.W (3 + x7.2.1)) + x7.1)) + 4))).toNat - (((Md.W ((Md.W (3 + x7.2.1)) + x7.1))).toNat)))))⟩ :: []) (by decide) rfl ?hk1x ?hf1x ?ho1x ?hr1x
      case ho1x =>
       refine ob [] (fun S hle hfr => .inl ⟨w0, st_move (hle.e rfl) (hle.d rfl)⟩) (ob [] (fun S hle hfr => .inl ⟨w0, st_move (hle.e rfl) (hle.d rfl)⟩) ?_)
       refine ob [0, 1] (fun S hle hfr => .inl ⟨w0, st_cut_hi (f := byC) (fun _ => rfl) (hle.e rfl) ⟨_, _, (hle.e rfl), (Md.nn_eq g10)⟩ g11 (hle.d rfl)⟩) ?_
       refine ob [2, 0, 1] (fun S hle hfr => .inl ⟨w0, ev_call_v (wire_Checksum_fn k (a0.take (((Md.W ((Md.W (3 + x7.2.1)) + x7.1))).toNat)) x12 hx12) (map_ev (.cons (hle.e rfl) (.nil))) [] (by repeat' (first | exact .nil | refine .cons ?_ ?_ | refine .one ?_ | refine .agg ?_ | exact .mk rfl | exact .lend (hle.heap _ _ rfl) (by simp) | exact .le (.nil _) rfl | exact .le (.emp _) rfl | exact .le (.any _) rfl | fail)) rfl rfl rfl (.inl rfl) (hle.d rfl)⟩) ?_
       refine ob [3, 2, 0, 1] (fun S hle hfr => .inl ⟨w0, st_call_z (fnc_nil (wire_word_fn k ([] : List UInt8) x12 x13 hx13) rfl) (map_ev (.cons (hle.e rfl) (.cons (hle.e rfl) (.nil)))) [] (fun _ => (by repeat' (first | exact .nil | refine .cons ?_ ?_ | refine .one ?_ | refine .agg ?_ | exact .mk rfl | exact .lend (hle.heap _ _ rfl) (by simp) | exact .le (.nil _) rfl | exact .le (.emp _) rfl | exact .le (.any _) rfl | fail))) rfl (.inl rfl) (hle.d rfl)⟩) ?_
       refine ob [4, 3, 2, 0, 1] (fun S hle hfr => .inl ⟨w0, ev_str_bytes (.inl (hle.e rfl)) Try.underlying24 Try.underlying5 Try.underlying9 (hle.d rfl)⟩) ?_
       iterate 3 refine ob [] (fun S hle hfr => .inl ⟨w0, st_move (hle.e rfl) (hle.d rfl)⟩) ?_
       refine ob [8] (fun S hle hfr => .inl ⟨w0, ev_add (hle.e rfl) (hle.e rfl) (hle.d rfl) (Md.wrap_W _)⟩) ?_
       refine ob [6, 7, 9, 8] (fun S hle hfr => .inl ⟨w0, st_cut_both (f := byC) (fun _ => rfl) (hle.e rfl) ⟨_, _, (hle.e rfl), (Md.nn_eq g14)⟩ ⟨_, _, (hle.e rfl), (Md.nn_eq g15)⟩ g16 (hle.d rfl)⟩) ?_
       refine ob [10, 6, 7, 9, 8] (fun S hle hfr => .inl ⟨w0, ev_str_bytes (.inl (hle.e rfl)) Try.underlying24 Try.underlying5 Try.underlying9 (hle.d rfl)⟩) ?_
       exact trivial
      case hk1x => rfl
      case hf1x => rfl
      refine aops_step1 rfl (st_str_ne rfl rfl rfl) (aops_nil ?_)
      refine aw_cond rfl (fun c17 => ?_) (fun c17 => ?_)
      · replace h := Md.cond_t h c17
        refine aw_seq (aw_region ?_)
        iterate 4 refine s_sa ?_
        refine aops_nil ?_
        cases Option.some.inj h
        exact aw_ret ⟨rfl, rv (rn (.cons o1 (.cons o1 (.cons o1 (.cons o1 .nil)))))⟩
      replace h := Md.cond_f h c17
      refine aw_skip ?_
      obtain ⟨g18, h⟩ := Md.ifp_s h
      obtain ⟨g19, h⟩ := Md.ifp_s h
      obtain ⟨g20, h⟩ := Md.ifp_s h
      obtain ⟨g21, h⟩ := Md.ifp_s h
      obtain ⟨x22, hx22, h⟩ := Md.bind_s h
      refine aw_seq ?_
      apply aw_draw 13 ((⟨[], .one (CV.ls byC a0)⟩ : Add) :: ⟨[], .one (.cptr _)⟩ :: ⟨[], .one (.val (.int .u8 (((a0.getD 2 default)).toNat : Int)))⟩ :: ⟨[], vI (((a0.getD 2 default).toNat : Nat) : Int)⟩ :: ⟨[], .one (CV.ls byC a0)⟩ :: ⟨[], vI (Md.W (3 + x7.2.1))⟩ :: ⟨[], vI (Md.W ((Md.W (3 + x7.2.1)) + x7.1))⟩ :: ⟨[], .one (CV.ls byC ((a0.drop (((Md.W (3 + x7.2.1))).toNat)).take (((Md.W ((Md.W (3 + x7.2.1)) + x7.1))).toNat - (((Md.W (3 + x7.2.1))).toNat))))⟩ :: ⟨[], .one (CV.ls byC x22)⟩ :: ⟨[], vI (Md.W ((Md.W (3 + x7.2.1)) + x7.1))⟩ :: ⟨[], vI (Md.W ((Md.W ((Md.W (3 + x7.2.1)) + x7.1)) + 4))⟩ :: ⟨[], vI (((a0.getD 2 default).toNat : Nat) : Int)⟩ :: ⟨[], .one (CV.ls byC x22)⟩ :: []) (by decide) rfl ?hk2x ?hf2x ?ho2x ?hr2x
      case ho2x =>
       refine ob [] (fun S hle hfr => .inl ⟨w0, st_move (hle.e rfl) (hle.d rfl)⟩) ?_
       refine ob [0] (fun S hle hfr => .inl ⟨w0, ev_index_in (hle.e rfl) (hle.e rfl) rfl g18 rfl (hle.d rfl)⟩) ?_
       refine ob [1, 0] (fun S hle hfr => .inl ⟨w0, ev_load_in (hle.e rfl) rfl (hle.d rfl)⟩) ?_
       refine ob [2, 1, 0] (fun S hle hfr => .inl ⟨w0, st_conv_int (hle.e rfl) (hle.d rfl) Try.underlying5 Try.underlying3 (Md.conv_u8_i64 (a0.getD 2 default))⟩) ?_
       iterate 3 refine ob [] (fun S hle hfr => .inl ⟨w0, st_move (hle.e rfl) (hle.d rfl)⟩) ?_
       refine ob [4, 5, 6] (fun S hle hfr => .inl ⟨w0, st_cut_both (f := byC) (fun _ => rfl) (hle.e rfl) ⟨_, _, (hle.e rfl), (Md.nn_eq g19)⟩ ⟨_, _, (hle.e rfl), (Md.nn_eq g20)⟩ g21 (hle.d rfl)⟩) ?_
       refine ob [7, 4, 5, 6] (fun S hle hfr => .inl ⟨w0, st_call_z (wire_extend_fn k ((a0.drop (((Md.W (3 + x7.2.1))).toNat)).take (((Md.W ((Md.W (3 + x7.2.1)) + x7.1))).toNat - (((Md.W (3 + x7.2.1))).toNat))) 0 x22 hx22) (map_ev (.cons (hle.e rfl) (.cons (hle.e rfl) (.nil)))) [] (fun _ => (by repeat' (first | exact .nil | refine .cons ?_ ?_ | refine .one ?_ | refine .agg ?_ | exact .mk rfl | exact .lend (hle.heap _ _ rfl) (by simp) | exact .le (.nil _) rfl | exact .le (.emp _) rfl | exact .le (.any _) rfl | fail))) rfl (.inl rfl) (hle.d rfl)⟩) ?_
       refine ob [] (fun S hle hfr => .inl ⟨w0, st_move (hle.e rfl) (hle.d rfl)⟩) ?_
       refine ob [9] (fun S hle hfr => .inl ⟨w0, ev_add (hle.e rfl) (hle.e rfl) (hle.d rfl) (Md.wrap_W _)⟩) ?_
       refine ob [3, 8, 0, 1, 2, 7, 4, 5, 6] (fun S hle hfr => .inl ⟨w0, st_assign (hle.e rfl) (hle.d rfl)⟩) ?_
       refine ob [8, 11, 0, 1, 2, 3, 4, 5, 6, 7] (fun S hle hfr => .inl ⟨w0, st_assign (hle.e rfl) (hle.d rfl)⟩) ?_
       exact trivial
      case hk2x => rfl
      case hf2x => rfl
      iterate 2 refine s_sa ?_
      refine aops_nil ?_
      cases Option.some.inj h
      exact aw_ret ⟨rfl, rv (rn (.cons o1 (.cons o1 (.cons o1 (.cons o1 .nil)))))⟩
    rcases Md.bool_or (x3) with q4 | q4
    · replace j4 := Md.cond_t j4 q4
      iterate 4 refine np q4 ?_
      refine s_py q4 ?_
      refine aops_nil ?_
      show ∃ _x : Bool, _ = _ ∧ Weak _ _
      exact ⟨true, Option.some.inj j4, wk⟩
    replace j4 := Md.cond_f j4 q4
    refine y_mv q4 ?_
    obtain ⟨g23, j4⟩ := Md.ifp_s j4
    refine aops_yes rfl rfl rfl rfl q4 (ev_index_in rfl rfl rfl g23 rfl rfl) (aops_yes rfl rfl rfl rfl q4 (ev_load_in rfl rfl rfl) (y_cm q4 ?_))
    refine s_pn q4 ?_
    refine aops_nil ?_
    show ∃ _x : Bool, _ = _ ∧ Weak _ _
    exact ⟨((((a0.getD 2 default)).toNat : Int) == 0), Option.some.inj j4, wk⟩
  rcases Md.bool_or (((((a0.getD 0 default)).toNat : Int) != 65)) with q3 | q3
  · replace j3 := Md.cond_t j3 q3
    iterate 4 refine np q3 ?_
    refine s_py q3 ?_
    refine aops_nil ?_
    show ∃ _x : Bool, _ = _ ∧ Weak _ _
    exact ⟨true, Option.some.inj j3, wk⟩
  replace j3 := Md.cond_f j3 q3
  refine y_mv q3 ?_
  obtain ⟨g24, j3⟩ := Md.ifp_s j3
  refine aops_yes rfl rfl rfl rfl q3 (ev_index_in rfl rfl rfl g24 rfl rfl) (aops_yes rfl rfl rfl rfl q3 (ev_load_in rfl rfl rfl) (y_cm q3 ?_))
  refine s_pn q3 ?_
  refine aops_nil ?_
  show ∃ _x : Bool, _ = _ ∧ Weak _ _
  exact ⟨((((a0.getD 1 default)).toNat : Int) != 71), Option.some.inj j3, wk⟩
set_option maxHeartbeats 2000000 in
theorem actorgridref1_Uint_fn (k : Nat) (a0 : UInt64) (r : (List UInt8)) (h : actorgridref1_Uint k a0 = some r) : FnC Try.prog 83 [.one (.val (.int .u64 (a0.toNat : Int)))] [] (Det (.one (.own 0)) [(0, some (.row 5 1 r.length (lsEl byC r)))]) := by
  unfold actorgridref1_Uint at h
  refine fn_intro' 20 Try.func83 rfl rfl rfl (aw_seq (aw_region (s_sa ?_)))
  refine aops_nil (aw_seq (aw_region (s_sa ?_)))
  refine aops_nil (aw_seq (aw_block (aw_own_nil 3 0 5 1 (lsEl byC []) rfl rfl ?_)))
  obtain ⟨o1, ho1, h⟩ := Md.bind_s h
  refine aw_loop_x (ι := {p : Nat × UInt64 × (List UInt8) // actorgridref1_Uint_loop1 k p.1 p.2.1 p.2.2 = some o1}) (fun p => (⟨20, [], [(0, .one (.val (.int .u64 (p.1.2.1.toNat : Int)))), (3, .one (.own 0))], [(0, some (.row 5 1 p.1.2.2.length (lsEl byC p.1.2.2)))]⟩ : ASt)) (fun p => p.1.1) ⟨(k, a0, ([] : List UInt8)), ho1⟩ wk 0 (ε := (UInt64 × (List UInt8))) (fun x => (⟨20, [], [(0, .one (.val (.int .u64 (x.1.toNat : Int)))), (3, .one (.own 0))], [(0, some (.row 5 1 x.2.length (lsEl byC x.2)))]⟩ : ASt)) (fun x => x = o1) (fun _ _ w h => aw_weak w h) ?_ ?_
  · intro x1_0 hI1
    subst hI1
    change AW _ _ (⟨20, [], [(0, .one (.val (.int .u64 (x1_0.1.toNat : Int)))), (3, .one (.own 0))], [(0, some (.row 5 1 x1_0.2.length (lsEl byC x1_0.2)))]⟩ : ASt) _
    refine aw_seq (aw_region ?_)
    iterate 2 refine s_mv ?_
    refine aops_step1 rfl (st_conv_int rfl rfl Try.underlying109 Try.underlying5 (Md.conv_u64_u8 x1_0.1)) ?_
    refine aops_step1 rfl (st_slice_lit (el := lsEl byC [(x1_0.1.toUInt8)]) 1 rfl rfl rfl rfl rfl rfl rfl rfl (lit_el byC 1 [(x1_0.1.toUInt8)] (fun _ => rfl)) rfl) ?_
    obtain ⟨g2, h⟩ := Md.ifp_s h
    refine aops_step1 rfl (st_app_ls (f := byC) x1_0.2 [(x1_0.1.toUInt8)] (fun _ => rfl) rfl rfl (.inr ⟨_, _, rfl, rfl⟩) (by omega) (by omega) rfl) (s_sa ?_)
    refine aops_nil ?_
    cases Option.some.inj h
    refine aw_ret ⟨rfl, ret_r 0 r1 rfl rfl rfl ?_ ?_ ?_⟩
    · first | exact TLe.refl _ | (repeat' (first | exact .refl _ | exact .nil | refine .tup ?_ | refine .v ?_ | refine .cons ?_ ?_ | refine .agg ?_ | refine .one ?_ | exact .nil _ | exact .emp _ | refine .val ?_ | refine .slc ?_ ?_ | fail))
    · rfl
    · rfl
  intro p1
  obtain ⟨⟨n1, s1_0, s1_1⟩, l1⟩ := p1
  change AW _ _ (⟨20, [], [(0, .one (.val (.int .u64 (s1_0.toNat : Int)))), (3, .one (.own 0))], [(0, some (.row 5 1 s1_1.length (lsEl byC s1_1)))]⟩ : ASt) _
  replace l1 : actorgridref1_Uint_loop1 k n1 s1_0 s1_1 = some o1 := l1
  rcases n1 with _ | n1
  · exact absurd (show none = some o1 from l1) nofun
  rw [actorgridref1_Uint_loop1] at l1
  refine aw_seq (aw_seq (aw_region (s_mv ?_)))
  refine s_cm ?_
  refine aops_nil ?_
  refine aw_cond rfl (fun c3 => ?_) (fun c3 => ?_)
  · replace l1 := Md.cond_t l1 c3
    refine aw_skip (aw_block (aw_seq (aw_region ?_)))
    iterate 2 refine s_mv ?_
    refine aops_step1 rfl (ev_rem rfl rfl rfl (by decide) (Md.rem_u64 s1_0 (128 : UInt64))) ?_
    refine aops_step1 rfl (st_conv_int rfl rfl Try.underlying109 Try.underlying5 (Md.conv_u64_u8 (s1_0 % (128 : UInt64)))) ?_
    refine aops_step1 rfl (ev_add rfl rfl rfl (Md.add_u8 ((s1_0 % (128 : UInt64)).toUInt8) (128 : UInt8))) ?_
    refine aops_step1 rfl (st_slice_lit (el := lsEl byC [(((s1_0 % (128 : UInt64)).toUInt8) + (128 : UInt8))]) 1 rfl rfl rfl rfl rfl rfl rfl rfl (lit_el byC 1 [(((s1_0 % (128 : UInt64)).toUInt8) + (128 : UInt8))] (fun _ => rfl)) rfl) ?_
    obtain ⟨g4, l1⟩ := Md.ifp_s l1
    refine aops_step1 rfl (st_app_ls (f := byC) s1_1 [(((s1_0 % (128 : UInt64)).toUInt8) + (128 : UInt8))] (fun _ => rfl) rfl rfl (.inr ⟨_, _, rfl, rfl⟩) (by omega) (by omega) rfl) (s_sa ?_)
    refine aops_nil (aw_region (s_mv ?_))
    refine aops_step1 rfl (ev_quo rfl rfl rfl (by decide) (Md.quo_u64 s1_0 (128 : UInt64))) (s_sa ?_)
    refine aops_nil ?_
    exact ⟨⟨(n1, (s1_0 / (128 : UInt64)), (s1_1 ++ [(((s1_0 % (128 : UInt64)).toUInt8) + (128 : UInt8))])), l1⟩, Nat.lt_succ_self _, wk⟩
  replace l1 := Md.cond_f l1 c3
  refine aw_exit ?_
  show ∃ _x : UInt64 × (List UInt8), _ = _ ∧ Weak _ _
  exact ⟨(s1_0, s1_1), Option.some.inj l1, wk⟩
set_option maxHeartbeats 2000000 in
theorem actorgridref1_ReadUint_fn (k : Nat) (a0 : List UInt8) (r : UInt64 × Int × Int) (h : actorgridref1_ReadUint k a0 = some r) : FnC Try.prog 87 [.one (CV.ls byC a0)] [] (Det (.tup [.one (.val (.int .u64 (r.1.toNat : Int))), vI r.2.1, vI r.2.2]) []) := by
  unfold actorgridref1_ReadUint at h
  refine fn_intro' 46 Try.func87 rfl rfl rfl (aw_seq (aw_region ?_))
  iterate 3 refine s_sa ?_
  refine aops_nil (aw_seq (aw_region (s_sa ?_)))
  refine aops_nil (aw_seq (aw_region (s_sa ?_)))
  refine aops_nil (aw_block ?_)
  obtain ⟨o1, ho1, h⟩ := Md.bind_s h
  refine aw_loop (ι := {p : Nat × UInt64 × Nat // actorgridref1_ReadUint_loop1 k a0 p.1 p.2.1 p.2.2 = some o1}) (fun p => (⟨46, [], [(0, .one (CV.ls byC a0)), (5, .one (.val (.int .u64 (p.1.2.1.toNat : Int)))), (6, vI ((p.1.2.2 : Nat) : Int))], []⟩ : ASt)) (fun p => p.1.1) ⟨(k, (0 : UInt64), 0), ho1⟩ wk ?_
  intro p1
  obtain ⟨⟨n1, s1_0, s1_1⟩, l1⟩ := p1
  change AW _ _ (⟨46, [], [(0, .one (CV.ls byC a0)), (5, .one (.val (.int .u64 (s1_0.toNat : Int)))), (6, vI ((s1_1 : Nat) : Int))], []⟩ : ASt) _
  replace l1 : actorgridref1_ReadUint_loop1 k a0 n1 s1_0 s1_1 = some o1 := l1
  rcases n1 with _ | n1
  · exact absurd (show none = some o1 from l1) nofun
  rw [actorgridref1_ReadUint_loop1] at l1
  refine aw_seq (aw_block (aw_seq (aw_seq (aw_region ?_))))
  iterate 2 refine s_mv ?_
  refine s_ln ?_
  refine s_cm ?_
  refine aops_nil ?_
  refine aw_cond rfl (fun c2 => ?_) (fun c2 => ?_)
  · replace l1 := Md.cond_t l1 c2
    refine aw_seq (aw_region ?_)
    iterate 3 refine s_sa ?_
    refine aops_nil ?_
    cases Option.some.inj l1
    cases Option.some.inj h
    exact aw_ret ⟨rfl, rv (rn (.cons o1 (.cons o1 (.cons o1 .nil))))⟩
  replace l1 := Md.cond_f l1 c2
  refine aw_skip (aw_seq (aw_region ?_))
  iterate 2 refine s_mv ?_
  obtain ⟨g3, l1⟩ := Md.ifp_s l1
  refine aops_step1 rfl (ev_index_in rfl rfl rfl g3 rfl rfl) (aops_step1 rfl (ev_load_in rfl rfl rfl) (s_sa ?_))
  refine aops_nil (aw_seq (aw_seq (aw_region (s_mv ?_))))
  refine s_cm ?_
  refine s_mv ?_
  refine aops_mid 3 (⟨46, [], [(0, .one (CV.ls byC a0)), (5, .one (.val (.int .u64 (s1_0.toNat : Int)))), (6, vI ((s1_1 : Nat) : Int)), (7, .one (.val (.int .u8 (((a0.getD s1_1 default)).toNat : Int)))), (23, vB ((((s1_1 : Nat) : Int) == 9) && (decide ((((a0.getD s1_1 default)).toNat : Int) > 1))))], []⟩ : ASt) ?_ ?_
  · rcases Md.bool_or ((((s1_1 : Nat) : Int) == 9)) with q4 | q4
    · skip
      refine y_mv q4 ?_
      refine y_cm q4 ?_
      refine s_py q4 ?_
      refine aops_nil ?_
      exact wq q4
    iterate 2 refine np q4 ?_
    refine s_pn q4 ?_
    refine aops_nil ?_
    exact wq q4
  refine s_mv ?_
  refine aops_mid 7 (⟨46, [], [(0, .one (CV.ls byC a0)), (5, .one (.val (.int .u64 (s1_0.toNat : Int)))), (6, vI ((s1_1 : Nat) : Int)), (7, .one (.val (.int .u8 (((a0.getD s1_1 default)).toNat : Int)))), (31, vB (((((s1_1 : Nat) : Int) == 9) && (decide ((((a0.getD s1_1 default)).toNat : Int) > 1))) || ((decide (((s1_1 : Nat) : Int) > 0)) && ((((a0.getD s1_1 default)).toNat : Int) == 0))))], []⟩ : ASt) ?_ ?_
  · rcases Md.bool_or (((((s1_1 : Nat) : Int) == 9) && (decide ((((a0.getD s1_1 default)).toNat : Int) > 1)))) with q5 | q5
    · skip
      iterate 3 refine np q5 ?_
      refine aops_und rfl rfl rfl rfl rfl (aops_und rfl rfl rfl rfl rfl (np q5 ?_))
      refine s_py q5 ?_
      refine aops_nil ?_
      exact wq q5
    refine y_mv q5 ?_
    refine y_cm q5 ?_
    refine y_mv q5 ?_
    refine aops_mid 3 (⟨46, [], [(0, .one (CV.ls byC a0)), (5, .one (.val (.int .u64 (s1_0.toNat : Int)))), (6, vI ((s1_1 : Nat) : Int)), (7, .one (.val (.int .u8 (((a0.getD s1_1 default)).toNat : Int)))), (24, vB ((((s1_1 : Nat) : Int) == 9) && (decide ((((a0.getD s1_1 default)).toNat : Int) > 1)))), (30, vB ((decide (((s1_1 : Nat) : Int) > 0)) && ((((a0.getD s1_1 default)).toNat : Int) == 0)))], []⟩ : ASt) ?_ ?_
    · rcases Md.bool_or ((decide (((s1_1 : Nat) : Int) > 0))) with q6 | q6
      · skip
        refine y_mv q6 ?_
        refine y_cm q6 ?_
        refine aops_yes rfl rfl rfl rfl q5 (st_pick_yes rfl (by first | rfl | exact q6) rfl rfl) (aops_nil ?_)
        exact wq q6
      iterate 2 refine np q6 ?_
      refine aops_yes rfl rfl rfl rfl q5 (st_pick_no rfl (by first | rfl | exact q6) rfl rfl) (aops_nil ?_)
      exact wq q6
    change AOps _ _ _ (⟨46, [], [(0, .one (CV.ls byC a0)), (5, .one (.val (.int .u64 (s1_0.toNat : Int)))), (6, vI ((s1_1 : Nat) : Int)), (7, .one (.val (.int .u8 (((a0.getD s1_1 default)).toNat : Int)))), (24, vB ((((s1_1 : Nat) : Int) == 9) && (decide ((((a0.getD s1_1 default)).toNat : Int) > 1)))), (30, vB ((decide (((s1_1 : Nat) : Int) > 0)) && ((((a0.getD s1_1 default)).toNat : Int) == 0)))], []⟩ : ASt) _
    refine s_pn q5 ?_
    refine aops_nil ?_
    exact wq q5
  refine aops_nil ?_
  refine aw_cond rfl (fun c7 => ?_) (fun c7 => ?_)
  · replace l1 := Md.cond_t l1 c7
    refine aw_seq (aw_region ?_)
    iterate 3 refine s_sa ?_
    refine aops_nil ?_
    cases Option.some.inj l1
    cases Option.some.inj h
    exact aw_ret ⟨rfl, rv (rn (.cons o1 (.cons o1 (.cons o1 .nil))))⟩
  replace l1 := Md.cond_f l1 c7
  refine aw_skip (aw_seq (aw_region ?_))
  iterate 2 refine s_mv ?_
  refine aops_step1 rfl (ev_rem rfl rfl rfl (by decide) (Md.rem_u8 (a0.getD s1_1 default) (128 : UInt8))) ?_
  refine aops_step1 rfl (st_conv_int rfl rfl Try.underlying5 Try.underlying109 (Md.conv_u8_u64 ((a0.getD s1_1 default) % (128 : UInt8)))) (s_mv ?_)
  obtain ⟨g8, l1⟩ := Md.ifp_s l1
  refine aops_step1 rfl (ev_mul rfl rfl rfl (Md.nat_mul g8)) (aops_step1 rfl (st_conv_int rfl rfl Try.underlying3 Try.underlying121 (Md.ofNat_u64 (7 * s1_1))) ?_)
  refine aops_step1 rfl (ev_shl rfl rfl rfl (Md.nn _) (Md.shl_u64 (((a0.getD s1_1 default) % (128 : UInt8)).toUInt64) (Md.nat_toNat ((UInt64.ofNat (7 * s1_1)).toNat)))) ?_
  refine aops_step1 rfl (ev_bits rfl rfl rfl rfl (Md.or_u64 s1_0 (Md.shl64 (((a0.getD s1_1 default) % (128 : UInt8)).toUInt64) ((UInt64.ofNat (7 * s1_1)).toNat)))) (s_sa ?_)
  refine aops_nil (aw_seq (aw_region (s_mv ?_)))
  refine s_cm ?_
  refine aops_nil ?_
  refine aw_cond rfl (fun c9 => ?_) (fun c9 => ?_)
  · replace l1 := Md.cond_t l1 c9
    refine aw_seq (aw_region ?_)
    iterate 2 refine s_mv ?_
    obtain ⟨g10, l1⟩ := Md.ifp_s l1
    refine aops_step1 rfl (ev_add rfl rfl rfl (Md.nat_add g10)) ?_
    iterate 3 refine s_sa ?_
    refine aops_nil ?_
    cases Option.some.inj l1
    cases Option.some.inj h
    exact aw_ret ⟨rfl, rv (rn (.cons o1 (.cons o1 (.cons o1 .nil))))⟩
  replace l1 := Md.cond_f l1 c9
  refine aw_skip (aw_region (s_mv ?_))
  obtain ⟨g11, l1⟩ := Md.ifp_s l1
  refine aops_step1 rfl (ev_add rfl rfl rfl (Md.nat_add g11)) (s_sa ?_)
  refine aops_nil ?_
  exact ⟨⟨(n1, (s1_0 ||| (Md.shl64 (((a0.getD s1_1 default) % (128 : UInt8)).toUInt64) ((UInt64.ofNat (7 * s1_1)).toNat))), (s1_1 + 1)), l1⟩, Nat.lt_succ_self _, wk⟩
set_option maxHeartbeats 2000000 in
theorem actorgridref1_Checksum_fn (k : Nat) (a0 : List UInt8) (r : UInt32) (h : actorgridref1_Checksum k a0 = some r) : FnC Try.prog 85 [.one (CV.ls byC a0)] [] (Det (.one (.val (.int .u32 (r.toNat : Int)))) []) := by
  unfold actorgridref1_Checksum at h
  refine fn_intro' 34 Try.func85 rfl rfl rfl (aw_seq (aw_region (s_sa ?_)))
  refine aops_nil (aw_seq (aw_region (s_sa ?_)))
  refine aops_nil (aw_seq (aw_seq (aw_region (s_sa ?_))))
  refine aops_nil (aw_block ?_)
  obtain ⟨o1, ho1, h⟩ := Md.bind_s h
  refine aw_loop_x (ι := {p : Nat × UInt32 × Nat // actorgridref1_Checksum_loop1 k a0 p.1 p.2.1 p.2.2 = some o1}) (fun p => (⟨34, [], [(0, .one (CV.ls byC a0)), (3, .one (.val (.int .u32 (p.1.2.1.toNat : Int)))), (4, vI ((p.1.2.2 : Nat) : Int))], []⟩ : ASt)) (fun p => p.1.1) ⟨(k, (4294967295 : UInt32), 0), ho1⟩ wk 0 (ε := UInt32) (fun x => (⟨34, [], [(3, .one (.val (.int .u32 (x.toNat : Int))))], []⟩ : ASt)) (fun x => x = o1) (fun _ _ w h => aw_weak w h) ?_ ?_
  · intro x1_0 hI1
    subst hI1
    change AW _ _ (⟨34, [], [(3, .one (.val (.int .u32 (x1_0.toNat : Int))))], []⟩ : ASt) _
    refine aw_seq (aw_region (s_mv ?_))
    refine aops_step1 rfl (st_compl rfl rfl (Md.compl_u32 _)) (s_sa ?_)
    refine aops_nil ?_
    cases Option.some.inj h
    exact aw_ret ⟨rfl, rv r1⟩
  intro p1
  obtain ⟨⟨n1, s1_0, s1_1⟩, l1⟩ := p1
  change AW _ _ (⟨34, [], [(0, .one (CV.ls byC a0)), (3, .one (.val (.int .u32 (s1_0.toNat : Int)))), (4, vI ((s1_1 : Nat) : Int))], []⟩ : ASt) _
  replace l1 : actorgridref1_Checksum_loop1 k a0 n1 s1_0 s1_1 = some o1 := l1
  rcases n1 with _ | n1
  · exact absurd (show none = some o1 from l1) nofun
  rw [actorgridref1_Checksum_loop1] at l1
  refine aw_seq (aw_seq (aw_region ?_))
  iterate 2 refine s_mv ?_
  refine s_ln ?_
  refine s_cm ?_
  refine aops_nil ?_
  refine aw_cond rfl (fun c2 => ?_) (fun c2 => ?_)
  · replace l1 := Md.cond_t l1 c2
    refine aw_skip (aw_seq (aw_block (aw_seq (aw_region ?_))))
    iterate 3 refine s_mv ?_
    obtain ⟨g3, l1⟩ := Md.ifp_s l1
    refine aops_step1 rfl (ev_index_in rfl rfl rfl g3 rfl rfl) (aops_step1 rfl (ev_load_in rfl rfl rfl) ?_)
    refine aops_step1 rfl (st_conv_int rfl rfl Try.underlying5 Try.underlying111 (Md.conv_u8_u32 (a0.getD s1_1 default))) ?_
    refine aops_step1 rfl (ev_bits rfl rfl rfl rfl (Md.xor_u32 s1_0 ((a0.getD s1_1 default).toUInt32))) (s_sa ?_)
    refine aops_nil (aw_seq (aw_region (s_sa ?_)))
    refine aops_nil (aw_block ?_)
    obtain ⟨o4, ho4, l1⟩ := Md.bind_s l1
    refine aw_loop_x (ι := {p : Nat × UInt32 × Nat // actorgridref1_Checksum_loop2 k p.1 p.2.1 p.2.2 = some o4}) (fun p => (⟨34, [], [(0, .one (CV.ls byC a0)), (3, .one (.val (.int .u32 (p.1.2.1.toNat : Int)))), (4, vI ((s1_1 : Nat) : Int)), (5, vI ((p.1.2.2 : Nat) : Int))], []⟩ : ASt)) (fun p => p.1.1) ⟨(k, (s1_0 ^^^ ((a0.getD s1_1 default).toUInt32)), 0), ho4⟩ wk 2 (ε := UInt32) (fun x => (⟨34, [], [(0, .one (CV.ls byC a0)), (3, .one (.val (.int .u32 (x.toNat : Int)))), (4, vI ((s1_1 : Nat) : Int))], []⟩ : ASt)) (fun x => x = o4) (fun _ _ w h => aw_weak w h) ?_ ?_
    · intro x4_0 hI4
      subst hI4
      change AW _ _ (⟨34, [], [(0, .one (CV.ls byC a0)), (3, .one (.val (.int .u32 (x4_0.toNat : Int)))), (4, vI ((s1_1 : Nat) : Int))], []⟩ : ASt) _
      refine aw_region (s_mv ?_)
      obtain ⟨g5, l1⟩ := Md.ifp_s l1
      refine aops_step1 rfl (ev_add rfl rfl rfl (Md.nat_add g5)) (s_sa ?_)
      refine aops_nil ?_
      exact ⟨⟨(n1, x4_0, (s1_1 + 1)), l1⟩, Nat.lt_succ_self _, wk⟩
    intro p4
    obtain ⟨⟨n4, s4_0, s4_1⟩, l4⟩ := p4
    change AW _ _ (⟨34, [], [(0, .one (CV.ls byC a0)), (3, .one (.val (.int .u32 (s4_0.toNat : Int)))), (4, vI ((s1_1 : Nat) : Int)), (5, vI ((s4_1 : Nat) : Int))], []⟩ : ASt) _
    replace l4 : actorgridref1_Checksum_loop2 k n4 s4_0 s4_1 = some o4 := l4
    rcases n4 with _ | n4
    · exact absurd (show none = some o4 from l4) nofun
    rw [actorgridref1_Checksum_loop2] at l4
    refine aw_seq (aw_seq (aw_region (s_mv ?_)))
    refine s_cm ?_
    refine aops_nil ?_
    refine aw_cond rfl (fun c6 => ?_) (fun c6 => ?_)
    · replace l4 := Md.cond_t l4 c6
      refine aw_skip ?_
      obtain ⟨o7, j7, l4⟩ := Md.bind_s l4
      refine aw_cut (ε := UInt32) (fun x => (⟨34, [], [(0, .one (CV.ls byC a0)), (3, .one (.val (.int .u32 (x.toNat : Int)))), (4, vI ((s1_1 : Nat) : Int)), (5, vI ((s4_1 : Nat) : Int))], []⟩ : ASt)) (fun x => x = o7) ?_ ?_
      · intro x7_0 hI7
        subst hI7
        change AW _ _ (⟨34, [], [(0, .one (CV.ls byC a0)), (3, .one (.val (.int .u32 (x7_0.toNat : Int)))), (4, vI ((s1_1 : Nat) : Int)), (5, vI ((s4_1 : Nat) : Int))], []⟩ : ASt) _
        refine aw_region (s_mv ?_)
        obtain ⟨g8, l4⟩ := Md.ifp_s l4
        refine aops_step1 rfl (ev_add rfl rfl rfl (Md.nat_add g8)) (s_sa ?_)
        refine aops_nil ?_
        exact ⟨⟨(n4, x7_0, (s4_1 + 1)), l4⟩, Nat.lt_succ_self _, wk⟩
      refine aw_block (aw_seq (aw_region (s_mv ?_)))
      refine aops_step1 rfl (ev_bits rfl rfl rfl rfl (Md.and_u32 s4_0 (1 : UInt32))) (s_sa ?_)
      refine aops_nil (aw_seq (aw_region (s_mv ?_)))
      refine aops_step1 rfl (ev_shr rfl rfl rfl (by decide) (Md.shr_u32 s4_0 (Md.nat_toNat 1))) (s_sa ?_)
      refine aops_nil (aw_seq (aw_region (s_mv ?_)))
      refine s_cm ?_
      refine aops_nil ?_
      refine aw_cond rfl (fun c9 => ?_) (fun c9 => ?_)
      · replace j7 := Md.cond_t j7 c9
        refine aw_region (s_mv ?_)
        refine aops_step1 rfl (ev_bits rfl rfl rfl rfl (Md.xor_u32 (Md.shr32 s4_0 1) (3988292384 : UInt32))) (s_sa ?_)
        refine aops_nil ?_
        show ∃ _x : UInt32, _ = _ ∧ Weak _ _
        exact ⟨((Md.shr32 s4_0 1) ^^^ (3988292384 : UInt32)), Option.some.inj j7, wk⟩
      replace j7 := Md.cond_f j7 c9
      refine aw_skip ?_
      show ∃ _x : UInt32, _ = _ ∧ Weak _ _
      exact ⟨(Md.shr32 s4_0 1), Option.some.inj j7, wk⟩
    replace l4 := Md.cond_f l4 c6
    refine aw_exit ?_
    show ∃ _x : UInt32, _ = _ ∧ Weak _ _
    exact ⟨s4_0, Option.some.inj l4, wk⟩
  replace l1 := Md.cond_f l1 c2
  refine aw_exit ?_
  show ∃ _x : UInt32, _ = _ ∧ Weak _ _
  exact ⟨s1_0, Option.some.inj l1, wk⟩
set_option maxHeartbeats 2000000 in
theorem actorgridref1_Low_fn (k : Nat) (a0 : UInt32) (r : (List UInt8)) (h : actorgridref1_Low k a0 = some r) : FnC Try.prog 84 [.one (.val (.int .u32 (a0.toNat : Int)))] [] (Det (.one (.own 0)) [(0, some (.row 5 1 r.length (lsEl byC r)))]) := by
  unfold actorgridref1_Low at h
  refine fn_intro' 15 Try.func84 rfl rfl rfl (aw_seq (aw_region (s_sa ?_)))
  refine aops_nil (aw_seq (aw_region (s_mv ?_)))
  refine aops_step1 rfl (st_conv_int rfl rfl Try.underlying111 Try.underlying5 (Md.conv_u32_u8 a0)) (s_mv ?_)
  refine aops_step1 rfl (ev_shr rfl rfl rfl (by decide) (Md.shr_u32 a0 (Md.nat_toNat 8))) ?_
  refine aops_step1 rfl (st_conv_int rfl rfl Try.underlying111 Try.underlying5 (Md.conv_u32_u8 (Md.shr32 a0 8))) (s_mv ?_)
  refine aops_step1 rfl (ev_shr rfl rfl rfl (by decide) (Md.shr_u32 a0 (Md.nat_toNat 16))) ?_
  refine aops_step1 rfl (st_conv_int rfl rfl Try.underlying111 Try.underlying5 (Md.conv_u32_u8 (Md.shr32 a0 16))) (s_mv ?_)
  refine aops_step1 rfl (ev_shr rfl rfl rfl (by decide) (Md.shr_u32 a0 (Md.nat_toNat 24))) ?_
  refine aops_step1 rfl (st_conv_int rfl rfl Try.underlying111 Try.underlying5 (Md.conv_u32_u8 (Md.shr32 a0 24))) ?_
  refine aops_step1 rfl (st_slice_lit (el := lsEl byC [(a0.toUInt8), ((Md.shr32 a0 8).toUInt8), ((Md.shr32 a0 16).toUInt8), ((Md.shr32 a0 24).toUInt8)]) 0 rfl rfl rfl rfl rfl rfl rfl rfl (lit_el byC 1 [(a0.toUInt8), ((Md.shr32 a0 8).toUInt8), ((Md.shr32 a0 16).toUInt8), ((Md.shr32 a0 24).toUInt8)] (fun _ => rfl)) rfl) (s_sa ?_)
  refine aops_nil ?_
  cases Option.some.inj h
  refine aw_ret ⟨rfl, ret_r 0 r1 rfl rfl rfl ?_ ?_ ?_⟩
  · first | exact TLe.refl _ | (repeat' (first | exact .refl _ | exact .nil | refine .tup ?_ | refine .v ?_ | refine .cons ?_ ?_ | refine .agg ?_ | refine .one ?_ | exact .nil _ | exact .emp _ | refine .val ?_ | refine .slc ?_ ?_ | fail))
  · rfl
  · rfl
set_option maxHeartbeats 2000000 in
theorem actorgridref1_Seal_fn (k : Nat) (a0 : Int) (a1 : List UInt8) (r : (List UInt8) × Int) (h : actorgridref1_Seal k a0 a1 = some r) : FnC Try.prog 65 [vI a0, .one (CV.ls byC a1)] [] (Det (.tup [.one (CV.ls byC r.1), vI r.2]) []) := by
  unfold actorgridref1_Seal at h
  refine fn_intro' 34 Try.func65 rfl rfl rfl (aw_seq (aw_region ?_))
  iterate 2 refine s_sa ?_
  refine aops_nil (aw_seq (aw_seq (aw_region (s_mv ?_))))
  refine s_cm ?_
  refine s_mv ?_
  refine aops_mid 3 (⟨34, [], [(0, vI a0), (1, .one (CV.ls byC a1)), (12, vB ((decide (a0 < 1)) || (decide (a0 > 255))))], []⟩ : ASt) ?_ ?_
  · rcases Md.bool_or ((decide (a0 < 1))) with q1 | q1
    · skip
      iterate 2 refine np q1 ?_
      refine s_py q1 ?_
      refine aops_nil ?_
      exact wq q1
    refine y_mv q1 ?_
    refine y_cm q1 ?_
    refine s_pn q1 ?_
    refine aops_nil ?_
    exact wq q1
  refine s_mv ?_
  refine aops_mid 4 (⟨34, [], [(0, vI a0), (1, .one (CV.ls byC a1)), (17, vB (((decide (a0 < 1)) || (decide (a0 > 255))) || (decide (((a1.length : Nat) : Int) > 16777216))))], []⟩ : ASt) ?_ ?_
  · rcases Md.bool_or (((decide (a0 < 1)) || (decide (a0 > 255)))) with q2 | q2
    · skip
      iterate 3 refine np q2 ?_
      refine s_py q2 ?_
      refine aops_nil ?_
      exact wq q2
    refine y_mv q2 ?_
    refine y_ln q2 ?_
    refine y_cm q2 ?_
    refine s_pn q2 ?_
    refine aops_nil ?_
    exact wq q2
  refine aops_nil ?_
  refine aw_cond rfl (fun c3 => ?_) (fun c3 => ?_)
  · replace h := Md.cond_t h c3
    refine aw_seq (aw_region ?_)
    iterate 2 refine s_sa ?_
    refine aops_nil ?_
    cases Option.some.inj h
    exact aw_ret ⟨rfl, rv (rn (.cons o1 (.cons o1 .nil)))⟩
  replace h := Md.cond_f h c3
  refine aw_skip (aw_seq (aw_region (s_mv ?_)))
  refine aops_step1 rfl (st_conv_int rfl rfl Try.underlying3 Try.underlying5 (Md.ofInt_u8 a0)) ?_
  refine aops_step1 rfl (st_slice_lit (el := lsEl byC [(65 : UInt8), (71 : UInt8), (UInt8.ofInt a0)]) 0 rfl rfl rfl rfl rfl rfl rfl rfl (lit_el byC 1 [(65 : UInt8), (71 : UInt8), (UInt8.ofInt a0)] (fun _ => rfl)) rfl) (s_mv ?_)
  refine s_ln ?_
  refine aops_step1 rfl (st_conv_int rfl rfl Try.underlying3 Try.underlying109 (Md.ofNat_u64 a1.length)) ?_
  obtain ⟨x4, hx4, h⟩ := Md.bind_s h
  refine aops_step1 rfl (st_call_r (r' := .one (.own 1)) 1 rfl (actorgridref1_Uint_fn k (UInt64.ofNat a1.length) x4 hx4) rfl [] ai rfl rfl rfl (.inl rfl) rfl rfl) ?_
  obtain ⟨g5, h⟩ := Md.ifp_s h
  refine aops_step1 rfl (st_app_ls (f := byC) [(65 : UInt8), (71 : UInt8), (UInt8.ofInt a0)] x4 (fun _ => rfl) rfl rfl (.inr ⟨_, _, rfl, rfl⟩) (by omega) (by omega) rfl) (s_sa ?_)
  refine aops_nil (aw_seq (aw_region ?_))
  iterate 2 refine s_mv ?_
  obtain ⟨g6, h⟩ := Md.ifp_s h
  refine aops_step1 rfl (st_app_ls (f := byC) ([(65 : UInt8), (71 : UInt8), (UInt8.ofInt a0)] ++ x4) a1 (fun _ => rfl) rfl rfl (.inl rfl) (by omega) (by omega) rfl) (s_sa ?_)
  refine aops_nil (aw_seq (aw_region ?_))
  iterate 2 refine s_mv ?_
  obtain ⟨x7, hx7, h⟩ := Md.bind_s h
  refine aops_step1 rfl (ev_call_v (actorgridref1_Checksum_fn k (([(65 : UInt8), (71 : UInt8), (UInt8.ofInt a0)] ++ x4) ++ a1) x7 hx7) rfl [0] ai rfl rfl rfl (.inr rfl) rfl) ?_
  obtain ⟨x8, hx8, h⟩ := Md.bind_s h
  refine aops_step1 rfl (st_call_r (r' := .one (.own 2)) 2 rfl (actorgridref1_Low_fn k x7 x8 hx8) rfl [] ai rfl rfl rfl (.inl rfl) rfl rfl) ?_
  obtain ⟨g9, h⟩ := Md.ifp_s h
  refine aops_step1 rfl (st_app_ls (f := byC) (([(65 : UInt8), (71 : UInt8), (UInt8.ofInt a0)] ++ x4) ++ a1) x8 (fun _ => rfl) rfl rfl (.inr ⟨_, _, rfl, rfl⟩) (by omega) (by omega) rfl) ?_
  iterate 2 refine s_sa ?_
  refine aops_nil ?_
  cases Option.some.inj h
  refine aw_freeze 0 rfl ?_
  exact aw_ret ⟨rfl, rv (rn (.cons o1 (.cons o1 .nil)))⟩
set_option maxHeartbeats 2000000 in
theorem actorgridref1_Open_fn (k : Nat) (a0 : List UInt8) (r : Int × (List UInt8) × Int × Int) (h : actorgridref1_Open k a0 = some r) : FnC Try.prog 67 [.one (CV.ls byC a0)] [] (Det (.tup [vI r.1, .one (CV.ls byC r.2.1), vI r.2.2.1, vI r.2.2.2]) []) := by
  unfold actorgridref1_Open at h
  refine fn_intro' 81 Try.func67 rfl rfl rfl (aw_seq (aw_region ?_))
  iterate 4 refine s_sa ?_
  refine aops_nil (aw_seq (aw_seq (aw_region (s_mv ?_))))
  refine s_ln ?_
  refine s_cm ?_
  refine aops_nil ?_
  refine aw_cond rfl (fun c1 => ?_) (fun c1 => ?_)
  · replace h := Md.cond_t h c1
    refine aw_seq (aw_region ?_)
    iterate 4 refine s_sa ?_
    refine aops_nil ?_
    cases Option.some.inj h
    exact aw_ret ⟨rfl, rv (rn (.cons o1 (.cons o1 (.cons o1 (.cons o1 .nil)))))⟩
  replace h := Md.cond_f h c1
  refine aw_skip (aw_seq (aw_seq (aw_region (s_mv ?_))))
  obtain ⟨g2, h⟩ := Md.ifp_s h
  refine aops_step1 rfl (ev_index_in rfl rfl rfl g2 rfl rfl) (aops_step1 rfl (ev_load_in rfl rfl rfl) (s_cm ?_))
  refine s_mv ?_
  obtain ⟨o3, j3, h⟩ := Md.bind_s h
  refine aops_cut 5 (ε := Bool) (fun x3 => (⟨81, [], [(0, .one (CV.ls byC a0)), (23, vB x3)], []⟩ : ASt)) (fun x3 => x3 = o3) ?_ ?_
  · intro x3 hI3
    subst hI3
    change AOps _ _ _ (⟨81, [], [(0, .one (CV.ls byC a0)), (23, vB x3)], []⟩ : ASt) _
    refine s_mv ?_
    obtain ⟨o4, j4, h⟩ := Md.bind_s h
    refine aops_cut 5 (ε := Bool) (fun x4 => (⟨81, [], [(0, .one (CV.ls byC a0)), (29, vB x4)], []⟩ : ASt)) (fun x4 => x4 = o4) ?_ ?_
    · intro x4 hI4
      subst hI4
      change AOps _ _ _ (⟨81, [], [(0, .one (CV.ls byC a0)), (29, vB x4)], []⟩ : ASt) _
      refine aops_nil ?_
      refine aw_cond rfl (fun c5 => ?_) (fun c5 => ?_)
      · replace h := Md.cond_t h c5
        refine aw_seq (aw_region ?_)
        iterate 4 refine s_sa ?_
        refine aops_nil ?_
        cases Option.some.inj h
        exact aw_ret ⟨rfl, rv (rn (.cons o1 (.cons o1 (.cons o1 (.cons o1 .nil)))))⟩
      replace h := Md.cond_f h c5
      refine aw_skip (aw_seq (aw_region (s_mv ?_)))
      obtain ⟨g6, h⟩ := Md.ifp_s h
      refine aops_step1 rfl (st_cut_lo (f := byC) (fun _ => rfl) rfl ⟨_, _, rfl, rfl⟩ g6 rfl) ?_
      obtain ⟨x7, hx7, h⟩ := Md.bind_s h
      refine aops_step1 rfl (ev_call_v (actorgridref1_ReadUint_fn k (a0.drop 3) x7 hx7) rfl [] ai rfl rfl rfl (.inl rfl) rfl) (s_mt ?_)
      iterate 3 refine s_ex ?_
      iterate 3 refine s_sa ?_
      refine aops_nil (aw_seq (aw_seq (aw_region (s_mv ?_))))
      refine s_cm ?_
      refine aops_nil ?_
      refine aw_cond rfl (fun c8 => ?_) (fun c8 => ?_)
      · replace h := Md.cond_t h c8
        refine aw_seq (aw_region (s_mv ?_))
        iterate 4 refine s_sa ?_
        refine aops_nil ?_
        cases Option.some.inj h
        exact aw_ret ⟨rfl, rv (rn (.cons o1 (.cons o1 (.cons o1 (.cons o1 .nil)))))⟩
      replace h := Md.cond_f h c8
      refine aw_skip (aw_seq (aw_seq (aw_region (s_mv ?_))))
      refine s_cm ?_
      refine aops_nil ?_
      refine aw_cond rfl (fun c9 => ?_) (fun c9 => ?_)
      · replace h := Md.cond_t h c9
        refine aw_seq (aw_region ?_)
        iterate 4 refine s_sa ?_
        refine aops_nil ?_
        cases Option.some.inj h
        exact aw_ret ⟨rfl, rv (rn (.cons o1 (.cons o1 (.cons o1 (.cons o1 .nil)))))⟩
      replace h := Md.cond_f h c9
      refine aw_skip (aw_seq (aw_region (s_mv ?_)))
      refine aops_step1 rfl (ev_add rfl rfl rfl (Md.wrap_W _)) (s_sa ?_)
      refine aops_nil (aw_seq (aw_seq (aw_region (s_mv ?_))))
      refine s_ln ?_
      refine s_mv ?_
      refine aops_step1 rfl (ev_sub rfl rfl rfl (Md.wrap_W _)) (s_mv ?_)
      refine aops_step1 rfl (st_conv_int rfl rfl Try.underlying109 Try.underlying3 (Md.wrap_W _)) (aops_step1 rfl (ev_add rfl rfl rfl (Md.wrap_W _)) (s_cm ?_))
      refine aops_nil ?_
      refine aw_cond rfl (fun c10 => ?_) (fun c10 => ?_)
      · replace h := Md.cond_t h c10
        refine aw_seq (aw_region ?_)
        iterate 4 refine s_sa ?_
        refine aops_nil ?_
        cases Option.some.inj h
        exact aw_ret ⟨rfl, rv (rn (.cons o1 (.cons o1 (.cons o1 (.cons o1 .nil)))))⟩
      replace h := Md.cond_f h c10
      refine aw_skip (aw_seq (aw_region ?_))
      iterate 2 refine s_mv ?_
      refine aops_step1 rfl (st_conv_int rfl rfl Try.underlying109 Try.underlying3 (Md.wrap_W _)) (aops_step1 rfl (ev_add rfl rfl rfl (Md.wrap_W _)) (s_sa ?_))
      refine aops_nil (aw_seq ?_)
      obtain ⟨g11, h⟩ := Md.ifp_s h
      obtain ⟨g12, h⟩ := Md.ifp_s h
      obtain ⟨x13, hx13, h⟩ := Md.bind_s h
      obtain ⟨x14, hx14, h⟩ := Md.bind_s h
      obtain ⟨g15, h⟩ := Md.ifp_s h
      obtain ⟨g16, h⟩ := Md.ifp_s h
      obtain ⟨g17, h⟩ := Md.ifp_s h
      refine aw_seq ?_
      apply aw_draw 12 ((⟨[], .one (CV.ls byC a0)⟩ : Add) :: ⟨[], vI (Md.W ((Md.W (3 + x7.2.1)) + (Md.W (x7.1.toNat : Int))))⟩ :: ⟨[], .one (CV.ls byC (a0.take (((Md.W ((Md.W (3 + x7.2.1)) + (Md.W (x7.1.toNat : Int))))).toNat)))⟩ :: ⟨[], .one (.val (.int .u32 (x13.toNat : Int)))⟩ :: ⟨[], .one (CV.ls byC x14)⟩ :: ⟨[], .one (.val (Sv x14))⟩ :: ⟨[], .one (CV.ls byC a0)⟩ :: ⟨[], vI (Md.W ((Md.W (3 + x7.2.1)) + (Md.W (x7.1.toNat : Int))))⟩ :: ⟨[], vI (Md.W ((Md.W (3 + x7.2.1)) + (Md.W (x7.1.toNat : Int))))⟩ :: ⟨[], vI (Md.W ((Md.W ((Md.W (3 + x7.2.1)) + (Md.W (x7.1.toNat : Int)))) + 4))⟩ :: ⟨[], .one (CV.ls byC ((a0.drop (((Md.W ((Md.W (3 + x7.2.1)) + (Md.W (x7.1.toNat : Int))))).toNat)).take (((Md.W ((Md.W ((Md.W (3 + x7.2.1)) + (Md.W (x7.1.toNat : Int)))) + 4))).toNat - (((Md.W ((Md.W (3 + x7.2.1)) + (Md.W (x7.1.toNat : Int))))).toNat))))⟩ :: ⟨[], .one (.val (Sv ((a0.drop (((Md.W ((Md.W (3 + x7.2.1)) + (Md.W (x7.1.toNat : Int))))).toNat)).take (((Md.W ((Md.W ((Md.W (3 + x7.2.1)) + (Md.W (x7.1.toNat : Int)))) + 4))).toNat - (((Md.W ((Md.W (3 + x7.2.1)) + (Md.W (x7.1.toNat : Int))))).toNat)))))⟩ :: []) (by decide) rfl ?hk1x ?hf1x ?ho1x ?hr1x
      case ho1x =>
       refine ob [] (fun S hle hfr => .inl ⟨w0, st_move (hle.e rfl) (hle.d rfl)⟩) (ob [] (fun S hle hfr => .inl ⟨w0, st_move (hle.e rfl) (hle.d rfl)⟩) ?_)
       refine ob [0, 1] (fun S hle hfr => .inl ⟨w0, st_cut_hi (f := byC) (fun _ => rfl) (hle.e rfl) ⟨_, _, (hle.e rfl), (Md.nn_eq g11)⟩ g12 (hle.d rfl)⟩) ?_
       refine ob [2, 0, 1] (fun S hle hfr => .inl ⟨w0, ev_call_v (actorgridref1_Checksum_fn k (a0.take (((Md.W ((Md.W (3 + x7.2.1)) + (Md.W (x7.1.toNat : Int))))).toNat)) x13 hx13) (map_ev (.cons (hle.e rfl) (.nil))) [] (by repeat' (first | exact .nil | refine .cons ?_ ?_ | refine .one ?_ | refine .agg ?_ | exact .mk rfl | exact .lend (hle.heap _ _ rfl) (by simp) | exact .le (.nil _) rfl | exact .le (.emp _) rfl | exact .le (.any _) rfl | fail)) rfl rfl rfl (.inl rfl) (hle.d rfl)⟩) ?_
       refine ob [3, 2, 0, 1] (fun S hle hfr => .inl ⟨w0, st_call_z (actorgridref1_Low_fn k x13 x14 hx14) (map_ev (.cons (hle.e rfl) (.nil))) [] (fun _ => (by repeat' (first | exact .nil | refine .cons ?_ ?_ | refine .one ?_ | refine .agg ?_ | exact .mk rfl | exact .lend (hle.heap _ _ rfl) (by simp) | exact .le (.nil _) rfl | exact .le (.emp _) rfl | exact .le (.any _) rfl | fail))) rfl (.inl rfl) (hle.d rfl)⟩) ?_
       refine ob [4, 3, 2, 0, 1] (fun S hle hfr => .inl ⟨w0, ev_str_bytes (.inl (hle.e rfl)) Try.underlying24 Try.underlying5 Try.underlying9 (hle.d rfl)⟩) ?_
       iterate 3 refine ob [] (fun S hle hfr => .inl ⟨w0, st_move (hle.e rfl) (hle.d rfl)⟩) ?_
       refine ob [8] (fun S hle hfr => .inl ⟨w0, ev_add (hle.e rfl) (hle.e rfl) (hle.d rfl) (Md.wrap_W _)⟩) ?_
       refine ob [6, 7, 9, 8] (fun S hle hfr => .inl ⟨w0, st_cut_both (f := byC) (fun _ => rfl) (hle.e rfl) ⟨_, _, (hle.e rfl), (Md.nn_eq g15)⟩ ⟨_, _, (hle.e rfl), (Md.nn_eq g16)⟩ g17 (hle.d rfl)⟩) ?_
       refine ob [10, 6, 7, 9, 8] (fun S hle hfr => .inl ⟨w0, ev_str_bytes (.inl (hle.e rfl)) Try.underlying24 Try.underlying5 Try.underlying9 (hle.d rfl)⟩) ?_
       exact trivial
      case hk1x => rfl
      case hf1x => rfl
      refine aops_step1 rfl (st_str_ne rfl rfl rfl) (aops_nil ?_)
      refine aw_cond rfl (fun c18 => ?_) (fun c18 => ?_)
      · replace h := Md.cond_t h c18
        refine aw_seq (aw_region ?_)
        iterate 4 refine s_sa ?_
        refine aops_nil ?_
        cases Option.some.inj h
        exact aw_ret ⟨rfl, rv (rn (.cons o1 (.cons o1 (.cons o1 (.cons o1 .nil)))))⟩
      replace h := Md.cond_f h c18
      refine aw_skip ?_
      obtain ⟨g19, h⟩ := Md.ifp_s h
      obtain ⟨g20, h⟩ := Md.ifp_s h
      obtain ⟨g21, h⟩ := Md.ifp_s h
      obtain ⟨g22, h⟩ := Md.ifp_s h
      obtain ⟨g23, h⟩ := Md.ifp_s h
      refine aw_seq ?_
      apply aw_draw 14 ((⟨[], .one (CV.ls byC a0)⟩ : Add) :: ⟨[], .one (.cptr _)⟩ :: ⟨[], .one (.val (.int .u8 (((a0.getD 2 default)).toNat : Int)))⟩ :: ⟨[], vI (((a0.getD 2 default).toNat : Nat) : Int)⟩ :: ⟨[], .one (.emp0)⟩ :: ⟨[], .one (CV.ls byC a0)⟩ :: ⟨[], vI (Md.W (3 + x7.2.1))⟩ :: ⟨[], vI (Md.W ((Md.W (3 + x7.2.1)) + (Md.W (x7.1.toNat : Int))))⟩ :: ⟨[], .one (CV.ls byC ((a0.drop (((Md.W (3 + x7.2.1))).toNat)).take (((Md.W ((Md.W (3 + x7.2.1)) + (Md.W (x7.1.toNat : Int))))).toNat - (((Md.W (3 + x7.2.1))).toNat))))⟩ :: ⟨[], .one (CV.ls byC ((a0.drop (((Md.W (3 + x7.2.1))).toNat)).take (((Md.W ((Md.W (3 + x7.2.1)) + (Md.W (x7.1.toNat : Int))))).toNat - (((Md.W (3 + x7.2.1))).toNat))))⟩ :: ⟨[], vI (Md.W ((Md.W (3 + x7.2.1)) + (Md.W (x7.1.toNat : Int))))⟩ :: ⟨[], vI (Md.W ((Md.W ((Md.W (3 + x7.2.1)) + (Md.W (x7.1.toNat : Int)))) + 4))⟩ :: ⟨[], vI (((a0.getD 2 default).toNat : Nat) : Int)⟩ :: ⟨[], .one (CV.ls byC ((a0.drop (((Md.W (3 + x7.2.1))).toNat)).take (((Md.W ((Md.W (3 + x7.2.1)) + (Md.W (x7.1.toNat : Int))))).toNat - (((Md.W (3 + x7.2.1))).toNat))))⟩ :: []) (by decide) rfl ?hk2x ?hf2x ?ho2x ?hr2x
      case ho2x =>
       refine ob [] (fun S hle hfr => .inl ⟨w0, st_move (hle.e rfl) (hle.d rfl)⟩) ?_
       refine ob [0] (fun S hle hfr => .inl ⟨w0, ev_index_in (hle.e rfl) (hle.e rfl) rfl g19 rfl (hle.d rfl)⟩) ?_
       refine ob [1, 0] (fun S hle hfr => .inl ⟨w0, ev_load_in (hle.e rfl) rfl (hle.d rfl)⟩) ?_
       refine ob [2, 1, 0] (fun S hle hfr => .inl ⟨w0, st_conv_int (hle.e rfl) (hle.d rfl) Try.underlying5 Try.underlying3 (Md.conv_u8_i64 (a0.getD 2 default))⟩) ?_
       refine ob [] (fun S hle hfr => .inl ⟨w0, st_slice_emp (hle.d rfl)⟩) ?_
       iterate 3 refine ob [] (fun S hle hfr => .inl ⟨w0, st_move (hle.e rfl) (hle.d rfl)⟩) ?_
       refine ob [5, 6, 7] (fun S hle hfr => .inl ⟨w0, st_cut_both (f := byC) (fun _ => rfl) (hle.e rfl) ⟨_, _, (hle.e rfl), (Md.nn_eq g20)⟩ ⟨_, _, (hle.e rfl), (Md.nn_eq g21)⟩ g22 (hle.d rfl)⟩) ?_
       refine ob [4, 8, 5, 6, 7] (fun S hle hfr => .inl ⟨w0, st_app_emp_z (f := byC) ((a0.drop (((Md.W (3 + x7.2.1))).toNat)).take (((Md.W ((Md.W (3 + x7.2.1)) + (Md.W (x7.1.toNat : Int))))).toNat - (((Md.W (3 + x7.2.1))).toNat))) (fun _ => rfl) (hle.e rfl) (.inl (hle.e rfl)) (by omega) (by omega) (hle.d rfl)⟩) ?_
       refine ob [] (fun S hle hfr => .inl ⟨w0, st_move (hle.e rfl) (hle.d rfl)⟩) ?_
       refine ob [10] (fun S hle hfr => .inl ⟨w0, ev_add (hle.e rfl) (hle.e rfl) (hle.d rfl) (Md.wrap_W _)⟩) ?_
       refine ob [3, 9, 0, 1, 2, 4, 8, 5, 6, 7] (fun S hle hfr => .inl ⟨w0, st_assign (hle.e rfl) (hle.d rfl)⟩) ?_
       refine ob [9, 12, 0, 1, 2, 3, 4, 5, 6, 7, 8] (fun S hle hfr => .inl ⟨w0, st_assign (hle.e rfl) (hle.d rfl)⟩) ?_
       exact trivial
      case hk2x => rfl
      case hf2x => rfl
      iterate 2 refine s_sa ?_
      refine aops_nil ?_
      cases Option.some.inj h
      exact aw_ret ⟨rfl, rv (rn (.cons o1 (.cons o1 (.cons o1 (.cons o1 .nil)))))⟩
    rcases Md.bool_or (x3) with q4 | q4
    · replace j4 := Md.cond_t j4 q4
      iterate 4 refine np q4 ?_
      refine s_py q4 ?_
      refine aops_nil ?_
      show ∃ _x : Bool, _ = _ ∧ Weak _ _
      exact ⟨true, Option.some.inj j4, wk⟩
    replace j4 := Md.cond_f j4 q4
    refine y_mv q4 ?_
    obtain ⟨g24, j4⟩ := Md.ifp_s j4
    refine aops_yes rfl rfl rfl rfl q4 (ev_index_in rfl rfl rfl g24 rfl rfl) (aops_yes rfl rfl rfl rfl q4 (ev_load_in rfl rfl rfl) (y_cm q4 ?_))
    refine s_pn q4 ?_
    refine aops_nil ?_
    show ∃ _x : Bool, _ = _ ∧ Weak _ _
    exact ⟨((((a0.getD 2 default)).toNat : Int) == 0), Option.some.inj j4, wk⟩
  rcases Md.bool_or (((((a0.getD 0 default)).toNat : Int) != 65)) with q3 | q3
  · replace j3 := Md.cond_t j3 q3
    iterate 4 refine np q3 ?_
    refine s_py q3 ?_
    refine aops_nil ?_
    show ∃ _x : Bool, _ = _ ∧ Weak _ _
    exact ⟨true, Option.some.inj j3, wk⟩
  replace j3 := Md.cond_f j3 q3
  refine y_mv q3 ?_
  obtain ⟨g25, j3⟩ := Md.ifp_s j3
  refine aops_yes rfl rfl rfl rfl q3 (ev_index_in rfl rfl rfl g25 rfl rfl) (aops_yes rfl rfl rfl rfl q3 (ev_load_in rfl rfl rfl) (y_cm q3 ?_))
  refine s_pn q3 ?_
  refine aops_nil ?_
  show ∃ _x : Bool, _ = _ ∧ Weak _ _
  exact ⟨((((a0.getD 1 default)).toNat : Int) != 71), Option.some.inj j3, wk⟩
end Md
end Go.Proofs.Ytkcfkcgclljncaa
