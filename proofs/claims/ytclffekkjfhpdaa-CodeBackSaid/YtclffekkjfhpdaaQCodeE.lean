import Derived.Test.YtclffekkjfhpdaaQMo
import Derived.Test.YtclffekkjfhpdaaQTy
import Derived.Test.YtclffekkjfhpdaaQAbsX
import Derived.Test.YtclffekkjfhpdaaQCodeD
namespace Go.Proofs.Ytclffekkjfhpdaa
open Go.ChangeShapes Go.WideShapes Go.RowKit
open Abs
set_option linter.unusedVariables false
set_option linter.unusedSimpArgs false
set_option maxRecDepth 10000
namespace Md
def c_Bytecodereader (x : Bytecodereader) : List CV := [CV.ls byC x.b, cB x.failed]
set_option maxHeartbeats 2000000 in
theorem wire_Uint_fn (k : Nat) (a0 : List UInt8) (r : UInt64 × Int × Int) (h : wire_Uint k a0 = some r) : FnC Try.prog 53 [.one (CV.ls byC a0)] [] (Det (.tup [.one (.val (.int .u64 (r.1.toNat : Int))), vI r.2.1, vI r.2.2]) []) := by
  unfold wire_Uint at h
  refine fn_intro' 42 Try.func53 rfl rfl rfl (aw_seq (aw_region ?_))
  iterate 3 refine s_sa ?_
  refine aops_nil (aw_seq (aw_seq (aw_region (s_mv ?_))))
  refine s_ln ?_
  refine s_mv ?_
  refine aops_nil (aw_block ?_)
  obtain ⟨o1, ho1, h⟩ := Md.bind_s h
  refine aw_loop_x (ι := {p : Nat × UInt64 × Nat // wire_Uint_loop1 k a0 p.1 p.2.1 p.2.2 = some o1}) (fun p => (⟨42, [], [(2, .one (.val (.int .u64 (p.1.2.1.toNat : Int)))), (7, .one (CV.ls byC a0)), (8, vI ((a0.length : Nat) : Int)), (9, vI ((p.1.2.2 : Nat) : Int))], []⟩ : ASt)) (fun p => p.1.1) ⟨(k, (0 : UInt64), 0), ho1⟩ wk 0 (ε := Unit) (fun x => (⟨42, [], [], []⟩ : ASt)) (fun x => Sum.inl x = o1) (fun _ _ w h => aw_weak w h) ?_ ?_
  · intro x1_0 hI1
    subst hI1
    replace h := Md.onS_l h
    change AW _ _ (⟨42, [], [], []⟩ : ASt) _
    refine aw_seq (aw_region ?_)
    iterate 3 refine s_sa ?_
    refine aops_nil ?_
    cases Option.some.inj h
    exact aw_ret ⟨rfl, rv (rn (.cons o1 (.cons o1 (.cons o1 .nil))))⟩
  intro p1
  obtain ⟨⟨n1, s1_0, s1_1⟩, l1⟩ := p1
  change AW _ _ (⟨42, [], [(2, .one (.val (.int .u64 (s1_0.toNat : Int)))), (7, .one (CV.ls byC a0)), (8, vI ((a0.length : Nat) : Int)), (9, vI ((s1_1 : Nat) : Int))], []⟩ : ASt) _
  replace l1 : wire_Uint_loop1 k a0 n1 s1_0 s1_1 = some o1 := l1
  rcases n1 with _ | n1
  · exact absurd (show none = some o1 from l1) nofun
  rw [wire_Uint_loop1] at l1
  refine aw_seq (aw_region (s_cm ?_))
  refine aops_nil (aw_seq ?_)
  refine aw_cond rfl (fun c2 => ?_) (fun c2 => ?_)
  · replace l1 := Md.cond_t l1 c2
    refine aw_skip (aw_seq (aw_block (aw_seq (aw_region (s_mv ?_)))))
    obtain ⟨g3, l1⟩ := Md.ifp_s l1
    refine aops_step1 rfl (ev_index_in rfl rfl rfl g3 rfl rfl) (aops_step1 rfl (ev_load_in rfl rfl rfl) ?_)
    iterate 2 refine s_sa ?_
    refine aops_nil (aw_seq (aw_seq (aw_region (s_mv ?_))))
    refine s_cm ?_
    refine s_mv ?_
    refine aops_mid 3 (⟨42, [], [(2, .one (.val (.int .u64 (s1_0.toNat : Int)))), (5, vI ((s1_1 : Nat) : Int)), (6, .one (.val (.int .u8 (((a0.getD s1_1 default)).toNat : Int)))), (7, .one (CV.ls byC a0)), (8, vI ((a0.length : Nat) : Int)), (9, vI ((s1_1 : Nat) : Int)), (19, vB ((((s1_1 : Nat) : Int) == 9) && (decide ((((a0.getD s1_1 default)).toNat : Int) > 1))))], []⟩ : ASt) ?_ ?_
    · rcases Md.bool_or ((((s1_1 : Nat) : Int) == 9)) with q4 | q4
      · skip
        refine y_mv q4 ?_
        refine y_cm q4 ?_
        refine s_py q4 ?_
        refine aops_nil ?_
        exact wq q4
      iterate 2 refine np q4 ?_
      refine s_pn q4 ?_
      refine aops_nil ?_
      exact wq q4
    refine s_mv ?_
    refine aops_mid 7 (⟨42, [], [(2, .one (.val (.int .u64 (s1_0.toNat : Int)))), (5, vI ((s1_1 : Nat) : Int)), (6, .one (.val (.int .u8 (((a0.getD s1_1 default)).toNat : Int)))), (7, .one (CV.ls byC a0)), (8, vI ((a0.length : Nat) : Int)), (9, vI ((s1_1 : Nat) : Int)), (27, vB (((((s1_1 : Nat) : Int) == 9) && (decide ((((a0.getD s1_1 default)).toNat : Int) > 1))) || ((decide (((s1_1 : Nat) : Int) > 0)) && ((((a0.getD s1_1 default)).toNat : Int) == 0))))], []⟩ : ASt) ?_ ?_
    · rcases Md.bool_or (((((s1_1 : Nat) : Int) == 9) && (decide ((((a0.getD s1_1 default)).toNat : Int) > 1)))) with q5 | q5
      · skip
        iterate 3 refine np q5 ?_
        refine aops_und rfl rfl rfl rfl rfl (aops_und rfl rfl rfl rfl rfl (np q5 ?_))
        refine s_py q5 ?_
        refine aops_nil ?_
        exact wq q5
      refine y_mv q5 ?_
      refine y_cm q5 ?_
      refine y_mv q5 ?_
      refine aops_mid 3 (⟨42, [], [(2, .one (.val (.int .u64 (s1_0.toNat : Int)))), (5, vI ((s1_1 : Nat) : Int)), (6, .one (.val (.int .u8 (((a0.getD s1_1 default)).toNat : Int)))), (7, .one (CV.ls byC a0)), (8, vI ((a0.length : Nat) : Int)), (9, vI ((s1_1 : Nat) : Int)), (20, vB ((((s1_1 : Nat) : Int) == 9) && (decide ((((a0.getD s1_1 default)).toNat : Int) > 1)))), (26, vB ((decide (((s1_1 : Nat) : Int) > 0)) && ((((a0.getD s1_1 default)).toNat : Int) == 0)))], []⟩ : ASt) ?_ ?_
      · rcases Md.bool_or ((decide (((s1_1 : Nat) : Int) > 0))) with q6 | q6
        · skip
          refine y_mv q6 ?_
          refine y_cm q6 ?_
          refine aops_yes rfl rfl rfl rfl q5 (st_pick_yes rfl (by first | rfl | exact q6) rfl rfl) (aops_nil ?_)
          exact wq q6
        iterate 2 refine np q6 ?_
        refine aops_yes rfl rfl rfl rfl q5 (st_pick_no rfl (by first | rfl | exact q6) rfl rfl) (aops_nil ?_)
        exact wq q6
      change AOps _ _ _ (⟨42, [], [(2, .one (.val (.int .u64 (s1_0.toNat : Int)))), (5, vI ((s1_1 : Nat) : Int)), (6, .one (.val (.int .u8 (((a0.getD s1_1 default)).toNat : Int)))), (7, .one (CV.ls byC a0)), (8, vI ((a0.length : Nat) : Int)), (9, vI ((s1_1 : Nat) : Int)), (20, vB ((((s1_1 : Nat) : Int) == 9) && (decide ((((a0.getD s1_1 default)).toNat : Int) > 1)))), (26, vB ((decide (((s1_1 : Nat) : Int) > 0)) && ((((a0.getD s1_1 default)).toNat : Int) == 0)))], []⟩ : ASt) _
      refine s_pn q5 ?_
      refine aops_nil ?_
      exact wq q5
    refine aops_nil ?_
    refine aw_cond rfl (fun c7 => ?_) (fun c7 => ?_)
    · replace l1 := Md.cond_t l1 c7
      refine aw_seq (aw_region ?_)
      iterate 3 refine s_sa ?_
      refine aops_nil ?_
      cases Option.some.inj l1
      replace h := Md.onS_r h
      cases Option.some.inj h
      exact aw_ret ⟨rfl, rv (rn (.cons o1 (.cons o1 (.cons o1 .nil))))⟩
    replace l1 := Md.cond_f l1 c7
    refine aw_skip (aw_seq (aw_region ?_))
    iterate 2 refine s_mv ?_
    refine aops_step1 rfl (ev_bits rfl rfl rfl rfl (Md.and_u8 (a0.getD s1_1 default) (127 : UInt8))) ?_
    refine aops_step1 rfl (st_conv_int rfl rfl Try.underlying5 Try.underlying97 (Md.conv_u8_u64 ((a0.getD s1_1 default) &&& (127 : UInt8)))) (s_mv ?_)
    obtain ⟨g8, l1⟩ := Md.ifp_s l1
    refine aops_step1 rfl (ev_mul rfl rfl rfl (Md.nat_mul g8)) ?_
    refine aops_step1 rfl (ev_shl rfl rfl rfl (Md.nn _) (Md.shl_u64 (((a0.getD s1_1 default) &&& (127 : UInt8)).toUInt64) (Md.nat_toNat (7 * s1_1)))) ?_
    refine aops_step1 rfl (ev_bits rfl rfl rfl rfl (Md.or_u64 s1_0 (Md.shl64 (((a0.getD s1_1 default) &&& (127 : UInt8)).toUInt64) (7 * s1_1)))) (s_sa ?_)
    refine aops_nil (aw_seq (aw_region (s_mv ?_)))
    refine s_cm ?_
    refine aops_nil ?_
    refine aw_cond rfl (fun c9 => ?_) (fun c9 => ?_)
    · replace l1 := Md.cond_t l1 c9
      refine aw_seq (aw_region ?_)
      iterate 2 refine s_mv ?_
      obtain ⟨g10, l1⟩ := Md.ifp_s l1
      refine aops_step1 rfl (ev_add rfl rfl rfl (Md.nat_add g10)) ?_
      iterate 3 refine s_sa ?_
      refine aops_nil ?_
      cases Option.some.inj l1
      replace h := Md.onS_r h
      cases Option.some.inj h
      exact aw_ret ⟨rfl, rv (rn (.cons o1 (.cons o1 (.cons o1 .nil))))⟩
    replace l1 := Md.cond_f l1 c9
    refine aw_skip (aw_region ?_)
    obtain ⟨g11, l1⟩ := Md.ifp_s l1
    refine aops_step1 rfl (ev_add rfl rfl rfl (Md.nat_add g11)) (s_mv ?_)
    refine aops_nil ?_
    exact ⟨⟨(n1, (s1_0 ||| (Md.shl64 (((a0.getD s1_1 default) &&& (127 : UInt8)).toUInt64) (7 * s1_1))), (s1_1 + 1)), l1⟩, Nat.lt_succ_self _, wk⟩
  replace l1 := Md.cond_f l1 c2
  refine aw_exit ?_
  show ∃ _x : Unit, _ = _ ∧ Weak _ _
  exact ⟨(), Option.some.inj l1, wk⟩
set_option maxHeartbeats 2000000 in
theorem wire_Int_fn (k : Nat) (a0 : List UInt8) (r : Int × Int × Int) (h : wire_Int k a0 = some r) : FnC Try.prog 88 [.one (CV.ls byC a0)] [] (Det (.tup [vI r.1, vI r.2.1, vI r.2.2]) []) := by
  unfold wire_Int at h
  refine fn_intro' 22 Try.func88 rfl rfl rfl (aw_seq (aw_region ?_))
  iterate 3 refine s_sa ?_
  refine aops_nil (aw_seq (aw_region (s_mv ?_)))
  obtain ⟨x1, hx1, h⟩ := Md.bind_s h
  refine aops_step1 rfl (ev_call_v (wire_Uint_fn k a0 x1 hx1) rfl [] ai rfl rfl rfl (.inl rfl) rfl) (s_mt ?_)
  iterate 3 refine s_ex ?_
  iterate 3 refine s_sa ?_
  refine aops_nil (aw_seq (aw_region (s_mv ?_)))
  refine aops_step1 rfl (ev_shr rfl rfl rfl (by decide) (Md.shr_u64 x1.1 (Md.nat_toNat 1))) ?_
  refine aops_step1 rfl (st_conv_int rfl rfl Try.underlying97 Try.underlying3 (Md.wrap_W _)) (s_mv ?_)
  refine aops_step1 rfl (ev_bits rfl rfl rfl rfl (Md.and_u64 x1.1 (1 : UInt64))) ?_
  refine aops_step1 rfl (st_conv_int rfl rfl Try.underlying97 Try.underlying3 (Md.wrap_W _)) (aops_step1 rfl (st_neg rfl rfl (Md.wrap_W _)) ?_)
  refine aops_step1 rfl (ev_bits rfl rfl rfl rfl (Md.ixor_i64 (Md.W ((Md.shr64 x1.1 1).toNat : Int)) (Md.W (-(Md.W ((x1.1 &&& (1 : UInt64)).toNat : Int)))))) ?_
  iterate 2 refine s_mv ?_
  iterate 3 refine s_sa ?_
  refine aops_nil ?_
  cases Option.some.inj h
  exact aw_ret ⟨rfl, rv (rn (.cons o1 (.cons o1 (.cons o1 .nil))))⟩
set_option maxHeartbeats 2000000 in
theorem wire_length_fn (k : Nat) (a0 : List UInt8) (a1 : Int) (r : Int × Int × Int) (h : wire_length k a0 a1 = some r) : FnC Try.prog 87 [.one (CV.ls byC a0), vI a1] [] (Det (.tup [vI r.1, vI r.2.1, vI r.2.2]) []) := by
  unfold wire_length at h
  refine fn_intro' 26 Try.func87 rfl rfl rfl (aw_seq (aw_region ?_))
  iterate 3 refine s_sa ?_
  refine aops_nil (aw_seq (aw_seq (aw_region (s_mv ?_))))
  refine s_cm ?_
  refine aops_nil ?_
  refine aw_cond rfl (fun c1 => ?_) (fun c1 => ?_)
  · replace h := Md.cond_t h c1
    refine aw_seq (aw_region ?_)
    iterate 3 refine s_sa ?_
    refine aops_nil ?_
    cases Option.some.inj h
    exact aw_ret ⟨rfl, rv (rn (.cons o1 (.cons o1 (.cons o1 .nil))))⟩
  replace h := Md.cond_f h c1
  refine aw_skip (aw_seq (aw_region (s_mv ?_)))
  obtain ⟨x2, hx2, h⟩ := Md.bind_s h
  refine aops_step1 rfl (ev_call_v (wire_Uint_fn k a0 x2 hx2) rfl [] ai rfl rfl rfl (.inl rfl) rfl) (s_mt ?_)
  iterate 3 refine s_ex ?_
  iterate 3 refine s_sa ?_
  refine aops_nil (aw_seq (aw_seq (aw_region (s_mv ?_))))
  refine s_cm ?_
  refine aops_nil ?_
  refine aw_cond rfl (fun c3 => ?_) (fun c3 => ?_)
  · replace h := Md.cond_t h c3
    refine aw_seq (aw_region (s_mv ?_))
    iterate 3 refine s_sa ?_
    refine aops_nil ?_
    cases Option.some.inj h
    exact aw_ret ⟨rfl, rv (rn (.cons o1 (.cons o1 (.cons o1 .nil))))⟩
  replace h := Md.cond_f h c3
  refine aw_skip (aw_seq (aw_seq (aw_region ?_)))
  iterate 2 refine s_mv ?_
  refine aops_step1 rfl (st_conv_int rfl rfl Try.underlying3 Try.underlying97 (Md.ofInt_u64 a1)) (s_cm ?_)
  refine aops_nil ?_
  refine aw_cond rfl (fun c4 => ?_) (fun c4 => ?_)
  · replace h := Md.cond_t h c4
    refine aw_seq (aw_region ?_)
    iterate 3 refine s_sa ?_
    refine aops_nil ?_
    cases Option.some.inj h
    exact aw_ret ⟨rfl, rv (rn (.cons o1 (.cons o1 (.cons o1 .nil))))⟩
  replace h := Md.cond_f h c4
  refine aw_skip (aw_seq (aw_region (s_mv ?_)))
  refine aops_step1 rfl (st_conv_int rfl rfl Try.underlying97 Try.underlying3 (Md.wrap_W _)) (s_mv ?_)
  iterate 3 refine s_sa ?_
  refine aops_nil ?_
  cases Option.some.inj h
  exact aw_ret ⟨rfl, rv (rn (.cons o1 (.cons o1 (.cons o1 .nil))))⟩
set_option maxHeartbeats 2000000 in
theorem wire_String_fn (k : Nat) (a0 : List UInt8) (a1 : Int) (r : (List UInt8) × Int × Int) (h : wire_String k a0 a1 = some r) : FnC Try.prog 73 [.one (CV.ls byC a0), vI a1] [] (Det (.tup [.one (.val (Sv r.1)), vI r.2.1, vI r.2.2]) []) := by
  unfold wire_String at h
  refine fn_intro' 34 Try.func73 rfl rfl rfl (aw_seq (aw_region ?_))
  iterate 3 refine s_sa ?_
  refine aops_nil (aw_seq (aw_region ?_))
  iterate 2 refine s_mv ?_
  obtain ⟨x1, hx1, h⟩ := Md.bind_s h
  refine aops_step1 rfl (ev_call_v (wire_length_fn k a0 a1 x1 hx1) rfl [] ai rfl rfl rfl (.inl rfl) rfl) (s_mt ?_)
  iterate 3 refine s_ex ?_
  iterate 3 refine s_sa ?_
  refine aops_nil (aw_seq (aw_seq (aw_region (s_mv ?_))))
  refine s_cm ?_
  refine aops_nil ?_
  refine aw_cond rfl (fun c2 => ?_) (fun c2 => ?_)
  · replace h := Md.cond_t h c2
    refine aw_seq (aw_region (s_mv ?_))
    iterate 3 refine s_sa ?_
    refine aops_nil ?_
    cases Option.some.inj h
    exact aw_ret ⟨rfl, rv (rn (.cons o1 (.cons o1 (.cons o1 .nil))))⟩
  replace h := Md.cond_f h c2
  refine aw_skip (aw_seq (aw_seq (aw_region (s_mv ?_))))
  refine s_ln ?_
  refine s_mv ?_
  refine aops_step1 rfl (ev_sub rfl rfl rfl (Md.wrap_W _)) (s_mv ?_)
  refine s_cm ?_
  refine aops_nil ?_
  refine aw_cond rfl (fun c3 => ?_) (fun c3 => ?_)
  · replace h := Md.cond_t h c3
    refine aw_seq (aw_region ?_)
    iterate 3 refine s_sa ?_
    refine aops_nil ?_
    cases Option.some.inj h
    exact aw_ret ⟨rfl, rv (rn (.cons o1 (.cons o1 (.cons o1 .nil))))⟩
  replace h := Md.cond_f h c3
  refine aw_skip (aw_seq (aw_region ?_))
  iterate 4 refine s_mv ?_
  refine aops_step1 rfl (ev_add rfl rfl rfl (Md.wrap_W _)) ?_
  obtain ⟨g4, h⟩ := Md.ifp_s h
  obtain ⟨g5, h⟩ := Md.ifp_s h
  obtain ⟨g6, h⟩ := Md.ifp_s h
  refine aops_step1 rfl (st_cut_both (f := byC) (fun _ => rfl) rfl ⟨_, _, rfl, (Md.nn_eq g4)⟩ ⟨_, _, rfl, (Md.nn_eq g5)⟩ g6 rfl) ?_
  refine aops_step1 rfl (ev_str_bytes (.inl rfl) Try.underlying25 Try.underlying5 Try.underlying9 rfl) ?_
  iterate 2 refine s_mv ?_
  refine aops_step1 rfl (ev_add rfl rfl rfl (Md.wrap_W _)) ?_
  iterate 3 refine s_sa ?_
  refine aops_nil ?_
  cases Option.some.inj h
  exact aw_ret ⟨rfl, rv (rn (.cons o1 (.cons o1 (.cons o1 .nil))))⟩
set_option maxHeartbeats 2000000 in
theorem wire_list_int__wire_Int_fn (k : Nat) (a0 : List UInt8) (a1 : Int) (r : (List Int) × Int × Int) (h : wire_list_int__wire_Int k a0 a1 = some r) : FnC Try.prog 98 [.one (CV.ls byC a0), vI a1, .one (.fn 88 [])] [] (Det (.tup [.one (CV.ls c_Int r.1), vI r.2.1, vI r.2.2]) []) := by
  unfold wire_list_int__wire_Int at h
  refine fn_intro' 52 Try.func98 rfl rfl rfl (aw_seq (aw_region ?_))
  iterate 3 refine s_sa ?_
  refine aops_nil (aw_seq (aw_region ?_))
  iterate 2 refine s_mv ?_
  obtain ⟨x1, hx1, h⟩ := Md.bind_s h
  refine aops_step1 rfl (ev_call_v (wire_length_fn k a0 a1 x1 hx1) rfl [] ai rfl rfl rfl (.inl rfl) rfl) (s_mt ?_)
  iterate 3 refine s_ex ?_
  iterate 3 refine s_sa ?_
  refine aops_nil (aw_seq (aw_seq (aw_region (s_sa ?_))))
  refine aops_nil (aw_block (aw_own_nil 6 0 3 1 (lsEl c_Int []) rfl rfl ?_))
  obtain ⟨o2, ho2, h⟩ := Md.bind_s h
  refine aw_loop_x (ι := {p : Nat × Int × Int × Nat × (List Int) // zqbx k a0 x1 p.1 p.2.1 p.2.2.1 p.2.2.2.1 p.2.2.2.2 = some o2}) (fun p => (⟨52, [], [(0, .one (CV.ls byC a0)), (2, .one (.fn 88 [])), (6, .one (.own 0)), (7, vI p.1.2.1), (8, vI p.1.2.2.1), (9, vI x1.1), (10, vI ((p.1.2.2.2.1 : Nat) : Int))], [(0, some (.row 3 1 p.1.2.2.2.2.length (lsEl c_Int p.1.2.2.2.2)))]⟩ : ASt)) (fun p => p.1.1) ⟨(k, x1.2.1, x1.2.2, 0, ([] : List Int)), ho2⟩ wk 0 (ε := (Int × Int × (List Int))) (fun x => (⟨52, [], [(6, .one (.own 0)), (7, vI x.1), (8, vI x.2.1)], [(0, some (.row 3 1 x.2.2.length (lsEl c_Int x.2.2)))]⟩ : ASt)) (fun x => x = o2) (fun _ _ w h => aw_weak w h) ?_ ?_
  · intro x2_0 hI2
    subst hI2
    change AW _ _ (⟨52, [], [(6, .one (.own 0)), (7, vI x2_0.1), (8, vI x2_0.2.1)], [(0, some (.row 3 1 x2_0.2.2.length (lsEl c_Int x2_0.2.2)))]⟩ : ASt) _
    refine aw_seq (aw_seq (aw_region (s_mv ?_)))
    refine s_cm ?_
    refine aops_nil ?_
    refine aw_cond rfl (fun c3 => ?_) (fun c3 => ?_)
    · replace h := Md.cond_t h c3
      refine aw_seq (aw_region (s_mv ?_))
      iterate 3 refine s_sa ?_
      refine aops_nil ?_
      cases Option.some.inj h
      exact aw_ret ⟨rfl, rv (rn (.cons o1 (.cons o1 (.cons o1 .nil))))⟩
    replace h := Md.cond_f h c3
    refine aw_skip (aw_seq (aw_region ?_))
    iterate 2 refine s_mv ?_
    iterate 3 refine s_sa ?_
    refine aops_nil ?_
    cases Option.some.inj h
    refine aw_freeze 0 rfl ?_
    exact aw_ret ⟨rfl, rv (rn (.cons o1 (.cons o1 (.cons o1 .nil))))⟩
  intro p2
  obtain ⟨⟨n2, s2_0, s2_1, s2_2, s2_3⟩, l2⟩ := p2
  change AW _ _ (⟨52, [], [(0, .one (CV.ls byC a0)), (2, .one (.fn 88 [])), (6, .one (.own 0)), (7, vI s2_0), (8, vI s2_1), (9, vI x1.1), (10, vI ((s2_2 : Nat) : Int))], [(0, some (.row 3 1 s2_3.length (lsEl c_Int s2_3)))]⟩ : ASt) _
  replace l2 : zqbx k a0 x1 n2 s2_0 s2_1 s2_2 s2_3 = some o2 := l2
  rcases n2 with _ | n2
  · exact absurd (show none = some o2 from l2) nofun
  rw [zqbx] at l2
  refine aw_seq (aw_seq (aw_region (s_mv ?_)))
  refine s_cm ?_
  refine s_mv ?_
  refine aops_mid 4 (⟨52, [], [(0, .one (CV.ls byC a0)), (2, .one (.fn 88 [])), (6, .one (.own 0)), (7, vI s2_0), (8, vI s2_1), (9, vI x1.1), (10, vI ((s2_2 : Nat) : Int)), (27, vB ((s2_1 == 0) && (decide (((s2_2 : Nat) : Int) < x1.1))))], [(0, some (.row 3 1 s2_3.length (lsEl c_Int s2_3)))]⟩ : ASt) ?_ ?_
  · rcases Md.bool_or ((s2_1 == 0)) with q4 | q4
    · skip
      iterate 2 refine y_mv q4 ?_
      refine y_cm q4 ?_
      refine s_py q4 ?_
      refine aops_nil ?_
      exact wq q4
    iterate 3 refine np q4 ?_
    refine s_pn q4 ?_
    refine aops_nil ?_
    exact wq q4
  refine aops_nil ?_
  refine aw_cond rfl (fun c5 => ?_) (fun c5 => ?_)
  · replace l2 := Md.cond_t l2 c5
    refine aw_skip (aw_seq (aw_block (aw_seq (aw_region ?_))))
    iterate 3 refine s_mv ?_
    obtain ⟨g6, l2⟩ := Md.ifp_s l2
    obtain ⟨g7, l2⟩ := Md.ifp_s l2
    refine aops_step1 rfl (st_cut_lo (f := byC) (fun _ => rfl) rfl ⟨_, _, rfl, (Md.nn_eq g6)⟩ g7 rfl) ?_
    obtain ⟨x8, hx8, l2⟩ := Md.bind_s l2
    refine aops_step1 rfl (ev_callee rfl (ev_call_v (wire_Int_fn k (a0.drop ((s2_0).toNat)) x8 hx8) rfl [] ai rfl rfl rfl (.inl rfl) rfl)) (s_mt ?_)
    iterate 3 refine s_ex ?_
    iterate 3 refine s_sa ?_
    refine aops_nil (aw_region ?_)
    iterate 2 refine s_mv ?_
    refine aops_step1 rfl (st_slice_lit (el := lsEl c_Int [x8.1]) 1 rfl rfl rfl rfl rfl rfl rfl rfl (lit_el c_Int 1 [x8.1] (fun _ => rfl)) rfl) ?_
    obtain ⟨g9, l2⟩ := Md.ifp_s l2
    refine aops_step1 rfl (st_app_ls (f := c_Int) s2_3 [x8.1] (fun _ => rfl) rfl rfl (.inr ⟨_, _, rfl, rfl⟩) (by omega) (by omega) rfl) ?_
    iterate 2 refine s_mv ?_
    refine aops_step1 rfl (ev_add rfl rfl rfl (Md.wrap_W _)) (s_mv ?_)
    iterate 3 refine s_sa ?_
    refine aops_nil (aw_region (s_mv ?_))
    obtain ⟨g10, l2⟩ := Md.ifp_s l2
    refine aops_step1 rfl (ev_add rfl rfl rfl (Md.nat_add g10)) (s_sa ?_)
    refine aops_nil ?_
    exact ⟨⟨(n2, (Md.W (s2_0 + x8.2.1)), x8.2.2, (s2_2 + 1), (s2_3 ++ [x8.1])), l2⟩, Nat.lt_succ_self _, wk⟩
  replace l2 := Md.cond_f l2 c5
  refine aw_exit ?_
  show ∃ _x : Int × Int × (List Int), _ = _ ∧ Weak _ _
  exact ⟨(s2_0, s2_1, s2_3), Option.some.inj l2, wk⟩
set_option maxHeartbeats 2000000 in
theorem wire_IntList_fn (k : Nat) (a0 : List UInt8) (a1 : Int) (r : (List Int) × Int × Int) (h : wire_IntList k a0 a1 = some r) : FnC Try.prog 90 [.one (CV.ls byC a0), vI a1] [] (Det (.tup [.one (CV.ls c_Int r.1), vI r.2.1, vI r.2.2]) []) := by
  unfold wire_IntList at h
  refine fn_intro' 13 Try.func90 rfl rfl rfl (aw_seq (aw_region ?_))
  iterate 3 refine s_sa ?_
  refine aops_nil (aw_seq (aw_region ?_))
  iterate 2 refine s_mv ?_
  obtain ⟨x1, hx1, h⟩ := Md.bind_s h
  refine aops_step1 rfl (ev_call_v (wire_list_int__wire_Int_fn k a0 a1 x1 hx1) rfl [] ai rfl rfl rfl (.inl rfl) rfl) ?_
  iterate 3 refine s_ex ?_
  iterate 3 refine s_sa ?_
  refine aops_nil ?_
  cases Option.some.inj h
  exact aw_ret ⟨rfl, rv (rn (.cons o1 (.cons o1 (.cons o1 .nil))))⟩
set_option maxHeartbeats 2000000 in
theorem wire_StringList_1_fn (k : Nat) (a0 : List UInt8) (r : (List UInt8) × Int × Int) (h : wire_StringList_1 k a0 = some r) : FnC Try.prog 100 [.one (CV.ls byC a0)] [] (Det (.tup [.one (.val (Sv r.1)), vI r.2.1, vI r.2.2]) []) := by
  unfold wire_StringList_1 at h
  refine fn_intro' 10 Try.func100 rfl rfl rfl (aw_seq (aw_region ?_))
  iterate 3 refine s_sa ?_
  refine aops_nil (aw_seq (aw_region (s_mv ?_)))
  obtain ⟨x1, hx1, h⟩ := Md.bind_s h
  refine aops_step1 rfl (ev_call_v (wire_String_fn k a0 64 x1 hx1) rfl [] ai rfl rfl rfl (.inl rfl) rfl) ?_
  iterate 3 refine s_ex ?_
  iterate 3 refine s_sa ?_
  refine aops_nil ?_
  cases Option.some.inj h
  exact aw_ret ⟨rfl, rv (rn (.cons o1 (.cons o1 (.cons o1 .nil))))⟩
set_option maxHeartbeats 2000000 in
theorem zqbz (k : Nat) (a0 : List UInt8) (a1 : Int) (r : (List (List UInt8)) × Int × Int) (h : zqby k a0 a1 = some r) : FnC Try.prog 99 [.one (CV.ls byC a0), vI a1, .one (.fn 100 [])] [] (Det (.tup [.one (CV.ls c_Str r.1), vI r.2.1, vI r.2.2]) []) := by
  unfold zqby at h
  refine fn_intro' 52 Try.func99 rfl rfl rfl (aw_seq (aw_region ?_))
  iterate 3 refine s_sa ?_
  refine aops_nil (aw_seq (aw_region ?_))
  iterate 2 refine s_mv ?_
  obtain ⟨x1, hx1, h⟩ := Md.bind_s h
  refine aops_step1 rfl (ev_call_v (wire_length_fn k a0 a1 x1 hx1) rfl [] ai rfl rfl rfl (.inl rfl) rfl) (s_mt ?_)
  iterate 3 refine s_ex ?_
  iterate 3 refine s_sa ?_
  refine aops_nil (aw_seq (aw_seq (aw_region (s_sa ?_))))
  refine aops_nil (aw_block (aw_own_nil 6 0 9 1 (lsEl c_Str []) rfl rfl ?_))
  obtain ⟨o2, ho2, h⟩ := Md.bind_s h
  refine aw_loop_x (ι := {p : Nat × Int × Int × Nat × (List (List UInt8)) // zqca k a0 x1 p.1 p.2.1 p.2.2.1 p.2.2.2.1 p.2.2.2.2 = some o2}) (fun p => (⟨52, [], [(0, .one (CV.ls byC a0)), (2, .one (.fn 100 [])), (6, .one (.own 0)), (7, vI p.1.2.1), (8, vI p.1.2.2.1), (9, vI x1.1), (10, vI ((p.1.2.2.2.1 : Nat) : Int))], [(0, some (.row 9 1 p.1.2.2.2.2.length (lsEl c_Str p.1.2.2.2.2)))]⟩ : ASt)) (fun p => p.1.1) ⟨(k, x1.2.1, x1.2.2, 0, ([] : List (List UInt8))), ho2⟩ wk 0 (ε := (Int × Int × (List (List UInt8)))) (fun x => (⟨52, [], [(6, .one (.own 0)), (7, vI x.1), (8, vI x.2.1)], [(0, some (.row 9 1 x.2.2.length (lsEl c_Str x.2.2)))]⟩ : ASt)) (fun x => x = o2) (fun _ _ w h => aw_weak w h) ?_ ?_
  · intro x2_0 hI2
    subst hI2
    change AW _ _ (⟨52, [], [(6, .one (.own 0)), (7, vI x2_0.1), (8, vI x2_0.2.1)], [(0, some (.row 9 1 x2_0.2.2.length (lsEl c_Str x2_0.2.2)))]⟩ : ASt) _
    refine aw_seq (aw_seq (aw_region (s_mv ?_)))
    refine s_cm ?_
    refine aops_nil ?_
    refine aw_cond rfl (fun c3 => ?_) (fun c3 => ?_)
    · replace h := Md.cond_t h c3
      refine aw_seq (aw_region (s_mv ?_))
      iterate 3 refine s_sa ?_
      refine aops_nil ?_
      cases Option.some.inj h
      exact aw_ret ⟨rfl, rv (rn (.cons o1 (.cons o1 (.cons o1 .nil))))⟩
    replace h := Md.cond_f h c3
    refine aw_skip (aw_seq (aw_region ?_))
    iterate 2 refine s_mv ?_
    iterate 3 refine s_sa ?_
    refine aops_nil ?_
    cases Option.some.inj h
    refine aw_freeze 0 rfl ?_
    exact aw_ret ⟨rfl, rv (rn (.cons o1 (.cons o1 (.cons o1 .nil))))⟩
  intro p2
  obtain ⟨⟨n2, s2_0, s2_1, s2_2, s2_3⟩, l2⟩ := p2
  change AW _ _ (⟨52, [], [(0, .one (CV.ls byC a0)), (2, .one (.fn 100 [])), (6, .one (.own 0)), (7, vI s2_0), (8, vI s2_1), (9, vI x1.1), (10, vI ((s2_2 : Nat) : Int))], [(0, some (.row 9 1 s2_3.length (lsEl c_Str s2_3)))]⟩ : ASt) _
  replace l2 : zqca k a0 x1 n2 s2_0 s2_1 s2_2 s2_3 = some o2 := l2
  rcases n2 with _ | n2
  · exact absurd (show none = some o2 from l2) nofun
  rw [zqca] at l2
  refine aw_seq (aw_seq (aw_region (s_mv ?_)))
  refine s_cm ?_
  refine s_mv ?_
  refine aops_mid 4 (⟨52, [], [(0, .one (CV.ls byC a0)), (2, .one (.fn 100 [])), (6, .one (.own 0)), (7, vI s2_0), (8, vI s2_1), (9, vI x1.1), (10, vI ((s2_2 : Nat) : Int)), (27, vB ((s2_1 == 0) && (decide (((s2_2 : Nat) : Int) < x1.1))))], [(0, some (.row 9 1 s2_3.length (lsEl c_Str s2_3)))]⟩ : ASt) ?_ ?_
  · rcases Md.bool_or ((s2_1 == 0)) with q4 | q4
    · skip
      iterate 2 refine y_mv q4 ?_
      refine y_cm q4 ?_
      refine s_py q4 ?_
      refine aops_nil ?_
      exact wq q4
    iterate 3 refine np q4 ?_
    refine s_pn q4 ?_
    refine aops_nil ?_
    exact wq q4
  refine aops_nil ?_
  refine aw_cond rfl (fun c5 => ?_) (fun c5 => ?_)
  · replace l2 := Md.cond_t l2 c5
    refine aw_skip (aw_seq (aw_block (aw_seq (aw_region ?_))))
    iterate 3 refine s_mv ?_
    obtain ⟨g6, l2⟩ := Md.ifp_s l2
    obtain ⟨g7, l2⟩ := Md.ifp_s l2
    refine aops_step1 rfl (st_cut_lo (f := byC) (fun _ => rfl) rfl ⟨_, _, rfl, (Md.nn_eq g6)⟩ g7 rfl) ?_
    obtain ⟨x8, hx8, l2⟩ := Md.bind_s l2
    refine aops_step1 rfl (ev_callee rfl (ev_call_v (wire_StringList_1_fn k (a0.drop ((s2_0).toNat)) x8 hx8) rfl [] ai rfl rfl rfl (.inl rfl) rfl)) (s_mt ?_)
    iterate 3 refine s_ex ?_
    iterate 3 refine s_sa ?_
    refine aops_nil (aw_region ?_)
    iterate 2 refine s_mv ?_
    refine aops_step1 rfl (st_slice_lit (el := lsEl c_Str [x8.1]) 1 rfl rfl rfl rfl rfl rfl rfl rfl (lit_el c_Str 1 [x8.1] (fun _ => rfl)) rfl) ?_
    obtain ⟨g9, l2⟩ := Md.ifp_s l2
    refine aops_step1 rfl (st_app_ls (f := c_Str) s2_3 [x8.1] (fun _ => rfl) rfl rfl (.inr ⟨_, _, rfl, rfl⟩) (by omega) (by omega) rfl) ?_
    iterate 2 refine s_mv ?_
    refine aops_step1 rfl (ev_add rfl rfl rfl (Md.wrap_W _)) (s_mv ?_)
    iterate 3 refine s_sa ?_
    refine aops_nil (aw_region (s_mv ?_))
    obtain ⟨g10, l2⟩ := Md.ifp_s l2
    refine aops_step1 rfl (ev_add rfl rfl rfl (Md.nat_add g10)) (s_sa ?_)
    refine aops_nil ?_
    exact ⟨⟨(n2, (Md.W (s2_0 + x8.2.1)), x8.2.2, (s2_2 + 1), (s2_3 ++ [x8.1])), l2⟩, Nat.lt_succ_self _, wk⟩
  replace l2 := Md.cond_f l2 c5
  refine aw_exit ?_
  show ∃ _x : Int × Int × (List (List UInt8)), _ = _ ∧ Weak _ _
  exact ⟨(s2_0, s2_1, s2_3), Option.some.inj l2, wk⟩
set_option maxHeartbeats 2000000 in
theorem wire_StringList_fn (k : Nat) (a0 : List UInt8) (a1 : Int) (r : (List (List UInt8)) × Int × Int) (h : wire_StringList k a0 a1 = some r) : FnC Try.prog 91 [.one (CV.ls byC a0), vI a1] [] (Det (.tup [.one (CV.ls c_Str r.1), vI r.2.1, vI r.2.2]) []) := by
  unfold wire_StringList at h
  refine fn_intro' 13 Try.func91 rfl rfl rfl (aw_seq (aw_region ?_))
  iterate 3 refine s_sa ?_
  refine aops_nil (aw_seq (aw_region ?_))
  iterate 2 refine s_mv ?_
  obtain ⟨x1, hx1, h⟩ := Md.bind_s h
  refine aops_step1 rfl (ev_call_v (zqbz k a0 a1 x1 hx1) rfl [] ai rfl rfl rfl (.inl rfl) rfl) ?_
  iterate 3 refine s_ex ?_
  iterate 3 refine s_sa ?_
  refine aops_nil ?_
  cases Option.some.inj h
  exact aw_ret ⟨rfl, rv (rn (.cons o1 (.cons o1 (.cons o1 .nil))))⟩
set_option maxHeartbeats 2000000 in
theorem wire_boolean_fn (k : Nat) (a0 : List UInt8) (r : Int × Int × Int) (h : wire_boolean k a0 = some r) : FnC Try.prog 89 [.one (CV.ls byC a0)] [] (Det (.tup [vI r.1, vI r.2.1, vI r.2.2]) []) := by
  unfold wire_boolean at h
  refine fn_intro' 18 Try.func89 rfl rfl rfl (aw_seq (aw_region ?_))
  iterate 3 refine s_sa ?_
  refine aops_nil (aw_seq (aw_block (aw_seq (aw_region (s_mv ?_)))))
  refine s_ln ?_
  refine s_cm ?_
  refine s_sa ?_
  refine aops_nil ?_
  refine aw_cond rfl (fun c1 => ?_) (fun c1 => ?_)
  · replace h := Md.cond_t h c1
    refine aw_seq (aw_region ?_)
    iterate 3 refine s_sa ?_
    refine aops_nil ?_
    cases Option.some.inj h
    exact aw_ret ⟨rfl, rv (rn (.cons o1 (.cons o1 (.cons o1 .nil))))⟩
  replace h := Md.cond_f h c1
  refine aw_seq (aw_region (s_mv ?_))
  obtain ⟨g2, h⟩ := Md.ifp_s h
  refine aops_step1 rfl (ev_index_in rfl rfl rfl g2 rfl rfl) (aops_step1 rfl (ev_load_in rfl rfl rfl) (s_cm ?_))
  refine s_sa ?_
  refine aops_nil ?_
  refine aw_cond rfl (fun c3 => ?_) (fun c3 => ?_)
  · replace h := Md.cond_t h c3
    refine aw_seq (aw_region ?_)
    iterate 3 refine s_sa ?_
    refine aops_nil ?_
    cases Option.some.inj h
    exact aw_ret ⟨rfl, rv (rn (.cons o1 (.cons o1 (.cons o1 .nil))))⟩
  replace h := Md.cond_f h c3
  refine aw_skip (aw_seq (aw_region (s_mv ?_)))
  obtain ⟨g4, h⟩ := Md.ifp_s h
  refine aops_step1 rfl (ev_index_in rfl rfl rfl g4 rfl rfl) (aops_step1 rfl (ev_load_in rfl rfl rfl) ?_)
  refine aops_step1 rfl (st_conv_int rfl rfl Try.underlying5 Try.underlying3 (Md.conv_u8_i64 (a0.getD 0 default))) ?_
  iterate 3 refine s_sa ?_
  refine aops_nil ?_
  cases Option.some.inj h
  exact aw_ret ⟨rfl, rv (rn (.cons o1 (.cons o1 (.cons o1 .nil))))⟩
set_option maxHeartbeats 2000000 in
theorem wire_Value_fn (k : Nat) (a0 : List UInt8) (r : Value × Int × Int) (h : wire_Value k a0 = some r) : FnC Try.prog 74 [.one (CV.ls byC a0)] [] (Det (.tup [.agg (c_Value r.1), vI r.2.1, vI r.2.2]) []) := by
  unfold wire_Value at h
  refine fn_intro' 73 Try.func74 rfl rfl rfl (aw_seq (aw_region ?_))
  refine aops_step1 rfl (st_alloc (cs := [cI 0, cI 0, .val (Sv []), .val (.slice none 0 0), .val (.slice none 0 0)]) 0 rfl rfl rfl rfl rfl) ?_
  iterate 2 refine s_sa ?_
  refine aops_nil (aw_seq (aw_seq (aw_region (s_mv ?_))))
  refine s_ln ?_
  refine s_cm ?_
  refine aops_nil ?_
  refine aw_cond rfl (fun c1 => ?_) (fun c1 => ?_)
  · replace h := Md.cond_t h c1
    refine aw_seq (aw_region (aops_step1 rfl (ev_build' (out := [_, _, _, _, _]) rfl rfl rfl rfl rfl) (s_st [_, _, _, _, _] ?_)))
    iterate 2 refine s_sa ?_
    refine aops_nil ?_
    cases Option.some.inj h
    exact aw_ret ⟨rfl, rv (rn (.cons (va [_, _, _, _, _]) (.cons o1 (.cons o1 .nil))))⟩
  replace h := Md.cond_f h c1
  refine aw_skip (aw_seq (aw_region (s_mv ?_)))
  obtain ⟨g2, h⟩ := Md.ifp_s h
  refine aops_step1 rfl (ev_index_in rfl rfl rfl g2 rfl rfl) (aops_step1 rfl (ev_load_in rfl rfl rfl) ?_)
  refine aops_step1 rfl (st_conv_int rfl rfl Try.underlying5 Try.underlying3 (Md.conv_u8_i64 (a0.getD 0 default))) (s_fd ?_)
  refine s_st [_, _, _, _, _] ?_
  refine aops_nil (aw_seq (aw_region (s_mv ?_)))
  obtain ⟨g3, h⟩ := Md.ifp_s h
  refine aops_step1 rfl (st_cut_lo (f := byC) (fun _ => rfl) rfl ⟨_, _, rfl, rfl⟩ g3 rfl) (s_sa ?_)
  refine aops_nil (aw_seq (aw_seq (aw_region (s_fd ?_))))
  refine s_ld ?_
  refine aops_nil (aw_block (aw_seq (aw_region (s_cm ?_))))
  refine s_sa ?_
  refine aops_nil ?_
  refine aw_cond rfl (fun c4 => ?_) (fun c4 => ?_)
  · replace h := Md.cond_t h c4
    refine aw_skip (aw_seq (aw_seq (aw_region (s_mv ?_))))
    refine aops_step1 rfl (ev_cmp (b := false) rfl rfl rfl rfl) (aops_nil (aw_no rfl (rfl) (aw_skip (aw_seq (aw_region (s_ls [_, _, _, _, _] ?_))))))
    refine s_mv ?_
    refine aops_step1 rfl (ev_add (q := 1) rfl rfl rfl (by decide)) (s_st [_, _, _, _, _] ?_)
    iterate 2 refine s_sa ?_
    refine aops_nil ?_
    cases Option.some.inj h
    exact aw_ret ⟨rfl, rv (rn (.cons (va [_, _, _, _, _]) (.cons o1 (.cons o1 .nil))))⟩
  replace h := Md.cond_f h c4
  refine aw_seq (aw_region (s_cm ?_))
  refine s_sa ?_
  refine aops_nil ?_
  refine aw_cond rfl (fun c5 => ?_) (fun c5 => ?_)
  · replace h := Md.cond_t h c5
    refine aw_region (s_mv ?_)
    obtain ⟨x6, hx6, h⟩ := Md.bind_s h
    refine aops_step1 rfl (ev_call_v (wire_Int_fn k (a0.drop 1) x6 hx6) rfl [] ai rfl rfl rfl (.inl rfl) rfl) (s_mt ?_)
    iterate 3 refine s_ex ?_
    refine s_fd ?_
    refine s_st [_, _, _, _, _] ?_
    iterate 2 refine s_sa ?_
    refine aops_nil (aw_seq (aw_seq (aw_region (s_mv ?_))))
    refine s_cm ?_
    refine aops_nil ?_
    refine aw_cond rfl (fun c7 => ?_) (fun c7 => ?_)
    · replace h := Md.cond_t h c7
      refine aw_seq (aw_region (aops_step1 rfl (ev_build' (out := [_, _, _, _, _]) rfl rfl rfl rfl rfl) (s_mv ?_)))
      refine s_st [_, _, _, _, _] ?_
      iterate 2 refine s_sa ?_
      refine aops_nil ?_
      cases Option.some.inj h
      exact aw_ret ⟨rfl, rv (rn (.cons (va [_, _, _, _, _]) (.cons o1 (.cons o1 .nil))))⟩
    replace h := Md.cond_f h c7
    refine aw_skip (aw_seq (aw_region (s_ls [_, _, _, _, _] ?_)))
    refine s_mv ?_
    refine aops_step1 rfl (ev_add rfl rfl rfl (Md.wrap_W _)) (s_st [_, _, _, _, _] ?_)
    iterate 2 refine s_sa ?_
    refine aops_nil ?_
    cases Option.some.inj h
    exact aw_ret ⟨rfl, rv (rn (.cons (va [_, _, _, _, _]) (.cons o1 (.cons o1 .nil))))⟩
  replace h := Md.cond_f h c5
  refine aw_seq (aw_region (s_cm ?_))
  refine s_sa ?_
  refine aops_nil ?_
  refine aw_cond rfl (fun c8 => ?_) (fun c8 => ?_)
  · replace h := Md.cond_t h c8
    refine aw_region (s_mv ?_)
    obtain ⟨x9, hx9, h⟩ := Md.bind_s h
    refine aops_step1 rfl (ev_call_v (wire_boolean_fn k (a0.drop 1) x9 hx9) rfl [] ai rfl rfl rfl (.inl rfl) rfl) (s_mt ?_)
    iterate 3 refine s_ex ?_
    refine s_fd ?_
    refine s_st [_, _, _, _, _] ?_
    iterate 2 refine s_sa ?_
    refine aops_nil (aw_seq (aw_seq (aw_region (s_mv ?_))))
    refine s_cm ?_
    refine aops_nil ?_
    refine aw_cond rfl (fun c10 => ?_) (fun c10 => ?_)
    · replace h := Md.cond_t h c10
      refine aw_seq (aw_region (aops_step1 rfl (ev_build' (out := [_, _, _, _, _]) rfl rfl rfl rfl rfl) (s_mv ?_)))
      refine s_st [_, _, _, _, _] ?_
      iterate 2 refine s_sa ?_
      refine aops_nil ?_
      cases Option.some.inj h
      exact aw_ret ⟨rfl, rv (rn (.cons (va [_, _, _, _, _]) (.cons o1 (.cons o1 .nil))))⟩
    replace h := Md.cond_f h c10
    refine aw_skip (aw_seq (aw_region (s_ls [_, _, _, _, _] ?_)))
    refine s_mv ?_
    refine aops_step1 rfl (ev_add rfl rfl rfl (Md.wrap_W _)) (s_st [_, _, _, _, _] ?_)
    iterate 2 refine s_sa ?_
    refine aops_nil ?_
    cases Option.some.inj h
    exact aw_ret ⟨rfl, rv (rn (.cons (va [_, _, _, _, _]) (.cons o1 (.cons o1 .nil))))⟩
  replace h := Md.cond_f h c8
  refine aw_seq (aw_region (s_cm ?_))
  refine s_sa ?_
  refine aops_nil ?_
  refine aw_cond rfl (fun c11 => ?_) (fun c11 => ?_)
  · replace h := Md.cond_t h c11
    refine aw_region (s_mv ?_)
    obtain ⟨x12, hx12, h⟩ := Md.bind_s h
    refine aops_step1 rfl (ev_call_v (wire_String_fn k (a0.drop 1) 64 x12 hx12) rfl [] ai rfl rfl rfl (.inl rfl) rfl) (s_mt ?_)
    iterate 3 refine s_ex ?_
    refine s_fd ?_
    refine s_st [_, _, _, _, _] ?_
    iterate 2 refine s_sa ?_
    refine aops_nil (aw_seq (aw_seq (aw_region (s_mv ?_))))
    refine s_cm ?_
    refine aops_nil ?_
    refine aw_cond rfl (fun c13 => ?_) (fun c13 => ?_)
    · replace h := Md.cond_t h c13
      refine aw_seq (aw_region (aops_step1 rfl (ev_build' (out := [_, _, _, _, _]) rfl rfl rfl rfl rfl) (s_mv ?_)))
      refine s_st [_, _, _, _, _] ?_
      iterate 2 refine s_sa ?_
      refine aops_nil ?_
      cases Option.some.inj h
      exact aw_ret ⟨rfl, rv (rn (.cons (va [_, _, _, _, _]) (.cons o1 (.cons o1 .nil))))⟩
    replace h := Md.cond_f h c13
    refine aw_skip (aw_seq (aw_region (s_ls [_, _, _, _, _] ?_)))
    refine s_mv ?_
    refine aops_step1 rfl (ev_add rfl rfl rfl (Md.wrap_W _)) (s_st [_, _, _, _, _] ?_)
    iterate 2 refine s_sa ?_
    refine aops_nil ?_
    cases Option.some.inj h
    exact aw_ret ⟨rfl, rv (rn (.cons (va [_, _, _, _, _]) (.cons o1 (.cons o1 .nil))))⟩
  replace h := Md.cond_f h c11
  refine aw_seq (aw_region (s_cm ?_))
  refine s_sa ?_
  refine aops_nil ?_
  refine aw_cond rfl (fun c14 => ?_) (fun c14 => ?_)
  · replace h := Md.cond_t h c14
    refine aw_region (s_mv ?_)
    obtain ⟨x15, hx15, h⟩ := Md.bind_s h
    refine aops_step1 rfl (ev_call_v (wire_IntList_fn k (a0.drop 1) 16 x15 hx15) rfl [] ai rfl rfl rfl (.inl rfl) rfl) (s_mt ?_)
    iterate 3 refine s_ex ?_
    refine s_fd ?_
    refine s_st [_, _, _, _, _] ?_
    iterate 2 refine s_sa ?_
    refine aops_nil (aw_seq (aw_seq (aw_region (s_mv ?_))))
    refine s_cm ?_
    refine aops_nil ?_
    refine aw_cond rfl (fun c16 => ?_) (fun c16 => ?_)
    · replace h := Md.cond_t h c16
      refine aw_seq (aw_region (aops_step1 rfl (ev_build' (out := [_, _, _, _, _]) rfl rfl rfl rfl rfl) (s_mv ?_)))
      refine s_st [_, _, _, _, _] ?_
      iterate 2 refine s_sa ?_
      refine aops_nil ?_
      cases Option.some.inj h
      exact aw_ret ⟨rfl, rv (rn (.cons (va [_, _, _, _, _]) (.cons o1 (.cons o1 .nil))))⟩
    replace h := Md.cond_f h c16
    refine aw_skip (aw_seq (aw_region (s_ls [_, _, _, _, _] ?_)))
    refine s_mv ?_
    refine aops_step1 rfl (ev_add rfl rfl rfl (Md.wrap_W _)) (s_st [_, _, _, _, _] ?_)
    iterate 2 refine s_sa ?_
    refine aops_nil ?_
    cases Option.some.inj h
    exact aw_ret ⟨rfl, rv (rn (.cons (va [_, _, _, _, _]) (.cons o1 (.cons o1 .nil))))⟩
  replace h := Md.cond_f h c14
  refine aw_seq (aw_region (s_cm ?_))
  refine s_sa ?_
  refine aops_nil ?_
  refine aw_cond rfl (fun c17 => ?_) (fun c17 => ?_)
  · replace h := Md.cond_t h c17
    refine aw_region (s_mv ?_)
    obtain ⟨x18, hx18, h⟩ := Md.bind_s h
    refine aops_step1 rfl (ev_call_v (wire_StringList_fn k (a0.drop 1) 16 x18 hx18) rfl [] ai rfl rfl rfl (.inl rfl) rfl) (s_mt ?_)
    iterate 3 refine s_ex ?_
    refine s_fd ?_
    refine s_st [_, _, _, _, _] ?_
    iterate 2 refine s_sa ?_
    refine aops_nil (aw_seq (aw_seq (aw_region (s_mv ?_))))
    refine s_cm ?_
    refine aops_nil ?_
    refine aw_cond rfl (fun c19 => ?_) (fun c19 => ?_)
    · replace h := Md.cond_t h c19
      refine aw_seq (aw_region (aops_step1 rfl (ev_build' (out := [_, _, _, _, _]) rfl rfl rfl rfl rfl) (s_mv ?_)))
      refine s_st [_, _, _, _, _] ?_
      iterate 2 refine s_sa ?_
      refine aops_nil ?_
      cases Option.some.inj h
      exact aw_ret ⟨rfl, rv (rn (.cons (va [_, _, _, _, _]) (.cons o1 (.cons o1 .nil))))⟩
    replace h := Md.cond_f h c19
    refine aw_skip (aw_seq (aw_region (s_ls [_, _, _, _, _] ?_)))
    refine s_mv ?_
    refine aops_step1 rfl (ev_add rfl rfl rfl (Md.wrap_W _)) (s_st [_, _, _, _, _] ?_)
    iterate 2 refine s_sa ?_
    refine aops_nil ?_
    cases Option.some.inj h
    exact aw_ret ⟨rfl, rv (rn (.cons (va [_, _, _, _, _]) (.cons o1 (.cons o1 .nil))))⟩
  replace h := Md.cond_f h c17
  refine aw_region (s_sa ?_)
  refine aops_nil (aw_seq (aw_seq (aw_region (s_mv ?_))))
  refine aops_step1 rfl (ev_cmp (b := true) rfl rfl rfl rfl) (aops_nil (aw_yes rfl (rfl) (aw_seq (aw_region ?_))))
  refine aops_step1 rfl (ev_build' (out := [_, _, _, _, _]) rfl rfl rfl rfl rfl) (s_mv ?_)
  refine s_st [_, _, _, _, _] ?_
  iterate 2 refine s_sa ?_
  refine aops_nil ?_
  cases Option.some.inj h
  exact aw_ret ⟨rfl, rv (rn (.cons (va [_, _, _, _, _]) (.cons o1 (.cons o1 .nil))))⟩
set_option maxHeartbeats 2000000 in
theorem bytecode_reader_take_fn (k : Nat) (a0 : Bytecodereader) (a1 : Int) (a2 : Int) (r : Bytecodereader) (h : bytecode_reader_take k a0 a1 a2 = some r) : FnC Try.prog 54 [.one (.ptr 0 0), vI a1, vI a2] (boxesH 0 [(c_Bytecodereader a0)]) (Det (.tup []) (boxesH 0 [(c_Bytecodereader r)])) := by
  unfold bytecode_reader_take at h
  refine fn_intro' 20 Try.func54 rfl rfl rfl (aw_seq (aw_seq (aw_region (s_mv ?_))))
  refine s_cm ?_
  refine aops_nil ?_
  refine aw_cond rfl (fun c1 => ?_) (fun c1 => ?_)
  · replace h := Md.cond_t h c1
    refine aw_seq (aw_region (s_mv ?_))
    refine aops_step1 rfl (ev_nilc rfl rfl) (s_fd ?_)
    refine s_st [_, _] ?_
    refine aops_nil ?_
    cases Option.some.inj h
    refine aw_ret ⟨rfl, ret_b (bs := [(c_Bytecodereader (⟨a0.b, true⟩ : Bytecodereader))]) (rn (.nil)) rfl rfl rfl rfl rfl (by intro i cs h; rcases i with _ | i <;> simp at h <;> (subst h; rfl)) ?_⟩
    (repeat' (first | exact .refl _ | exact .nil | refine .tup ?_ | refine .v ?_ | refine .cons ?_ ?_ | refine .agg ?_ | refine .one ?_ | exact .nil _ | exact .emp _ | refine .val ?_ | refine .slc ?_ ?_ | fail))
  replace h := Md.cond_f h c1
  refine aw_skip (aw_region ?_)
  iterate 2 refine s_mv ?_
  refine aops_step1 rfl (ev_nilc rfl rfl) (s_fd ?_)
  refine s_ld ?_
  refine s_mv ?_
  obtain ⟨g2, h⟩ := Md.ifp_s h
  obtain ⟨g3, h⟩ := Md.ifp_s h
  refine aops_step1 rfl (st_cut_lo (f := byC) (fun _ => rfl) rfl ⟨_, _, rfl, (Md.nn_eq g2)⟩ g3 rfl) (aops_step1 rfl (ev_nilc rfl rfl) (s_fd ?_))
  refine s_st [_, _] ?_
  refine aops_nil ?_
  cases Option.some.inj h
  refine ⟨rfl, ret_b (bs := [(c_Bytecodereader (⟨(a0.b.drop ((a1).toNat)), a0.failed⟩ : Bytecodereader))]) (rn (.nil)) rfl rfl rfl rfl rfl (by intro i cs h; rcases i with _ | i <;> simp at h <;> (subst h; rfl)) ?_⟩
  (repeat' (first | exact .refl _ | exact .nil | refine .tup ?_ | refine .v ?_ | refine .cons ?_ ?_ | refine .agg ?_ | refine .one ?_ | exact .nil _ | exact .emp _ | refine .val ?_ | refine .slc ?_ ?_ | fail))
set_option maxHeartbeats 2000000 in
theorem bytecode_reader_number_fn (k : Nat) (a0 : Bytecodereader) (a1 : Int) (r : Int × Bytecodereader) (h : bytecode_reader_number k a0 a1 = some r) : FnC Try.prog 22 [.one (.ptr 0 0), vI a1] (boxesH 0 [(c_Bytecodereader a0)]) (Det (vI r.1) (boxesH 0 [(c_Bytecodereader r.2)])) := by
  unfold bytecode_reader_number at h
  refine fn_intro' 30 Try.func22 rfl rfl rfl (aw_seq (aw_region (s_sa ?_)))
  refine aops_nil (aw_seq (aw_region (s_mv ?_)))
  refine aops_step1 rfl (ev_nilc rfl rfl) (s_fd ?_)
  refine s_ld ?_
  obtain ⟨x1, hx1, h⟩ := Md.bind_s h
  refine aops_step1 rfl (ev_call_v (wire_Uint_fn k a0.b x1 hx1) rfl [] ai rfl rfl rfl (.inl rfl) rfl) (s_mt ?_)
  iterate 3 refine s_ex ?_
  iterate 3 refine s_sa ?_
  refine aops_nil (aw_seq (aw_region ?_))
  iterate 3 refine s_mv ?_
  obtain ⟨x2, hx2, h⟩ := Md.bind_s h
  refine aops_step1 rfl (ev_call_b [0] (bytecode_reader_take_fn k a0 x1.2.1 x1.2.2 x2 hx2) rfl [] ai rfl rfl rfl rfl rfl rfl (.cons rfl .nil) rfl rfl rfl (.inl rfl) rfl) ?_
  refine aops_nil (aw_seq (aw_seq (aw_region ?_)))
  iterate 2 refine s_mv ?_
  refine aops_step1 rfl (st_conv_int rfl rfl Try.underlying3 Try.underlying97 (Md.ofInt_u64 a1)) (s_cm ?_)
  refine aops_nil ?_
  refine aw_cond rfl (fun c3 => ?_) (fun c3 => ?_)
  · replace h := Md.cond_t h c3
    refine aw_seq (aw_region (s_mv ?_))
    refine aops_step1 rfl (ev_nilc rfl rfl) (s_fd ?_)
    refine s_st [_, _] ?_
    refine aops_nil (aw_seq (aw_region (s_sa ?_)))
    refine aops_nil ?_
    cases Option.some.inj h
    refine aw_ret ⟨rfl, ret_b (bs := [(c_Bytecodereader (⟨x2.b, true⟩ : Bytecodereader))]) r1 rfl rfl rfl rfl rfl (by intro i cs h; rcases i with _ | i <;> simp at h <;> (subst h; rfl)) ?_⟩
    (repeat' (first | exact .refl _ | exact .nil | refine .tup ?_ | refine .v ?_ | refine .cons ?_ ?_ | refine .agg ?_ | refine .one ?_ | exact .nil _ | exact .emp _ | refine .val ?_ | refine .slc ?_ ?_ | fail))
  replace h := Md.cond_f h c3
  refine aw_skip (aw_seq (aw_region (s_mv ?_)))
  refine aops_step1 rfl (st_conv_int rfl rfl Try.underlying97 Try.underlying3 (Md.wrap_W _)) (s_sa ?_)
  refine aops_nil ?_
  cases Option.some.inj h
  refine aw_ret ⟨rfl, ret_b (bs := [(c_Bytecodereader x2)]) r1 rfl rfl rfl rfl rfl (by intro i cs h; rcases i with _ | i <;> simp at h <;> (subst h; rfl)) ?_⟩
  (repeat' (first | exact .refl _ | exact .nil | refine .tup ?_ | refine .v ?_ | refine .cons ?_ ?_ | refine .agg ?_ | refine .one ?_ | exact .nil _ | exact .emp _ | refine .val ?_ | refine .slc ?_ ?_ | fail))
set_option maxHeartbeats 2000000 in
theorem bytecode_reader_text_fn (k : Nat) (a0 : Bytecodereader) (r : (List UInt8) × Bytecodereader) (h : bytecode_reader_text k a0 = some r) : FnC Try.prog 55 [.one (.ptr 0 0)] (boxesH 0 [(c_Bytecodereader a0)]) (Det (.one (.val (Sv r.1))) (boxesH 0 [(c_Bytecodereader r.2)])) := by
  unfold bytecode_reader_text at h
  refine fn_intro' 20 Try.func55 rfl rfl rfl (aw_seq (aw_region (s_sa ?_)))
  refine aops_nil (aw_seq (aw_region (s_mv ?_)))
  refine aops_step1 rfl (ev_nilc rfl rfl) (s_fd ?_)
  refine s_ld ?_
  obtain ⟨x1, hx1, h⟩ := Md.bind_s h
  refine aops_step1 rfl (ev_call_v (wire_String_fn k a0.b 32 x1 hx1) rfl [] ai rfl rfl rfl (.inl rfl) rfl) (s_mt ?_)
  iterate 3 refine s_ex ?_
  iterate 3 refine s_sa ?_
  refine aops_nil (aw_seq (aw_region ?_))
  iterate 3 refine s_mv ?_
  obtain ⟨x2, hx2, h⟩ := Md.bind_s h
  refine aops_step1 rfl (ev_call_b [0] (bytecode_reader_take_fn k a0 x1.2.1 x1.2.2 x2 hx2) rfl [] ai rfl rfl rfl rfl rfl rfl (.cons rfl .nil) rfl rfl rfl (.inl rfl) rfl) ?_
  refine aops_nil (aw_seq (aw_region (s_mv ?_)))
  refine s_sa ?_
  refine aops_nil ?_
  cases Option.some.inj h
  refine aw_ret ⟨rfl, ret_b (bs := [(c_Bytecodereader x2)]) r1 rfl rfl rfl rfl rfl (by intro i cs h; rcases i with _ | i <;> simp at h <;> (subst h; rfl)) ?_⟩
  (repeat' (first | exact .refl _ | exact .nil | refine .tup ?_ | refine .v ?_ | refine .cons ?_ ?_ | refine .agg ?_ | refine .one ?_ | exact .nil _ | exact .emp _ | refine .val ?_ | refine .slc ?_ ?_ | fail))
set_option maxHeartbeats 2000000 in
theorem bytecode_reader_value_fn (k : Nat) (a0 : Bytecodereader) (r : Value × Bytecodereader) (h : bytecode_reader_value k a0 = some r) : FnC Try.prog 56 [.one (.ptr 0 0)] (boxesH 0 [(c_Bytecodereader a0)]) (Det (.agg (c_Value r.1)) (boxesH 0 [(c_Bytecodereader r.2)])) := by
  unfold bytecode_reader_value at h
  refine fn_intro' 20 Try.func56 rfl rfl rfl (aw_seq (aw_region ?_))
  refine aops_step1 rfl (st_alloc (cs := [cI 0, cI 0, .val (Sv []), .val (.slice none 0 0), .val (.slice none 0 0)]) 1 rfl rfl rfl rfl rfl) (aops_nil (aw_seq ?_))
  refine aw_region (s_mv ?_)
  refine aops_step1 rfl (ev_nilc rfl rfl) (s_fd ?_)
  refine s_ld ?_
  obtain ⟨x1, hx1, h⟩ := Md.bind_s h
  refine aops_step1 rfl (ev_call_v (wire_Value_fn k a0.b x1 hx1) rfl [] ai rfl rfl rfl (.inl rfl) rfl) (s_mt ?_)
  iterate 3 refine s_ex ?_
  refine aops_step1 rfl (st_alloc (cs := [cI 0, cI 0, .val (Sv []), .val (.slice none 0 0), .val (.slice none 0 0)]) 2 rfl rfl rfl rfl rfl) (s_st [_, _, _, _, _] ?_)
  iterate 2 refine s_sa ?_
  refine aops_nil (aw_seq (aw_region ?_))
  iterate 3 refine s_mv ?_
  obtain ⟨x2, hx2, h⟩ := Md.bind_s h
  refine aops_step1 rfl (ev_call_b [0] (bytecode_reader_take_fn k a0 x1.2.1 x1.2.2 x2 hx2) rfl [] ai rfl rfl rfl rfl rfl rfl (.cons rfl .nil) rfl rfl rfl (.inl rfl) rfl) ?_
  refine aops_nil (aw_seq (aw_region (s_ls [_, _, _, _, _] ?_)))
  refine s_st [_, _, _, _, _] ?_
  refine aops_nil ?_
  cases Option.some.inj h
  refine aw_ret ⟨rfl, ret_b (bs := [(c_Bytecodereader x2)]) (rg [_, _, _, _, _]) rfl rfl rfl rfl rfl (by intro i cs h; rcases i with _ | i <;> simp at h <;> (subst h; rfl)) ?_⟩
  (repeat' (first | exact .refl _ | exact .nil | refine .tup ?_ | refine .v ?_ | refine .cons ?_ ?_ | refine .agg ?_ | refine .one ?_ | exact .nil _ | exact .emp _ | refine .val ?_ | refine .slc ?_ ?_ | fail))
set_option maxHeartbeats 2000000 in
theorem bytecode_reader_list_fn (k : Nat) (a0 : Bytecodereader) (a1 : Int) (r : (List Int) × Bytecodereader) (h : bytecode_reader_list k a0 a1 = some r) : FnC Try.prog 75 [.one (.ptr 0 0), vI a1] (boxesH 0 [(c_Bytecodereader a0)]) (Det (.one (CV.ls c_Int r.1)) (boxesH 0 [(c_Bytecodereader r.2)])) := by
  unfold bytecode_reader_list at h
  refine fn_intro' 23 Try.func75 rfl rfl rfl (aw_seq (aw_region (s_sa ?_)))
  refine aops_nil (aw_seq (aw_region (s_mv ?_)))
  refine aops_step1 rfl (ev_nilc rfl rfl) (s_fd ?_)
  refine s_ld ?_
  refine s_mv ?_
  obtain ⟨x1, hx1, h⟩ := Md.bind_s h
  refine aops_step1 rfl (ev_call_v (wire_IntList_fn k a0.b a1 x1 hx1) rfl [] ai rfl rfl rfl (.inl rfl) rfl) (s_mt ?_)
  iterate 3 refine s_ex ?_
  iterate 3 refine s_sa ?_
  refine aops_nil (aw_seq (aw_region ?_))
  iterate 3 refine s_mv ?_
  obtain ⟨x2, hx2, h⟩ := Md.bind_s h
  refine aops_step1 rfl (ev_call_b [0] (bytecode_reader_take_fn k a0 x1.2.1 x1.2.2 x2 hx2) rfl [] ai rfl rfl rfl rfl rfl rfl (.cons rfl .nil) rfl rfl rfl (.inl rfl) rfl) ?_
  refine aops_nil (aw_seq (aw_region (s_mv ?_)))
  refine s_sa ?_
  refine aops_nil ?_
  cases Option.some.inj h
  refine aw_ret ⟨rfl, ret_b (bs := [(c_Bytecodereader x2)]) r1 rfl rfl rfl rfl rfl (by intro i cs h; rcases i with _ | i <;> simp at h <;> (subst h; rfl)) ?_⟩
  (repeat' (first | exact .refl _ | exact .nil | refine .tup ?_ | refine .v ?_ | refine .cons ?_ ?_ | refine .agg ?_ | refine .one ?_ | exact .nil _ | exact .emp _ | refine .val ?_ | refine .slc ?_ ?_ | fail))
set_option maxHeartbeats 2000000 in
theorem bytecode_reader_method_fn (k : Nat) (a0 : Bytecodereader) (r : CodeMethod × Bytecodereader) (h : bytecode_reader_method k a0 = some r) : FnC Try.prog 57 [.one (.ptr 0 0)] (boxesH 0 [(c_Bytecodereader a0)]) (Det (.agg (c_CodeMethod r.1)) (boxesH 0 [(c_Bytecodereader r.2)])) := by
  unfold bytecode_reader_method at h
  refine fn_intro' 48 Try.func57 rfl rfl rfl (aw_seq (aw_region ?_))
  refine aops_step1 rfl (st_alloc (cs := [.val (Sv []), .val (.slice none 0 0), cI 0, .val (.slice none 0 0), .val (.slice none 0 0)]) 1 rfl rfl rfl rfl rfl) ?_
  refine aops_nil (aw_seq (aw_region (s_mv ?_)))
  obtain ⟨x1, hx1, h⟩ := Md.bind_s h
  refine aops_step1 rfl (ev_call_b [0] (bytecode_reader_text_fn k a0 x1 hx1) rfl [] ai rfl rfl rfl rfl rfl rfl (.cons rfl .nil) rfl rfl rfl (.inl rfl) rfl) (s_mv ?_)
  obtain ⟨x2, hx2, h⟩ := Md.bind_s h
  refine aops_step1 rfl (ev_call_b [0] (bytecode_reader_list_fn k x1.2 4 x2 hx2) rfl [] ai rfl rfl rfl rfl rfl rfl (.cons rfl .nil) rfl rfl rfl (.inl rfl) rfl) (s_mv ?_)
  obtain ⟨x3, hx3, h⟩ := Md.bind_s h
  refine aops_step1 rfl (ev_call_b [0] (bytecode_reader_list_fn k x2.2 8 x3 hx3) rfl [] ai rfl rfl rfl rfl rfl rfl (.cons rfl .nil) rfl rfl rfl (.inl rfl) rfl) (s_mv ?_)
  obtain ⟨x4, hx4, h⟩ := Md.bind_s h
  refine aops_step1 rfl (ev_call_b [0] (bytecode_reader_number_fn k x3.2 5 x4 hx4) rfl [] ai rfl rfl rfl rfl rfl rfl (.cons rfl .nil) rfl rfl rfl (.inl rfl) rfl) ?_
  refine aops_step1 rfl (ev_build' (out := [_, _, _, _, _]) rfl rfl rfl rfl rfl) ?_
  refine aops_step1 rfl (st_alloc (cs := [.val (Sv []), .val (.slice none 0 0), cI 0, .val (.slice none 0 0), .val (.slice none 0 0)]) 2 rfl rfl rfl rfl rfl) (s_st [_, _, _, _, _] ?_)
  refine aops_nil (aw_seq (aw_seq (aw_region (s_mv ?_))))
  obtain ⟨x5, hx5, h⟩ := Md.bind_s h
  refine aops_step1 rfl (ev_call_b [0] (bytecode_reader_number_fn k x4.2 3000 x5 hx5) rfl [] ai rfl rfl rfl rfl rfl rfl (.cons rfl .nil) rfl rfl rfl (.inl rfl) rfl) (s_sa ?_)
  refine aops_nil (aw_block (aw_own_nil_box 2 4 3 53 8 (lsEl c_Instr []) rfl rfl rfl ?_))
  obtain ⟨o6, ho6, h⟩ := Md.bind_s h
  refine aw_loop_x (ι := {p : Nat × Int × Bytecodereader × (List Instr) // zqal k p.1 p.2.1 p.2.2.1 p.2.2.2 = some o6}) (fun p => (⟨48, [0], [(0, .one (.ptr 0 0)), (2, .one (.ptr 1 0)), (3, .one (.ptr 2 0)), (4, vI p.1.2.1)], [(0, some (.box (c_Bytecodereader p.1.2.2.1))), (1, some (.box [.val (Sv []), .val (.slice none 0 0), cI 0, .val (.slice none 0 0), .val (.slice none 0 0)])), (2, some (.box [.val (Sv x1.1), CV.ls c_Int x2.1, cI x4.1, CV.ls c_Int x3.1, .own 3])), (3, some (.row 53 8 p.1.2.2.2.length (lsEl c_Instr p.1.2.2.2)))]⟩ : ASt)) (fun p => p.1.1) ⟨(k, x5.1, x5.2, ([] : List Instr)), ho6⟩ wk 0 (ε := (Bytecodereader × (List Instr))) (fun x => (⟨48, [0], [(2, .one (.ptr 1 0)), (3, .one (.ptr 2 0))], [(0, some (.box (c_Bytecodereader x.1))), (1, some (.box [.val (Sv []), .val (.slice none 0 0), cI 0, .val (.slice none 0 0), .val (.slice none 0 0)])), (2, some (.box [.val (Sv x1.1), CV.ls c_Int x2.1, cI x4.1, CV.ls c_Int x3.1, .own 3])), (3, some (.row 53 8 x.2.length (lsEl c_Instr x.2)))]⟩ : ASt)) (fun x => x = o6) (fun _ _ w h => aw_weak w h) ?_ ?_
  · intro x6_0 hI6
    subst hI6
    change AW _ _ (⟨48, [0], [(2, .one (.ptr 1 0)), (3, .one (.ptr 2 0))], [(0, some (.box (c_Bytecodereader x6_0.1))), (1, some (.box [.val (Sv []), .val (.slice none 0 0), cI 0, .val (.slice none 0 0), .val (.slice none 0 0)])), (2, some (.box [.val (Sv x1.1), CV.ls c_Int x2.1, cI x4.1, CV.ls c_Int x3.1, .own 3])), (3, some (.row 53 8 x6_0.2.length (lsEl c_Instr x6_0.2)))]⟩ : ASt) _
    refine aw_seq (aw_region (s_ls [_, _, _, _, _] ?_))
    refine s_st [_, _, _, _, _] ?_
    refine aops_nil ?_
    cases Option.some.inj h
    refine aw_freeze 3 rfl ?_
    refine aw_ret ⟨rfl, ret_b (bs := [(c_Bytecodereader x6_0.1)]) (rg [_, _, _, _, _]) rfl rfl rfl rfl rfl (by intro i cs h; rcases i with _ | i <;> simp at h <;> (subst h; rfl)) ?_⟩
    (repeat' (first | exact .refl _ | exact .nil | refine .tup ?_ | refine .v ?_ | refine .cons ?_ ?_ | refine .agg ?_ | refine .one ?_ | exact .nil _ | exact .emp _ | refine .val ?_ | refine .slc ?_ ?_ | fail))
  intro p6
  obtain ⟨⟨n6, s6_0, s6_1, s6_2⟩, l6⟩ := p6
  change AW _ _ (⟨48, [0], [(0, .one (.ptr 0 0)), (2, .one (.ptr 1 0)), (3, .one (.ptr 2 0)), (4, vI s6_0)], [(0, some (.box (c_Bytecodereader s6_1))), (1, some (.box [.val (Sv []), .val (.slice none 0 0), cI 0, .val (.slice none 0 0), .val (.slice none 0 0)])), (2, some (.box [.val (Sv x1.1), CV.ls c_Int x2.1, cI x4.1, CV.ls c_Int x3.1, .own 3])), (3, some (.row 53 8 s6_2.length (lsEl c_Instr s6_2)))]⟩ : ASt) _
  replace l6 : zqal k n6 s6_0 s6_1 s6_2 = some o6 := l6
  rcases n6 with _ | n6
  · exact absurd (show none = some o6 from l6) nofun
  rw [zqal] at l6
  refine aw_seq (aw_seq (aw_region (s_mv ?_)))
  refine s_cm ?_
  refine s_mv ?_
  refine aops_mid 6 (⟨48, [0], [(0, .one (.ptr 0 0)), (2, .one (.ptr 1 0)), (3, .one (.ptr 2 0)), (4, vI s6_0), (25, vB ((decide (s6_0 > 0)) && (!s6_1.failed)))], [(0, some (.box (c_Bytecodereader s6_1))), (1, some (.box [.val (Sv []), .val (.slice none 0 0), cI 0, .val (.slice none 0 0), .val (.slice none 0 0)])), (2, some (.box [.val (Sv x1.1), CV.ls c_Int x2.1, cI x4.1, CV.ls c_Int x3.1, .own 3])), (3, some (.row 53 8 s6_2.length (lsEl c_Instr s6_2)))]⟩ : ASt) ?_ ?_
  · rcases Md.bool_or ((decide (s6_0 > 0))) with q7 | q7
    · skip
      refine y_mv q7 ?_
      refine aops_yes rfl rfl rfl rfl q7 (ev_nilc rfl rfl) (y_fd q7 ?_)
      refine y_ld q7 ?_
      refine y_nt q7 ?_
      refine s_py q7 ?_
      refine aops_nil ?_
      exact wq q7
    iterate 5 refine np q7 ?_
    refine s_pn q7 ?_
    refine aops_nil ?_
    exact wq q7
  refine aops_nil ?_
  refine aw_cond rfl (fun c8 => ?_) (fun c8 => ?_)
  · replace l6 := Md.cond_t l6 c8
    refine aw_skip ?_
    obtain ⟨o9, j9, l6⟩ := Md.bind_s l6
    refine aw_cut (ε := (Bytecodereader × (List Instr))) (fun x => (⟨48, [0], [(0, .one (.ptr 0 0)), (2, .one (.ptr 1 0)), (3, .one (.ptr 2 0)), (4, vI s6_0)], [(0, some (.box (c_Bytecodereader x.1))), (1, some (.box [.val (Sv []), .val (.slice none 0 0), cI 0, .val (.slice none 0 0), .val (.slice none 0 0)])), (2, some (.box [.val (Sv x1.1), CV.ls c_Int x2.1, cI x4.1, CV.ls c_Int x3.1, .own 3])), (3, some (.row 53 8 x.2.length (lsEl c_Instr x.2)))]⟩ : ASt)) (fun x => x = o9) ?_ ?_
    · intro x9_0 hI9
      subst hI9
      change AW _ _ (⟨48, [0], [(0, .one (.ptr 0 0)), (2, .one (.ptr 1 0)), (3, .one (.ptr 2 0)), (4, vI s6_0)], [(0, some (.box (c_Bytecodereader x9_0.1))), (1, some (.box [.val (Sv []), .val (.slice none 0 0), cI 0, .val (.slice none 0 0), .val (.slice none 0 0)])), (2, some (.box [.val (Sv x1.1), CV.ls c_Int x2.1, cI x4.1, CV.ls c_Int x3.1, .own 3])), (3, some (.row 53 8 x9_0.2.length (lsEl c_Instr x9_0.2)))]⟩ : ASt) _
      refine aw_region (s_mv ?_)
      refine aops_step1 rfl (ev_sub rfl rfl rfl (Md.wrap_W _)) (s_sa ?_)
      refine aops_nil ?_
      exact ⟨⟨(n6, (Md.W (s6_0 - 1)), x9_0.1, x9_0.2), l6⟩, Nat.lt_succ_self _, wk⟩
    refine aw_block (aw_seq (aw_region (s_mv ?_)))
    obtain ⟨x10, hx10, j9⟩ := Md.bind_s j9
    refine aops_step1 rfl (ev_call_b [0] (bytecode_reader_number_fn k s6_1 36 x10 hx10) rfl [] ai rfl rfl rfl rfl rfl rfl (.cons rfl .nil) rfl rfl rfl (.inl rfl) rfl) (s_mv ?_)
    obtain ⟨x11, hx11, j9⟩ := Md.bind_s j9
    refine aops_step1 rfl (ev_call_b [0] (bytecode_reader_number_fn k x10.2 9223372036854775807 x11 hx11) rfl [] ai rfl rfl rfl rfl rfl rfl (.cons rfl .nil) rfl rfl rfl (.inl rfl) rfl) (s_mv ?_)
    obtain ⟨x12, hx12, j9⟩ := Md.bind_s j9
    refine aops_step1 rfl (ev_call_b [0] (bytecode_reader_number_fn k x11.2 9223372036854775807 x12 hx12) rfl [] ai rfl rfl rfl rfl rfl rfl (.cons rfl .nil) rfl rfl rfl (.inl rfl) rfl) ?_
    refine aops_step1 rfl (ev_build' (out := [_, _, _, _, _, _, _, _]) rfl rfl rfl rfl rfl) ?_
    refine aops_step1 rfl (st_alloc (cs := [cI 0, cI 0, cI 0, cI 0, cI 0, .val (Sv []), .val (.slice none 0 0), .val (.slice none 0 0)]) 4 rfl rfl rfl rfl rfl) (s_st [_, _, _, _, _, _, _, _] ?_)
    refine aops_nil (aw_seq (aw_seq (aw_region (s_fd ?_))))
    refine s_ld ?_
    refine s_cm ?_
    refine aops_nil ?_
    refine aw_cond rfl (fun c13 => ?_) (fun c13 => ?_)
    · replace j9 := Md.cond_t j9 c13
      refine aw_region (s_mv ?_)
      obtain ⟨x14, hx14, j9⟩ := Md.bind_s j9
      refine aops_step1 rfl (ev_call_b [0] (bytecode_reader_value_fn k x12.2 x14 hx14) rfl [] ai rfl rfl rfl rfl rfl rfl (.cons rfl .nil) rfl rfl rfl (.inl rfl) rfl) (s_fd ?_)
      refine s_st [_, _, _, _, _, _, _, _] ?_
      refine aops_nil (aw_region (s_fd ?_))
      refine s_ld ?_
      refine s_ls [_, _, _, _, _, _, _, _] ?_
      refine aops_step1 rfl (st_slice_lit (el := lsEl c_Instr [(⟨x10.1, x11.1, x12.1, x14.1⟩ : Instr)]) 5 rfl rfl rfl rfl rfl rfl rfl rfl (lit_el c_Instr 8 [(⟨x10.1, x11.1, x12.1, x14.1⟩ : Instr)] (fun _ => rfl)) rfl) ?_
      obtain ⟨g15, j9⟩ := Md.ifp_s j9
      refine aops_step1 rfl (st_app_ls (f := c_Instr) s6_2 [(⟨x10.1, x11.1, x12.1, x14.1⟩ : Instr)] (fun _ => rfl) rfl rfl (.inr ⟨_, _, rfl, rfl⟩) (by omega) (by omega) rfl) (s_fd ?_)
      refine s_st [_, _, _, _, _] ?_
      refine aops_nil ?_
      show ∃ _x : Bytecodereader × (List Instr), _ = _ ∧ Weak _ _
      exact ⟨(x14.2, (s6_2 ++ [(⟨x10.1, x11.1, x12.1, x14.1⟩ : Instr)])), Option.some.inj j9, wk⟩
    replace j9 := Md.cond_f j9 c13
    refine aw_skip (aw_region (s_fd ?_))
    refine s_ld ?_
    refine s_ls [_, _, _, _, _, _, _, _] ?_
    refine aops_weak (s' := (⟨48, [0], [(0, .one (.ptr 0 0)), (2, .one (.ptr 1 0)), (3, .one (.ptr 2 0)), (4, vI s6_0), (5, .one (.ptr 4 0)), (25, vB ((decide (s6_0 > 0)) && (!s6_1.failed))), (28, .one (.ptr 0 0)), (29, vI x10.1), (30, .one (.ptr 0 0)), (31, vI x11.1), (32, .one (.ptr 0 0)), (33, vI x12.1), (34, .agg [cI x10.1, cI x11.1, cI x12.1, cI 0, cI 0, .val (Sv []), .val (.slice none 0 0), .val (.slice none 0 0)]), (35, .one (.ptr 4 0)), (36, vI x10.1), (37, vB (x10.1 == 1)), (41, .one (.ptr 2 4)), (42, .one (.own 3)), (43, .agg [cI x10.1, cI x11.1, cI x12.1, cI 0, cI 0, .val (Sv []), CV.ls c_Int [], CV.ls c_Str []])], [(0, some (.box (c_Bytecodereader x12.2))), (1, some (.box [.val (Sv []), .val (.slice none 0 0), cI 0, .val (.slice none 0 0), .val (.slice none 0 0)])), (2, some (.box [.val (Sv x1.1), CV.ls c_Int x2.1, cI x4.1, CV.ls c_Int x3.1, .own 3])), (3, some (.row 53 8 s6_2.length (lsEl c_Instr s6_2))), (4, some (.box [cI x10.1, cI x11.1, cI x12.1, cI 0, cI 0, .val (Sv []), .val (.slice none 0 0), .val (.slice none 0 0)]))]⟩ : ASt)) wk ?_
    refine aops_step1 rfl (st_slice_lit (el := lsEl c_Instr [(⟨x10.1, x11.1, x12.1, (⟨0, 0, ([] : List UInt8), [], []⟩ : Value)⟩ : Instr)]) 5 rfl rfl rfl rfl rfl rfl rfl rfl (lit_el c_Instr 8 [(⟨x10.1, x11.1, x12.1, (⟨0, 0, ([] : List UInt8), [], []⟩ : Value)⟩ : Instr)] (fun _ => rfl)) rfl) ?_
    obtain ⟨g16, j9⟩ := Md.ifp_s j9
    refine aops_step1 rfl (st_app_ls (f := c_Instr) s6_2 [(⟨x10.1, x11.1, x12.1, (⟨0, 0, ([] : List UInt8), [], []⟩ : Value)⟩ : Instr)] (fun _ => rfl) rfl rfl (.inr ⟨_, _, rfl, rfl⟩) (by omega) (by omega) rfl) (s_fd ?_)
    refine s_st [_, _, _, _, _] ?_
    refine aops_nil ?_
    show ∃ _x : Bytecodereader × (List Instr), _ = _ ∧ Weak _ _
    exact ⟨(x12.2, (s6_2 ++ [(⟨x10.1, x11.1, x12.1, (⟨0, 0, ([] : List UInt8), [], []⟩ : Value)⟩ : Instr)])), Option.some.inj j9, wk⟩
  replace l6 := Md.cond_f l6 c8
  refine aw_exit ?_
  show ∃ _x : Bytecodereader × (List Instr), _ = _ ∧ Weak _ _
  exact ⟨(s6_1, s6_2), Option.some.inj l6, wk⟩
set_option maxHeartbeats 2000000 in
theorem bytecode_reader_typ_fn (k : Nat) (a0 : Bytecodereader) (r : CodeType × Bytecodereader) (h : bytecode_reader_typ k a0 = some r) : FnC Try.prog 23 [.one (.ptr 0 0)] (boxesH 0 [(c_Bytecodereader a0)]) (Det (.agg (c_CodeType r.1)) (boxesH 0 [(c_Bytecodereader r.2)])) := by
  unfold bytecode_reader_typ at h
  refine fn_intro' 55 Try.func23 rfl rfl rfl (aw_seq (aw_region ?_))
  refine aops_step1 rfl (st_alloc (cs := [.val (Sv []), .val (.slice none 0 0), .val (.slice none 0 0)]) 1 rfl rfl rfl rfl rfl) (aops_nil (aw_seq (aw_region (s_mv ?_))))
  obtain ⟨x1, hx1, h⟩ := Md.bind_s h
  refine aops_step1 rfl (ev_call_b [0] (bytecode_reader_text_fn k a0 x1 hx1) rfl [] ai rfl rfl rfl rfl rfl rfl (.cons rfl .nil) rfl rfl rfl (.inl rfl) rfl) ?_
  refine aops_step1 rfl (ev_build' (out := [_, _, _]) rfl rfl rfl rfl rfl) ?_
  refine aops_step1 rfl (st_alloc (cs := [.val (Sv []), .val (.slice none 0 0), .val (.slice none 0 0)]) 2 rfl rfl rfl rfl rfl) (s_st [_, _, _] ?_)
  refine aops_nil (aw_seq (aw_seq (aw_region (s_mv ?_))))
  obtain ⟨x2, hx2, h⟩ := Md.bind_s h
  refine aops_step1 rfl (ev_call_b [0] (bytecode_reader_number_fn k x1.2 8 x2 hx2) rfl [] ai rfl rfl rfl rfl rfl rfl (.cons rfl .nil) rfl rfl rfl (.inl rfl) rfl) (s_sa ?_)
  refine aops_nil (aw_block (aw_own_nil_box 2 1 3 56 7 (lsEl c_Field []) rfl rfl rfl ?_))
  obtain ⟨o3, ho3, h⟩ := Md.bind_s h
  refine aw_loop_x (ι := {p : Nat × Int × Bytecodereader × (List Field) // bytecode_reader_typ_loop1 k p.1 p.2.1 p.2.2.1 p.2.2.2 = some o3}) (fun p => (⟨55, [0], [(0, .one (.ptr 0 0)), (2, .one (.ptr 1 0)), (3, .one (.ptr 2 0)), (4, vI p.1.2.1)], [(0, some (.box (c_Bytecodereader p.1.2.2.1))), (1, some (.box [.val (Sv []), .val (.slice none 0 0), .val (.slice none 0 0)])), (2, some (.box [.val (Sv x1.1), .own 3, .val (.slice none 0 0)])), (3, some (.row 56 7 p.1.2.2.2.length (lsEl c_Field p.1.2.2.2)))]⟩ : ASt)) (fun p => p.1.1) ⟨(k, x2.1, x2.2, ([] : List Field)), ho3⟩ wk 0 (ε := (Bytecodereader × (List Field))) (fun x => (⟨55, [0], [(0, .one (.ptr 0 0)), (2, .one (.ptr 1 0)), (3, .one (.ptr 2 0))], [(0, some (.box (c_Bytecodereader x.1))), (1, some (.box [.val (Sv []), .val (.slice none 0 0), .val (.slice none 0 0)])), (2, some (.box [.val (Sv x1.1), .own 3, .val (.slice none 0 0)])), (3, some (.row 56 7 x.2.length (lsEl c_Field x.2)))]⟩ : ASt)) (fun x => x = o3) (fun _ _ w h => aw_weak w h) ?_ ?_
  · intro x3_0 hI3
    subst hI3
    change AW _ _ (⟨55, [0], [(0, .one (.ptr 0 0)), (2, .one (.ptr 1 0)), (3, .one (.ptr 2 0))], [(0, some (.box (c_Bytecodereader x3_0.1))), (1, some (.box [.val (Sv []), .val (.slice none 0 0), .val (.slice none 0 0)])), (2, some (.box [.val (Sv x1.1), .own 3, .val (.slice none 0 0)])), (3, some (.row 56 7 x3_0.2.length (lsEl c_Field x3_0.2)))]⟩ : ASt) _
    refine aw_seq (aw_seq (aw_region (s_mv ?_)))
    obtain ⟨x4, hx4, h⟩ := Md.bind_s h
    refine aops_step1 rfl (ev_call_b [0] (bytecode_reader_number_fn k x3_0.1 16 x4 hx4) rfl [] ai rfl rfl rfl rfl rfl rfl (.cons rfl .nil) rfl rfl rfl (.inl rfl) rfl) (s_sa ?_)
    refine aops_nil (aw_block (aw_own_nil_box 2 2 4 48 5 (lsEl c_CodeMethod []) rfl rfl rfl ?_))
    obtain ⟨o5, ho5, h⟩ := Md.bind_s h
    refine aw_loop_x (ι := {p : Nat × Int × Bytecodereader × (List CodeMethod) // bytecode_reader_typ_loop2 k p.1 p.2.1 p.2.2.1 p.2.2.2 = some o5}) (fun p => (⟨55, [0], [(0, .one (.ptr 0 0)), (2, .one (.ptr 1 0)), (3, .one (.ptr 2 0)), (5, vI p.1.2.1)], [(0, some (.box (c_Bytecodereader p.1.2.2.1))), (1, some (.box [.val (Sv []), .val (.slice none 0 0), .val (.slice none 0 0)])), (2, some (.box [.val (Sv x1.1), .own 3, .own 4])), (3, some (.row 56 7 x3_0.2.length (lsEl c_Field x3_0.2))), (4, some (.row 48 5 p.1.2.2.2.length (lsEl c_CodeMethod p.1.2.2.2)))]⟩ : ASt)) (fun p => p.1.1) ⟨(k, x4.1, x4.2, ([] : List CodeMethod)), ho5⟩ wk 2 (ε := (Bytecodereader × (List CodeMethod))) (fun x => (⟨55, [0], [(2, .one (.ptr 1 0)), (3, .one (.ptr 2 0))], [(0, some (.box (c_Bytecodereader x.1))), (1, some (.box [.val (Sv []), .val (.slice none 0 0), .val (.slice none 0 0)])), (2, some (.box [.val (Sv x1.1), .own 3, .own 4])), (3, some (.row 56 7 x3_0.2.length (lsEl c_Field x3_0.2))), (4, some (.row 48 5 x.2.length (lsEl c_CodeMethod x.2)))]⟩ : ASt)) (fun x => x = o5) (fun _ _ w h => aw_weak w h) ?_ ?_
    · intro x5_0 hI5
      subst hI5
      change AW _ _ (⟨55, [0], [(2, .one (.ptr 1 0)), (3, .one (.ptr 2 0))], [(0, some (.box (c_Bytecodereader x5_0.1))), (1, some (.box [.val (Sv []), .val (.slice none 0 0), .val (.slice none 0 0)])), (2, some (.box [.val (Sv x1.1), .own 3, .own 4])), (3, some (.row 56 7 x3_0.2.length (lsEl c_Field x3_0.2))), (4, some (.row 48 5 x5_0.2.length (lsEl c_CodeMethod x5_0.2)))]⟩ : ASt) _
      refine aw_seq (aw_region (s_ls [_, _, _] ?_))
      refine s_st [_, _, _] ?_
      refine aops_nil ?_
      cases Option.some.inj h
      refine aw_freeze 3 rfl (aw_freeze 4 rfl ?_)
      refine aw_ret ⟨rfl, ret_b (bs := [(c_Bytecodereader x5_0.1)]) (rg [_, _, _]) rfl rfl rfl rfl rfl (by intro i cs h; rcases i with _ | i <;> simp at h <;> (subst h; rfl)) ?_⟩
      (repeat' (first | exact .refl _ | exact .nil | refine .tup ?_ | refine .v ?_ | refine .cons ?_ ?_ | refine .agg ?_ | refine .one ?_ | exact .nil _ | exact .emp _ | refine .val ?_ | refine .slc ?_ ?_ | fail))
    intro p5
    obtain ⟨⟨n5, s5_0, s5_1, s5_2⟩, l5⟩ := p5
    change AW _ _ (⟨55, [0], [(0, .one (.ptr 0 0)), (2, .one (.ptr 1 0)), (3, .one (.ptr 2 0)), (5, vI s5_0)], [(0, some (.box (c_Bytecodereader s5_1))), (1, some (.box [.val (Sv []), .val (.slice none 0 0), .val (.slice none 0 0)])), (2, some (.box [.val (Sv x1.1), .own 3, .own 4])), (3, some (.row 56 7 x3_0.2.length (lsEl c_Field x3_0.2))), (4, some (.row 48 5 s5_2.length (lsEl c_CodeMethod s5_2)))]⟩ : ASt) _
    replace l5 : bytecode_reader_typ_loop2 k n5 s5_0 s5_1 s5_2 = some o5 := l5
    rcases n5 with _ | n5
    · exact absurd (show none = some o5 from l5) nofun
    rw [bytecode_reader_typ_loop2] at l5
    refine aw_seq (aw_seq (aw_region (s_mv ?_)))
    refine s_cm ?_
    refine s_mv ?_
    refine aops_mid 6 (⟨55, [0], [(0, .one (.ptr 0 0)), (2, .one (.ptr 1 0)), (3, .one (.ptr 2 0)), (5, vI s5_0), (44, vB ((decide (s5_0 > 0)) && (!s5_1.failed)))], [(0, some (.box (c_Bytecodereader s5_1))), (1, some (.box [.val (Sv []), .val (.slice none 0 0), .val (.slice none 0 0)])), (2, some (.box [.val (Sv x1.1), .own 3, .own 4])), (3, some (.row 56 7 x3_0.2.length (lsEl c_Field x3_0.2))), (4, some (.row 48 5 s5_2.length (lsEl c_CodeMethod s5_2)))]⟩ : ASt) ?_ ?_
    · rcases Md.bool_or ((decide (s5_0 > 0))) with q6 | q6
      · skip
        refine y_mv q6 ?_
        refine aops_yes rfl rfl rfl rfl q6 (ev_nilc rfl rfl) (y_fd q6 ?_)
        refine y_ld q6 ?_
        refine y_nt q6 ?_
        refine s_py q6 ?_
        refine aops_nil ?_
        exact wq q6
      iterate 5 refine np q6 ?_
      refine s_pn q6 ?_
      refine aops_nil ?_
      exact wq q6
    refine aops_nil ?_
    refine aw_cond rfl (fun c7 => ?_) (fun c7 => ?_)
    · replace l5 := Md.cond_t l5 c7
      refine aw_skip (aw_seq (aw_block ?_))
      obtain ⟨x8, hx8, l5⟩ := Md.bind_s l5
      obtain ⟨g9, l5⟩ := Md.ifp_s l5
      apply aw_draw_set 5 [(3, [2])] ((⟨[], .one (.ptr 2 _)⟩ : Add) :: ⟨[], .one (.own 4)⟩ :: ⟨[], .one (.ptr 0 _)⟩ :: ⟨[(0, some (.box (c_Bytecodereader x8.2)))], .agg (c_CodeMethod x8.1)⟩ :: ⟨[], .one (CV.ls c_CodeMethod [x8.1])⟩ :: []) (by decide) rfl (by decide +kernel) ?hk14x ?hf14x ?ho14x ?hr14x
      case ho14x =>
       refine ⟨⟨[], (by decide +kernel), .inr ⟨(by decide +kernel), fun S hle hfr => ?_⟩⟩, ?_⟩
       · exact .inl ⟨w0, ev_field (hle.e rfl) rfl (hle.d rfl)⟩
       refine ⟨⟨0 :: [], (by decide +kernel), .inr ⟨(by decide +kernel), fun S hle hfr => ?_⟩⟩, ?_⟩
       · exact .inl ⟨w0, ev_load (hle.e rfl) (hle.heap _ _ rfl) rfl (hle.d rfl)⟩
       refine ⟨⟨[], (by decide +kernel), .inl ⟨(by decide +kernel), fun S hle hfr0 => ?_⟩⟩, ?_⟩
       · exact .inl ⟨w0, st_move (hle.e rfl) (hle.d rfl)⟩
       refine ⟨⟨2 :: [], (by decide +kernel), .inl ⟨(by decide +kernel), fun S hle hfr0 => ?_⟩⟩, ?_⟩
       · exact .inl ⟨w0, ev_call_b [0] (bytecode_reader_method_fn k s5_1 x8 hx8) (map_ev (.cons (hle.e rfl) (.nil))) [] (by repeat' (first | exact .nil | refine .cons ?_ ?_ | refine .one ?_ | refine .agg ?_ | exact .mk rfl | exact .lend (hle.heap _ _ rfl) (by simp) | exact .le (.nil _) rfl | exact .le (.emp _) rfl | exact .le (.any _) rfl | fail)) rfl rfl rfl rfl rfl rfl (.cons (hle.heap _ _ rfl) .nil) rfl rfl rfl (.inl rfl) (hle.d rfl)⟩
       refine ⟨⟨3 :: 2 :: [], (by decide +kernel), .inl ⟨(by decide +kernel), fun S hle hfr0 => ?_⟩⟩, ?_⟩
       · exact .inl ⟨w0, st_slice_lit_z (el := lsEl c_CodeMethod [x8.1]) (map_ev2 (.cons (hle.e rfl) (.nil))) rfl rfl rfl rfl rfl rfl (lit_el c_CodeMethod 5 [x8.1] (fun _ => rfl)) (hle.d rfl)⟩
       exact trivial
      case hk14x => rfl
      case hf14x => rfl
      refine aops_step1 rfl (st_app_ls (f := c_CodeMethod) s5_2 [x8.1] (fun _ => rfl) rfl rfl (.inl rfl) (by omega) (by omega) rfl) (s_fd ?_)
      refine s_st [_, _, _] ?_
      refine aops_nil (aw_region (s_mv ?_))
      refine aops_step1 rfl (ev_sub rfl rfl rfl (Md.wrap_W _)) (s_sa ?_)
      refine aops_nil ?_
      exact ⟨⟨(n5, (Md.W (s5_0 - 1)), x8.2, (s5_2 ++ [x8.1])), l5⟩, Nat.lt_succ_self _, wk⟩
    replace l5 := Md.cond_f l5 c7
    refine aw_exit ?_
    show ∃ _x : Bytecodereader × (List CodeMethod), _ = _ ∧ Weak _ _
    exact ⟨(s5_1, s5_2), Option.some.inj l5, wk⟩
  intro p3
  obtain ⟨⟨n3, s3_0, s3_1, s3_2⟩, l3⟩ := p3
  change AW _ _ (⟨55, [0], [(0, .one (.ptr 0 0)), (2, .one (.ptr 1 0)), (3, .one (.ptr 2 0)), (4, vI s3_0)], [(0, some (.box (c_Bytecodereader s3_1))), (1, some (.box [.val (Sv []), .val (.slice none 0 0), .val (.slice none 0 0)])), (2, some (.box [.val (Sv x1.1), .own 3, .val (.slice none 0 0)])), (3, some (.row 56 7 s3_2.length (lsEl c_Field s3_2)))]⟩ : ASt) _
  replace l3 : bytecode_reader_typ_loop1 k n3 s3_0 s3_1 s3_2 = some o3 := l3
  rcases n3 with _ | n3
  · exact absurd (show none = some o3 from l3) nofun
  rw [bytecode_reader_typ_loop1] at l3
  refine aw_seq (aw_seq (aw_region (s_mv ?_)))
  refine s_cm ?_
  refine s_mv ?_
  refine aops_mid 6 (⟨55, [0], [(0, .one (.ptr 0 0)), (2, .one (.ptr 1 0)), (3, .one (.ptr 2 0)), (4, vI s3_0), (19, vB ((decide (s3_0 > 0)) && (!s3_1.failed)))], [(0, some (.box (c_Bytecodereader s3_1))), (1, some (.box [.val (Sv []), .val (.slice none 0 0), .val (.slice none 0 0)])), (2, some (.box [.val (Sv x1.1), .own 3, .val (.slice none 0 0)])), (3, some (.row 56 7 s3_2.length (lsEl c_Field s3_2)))]⟩ : ASt) ?_ ?_
  · rcases Md.bool_or ((decide (s3_0 > 0))) with q10 | q10
    · skip
      refine y_mv q10 ?_
      refine aops_yes rfl rfl rfl rfl q10 (ev_nilc rfl rfl) (y_fd q10 ?_)
      refine y_ld q10 ?_
      refine y_nt q10 ?_
      refine s_py q10 ?_
      refine aops_nil ?_
      exact wq q10
    iterate 5 refine np q10 ?_
    refine s_pn q10 ?_
    refine aops_nil ?_
    exact wq q10
  refine aops_nil ?_
  refine aw_cond rfl (fun c11 => ?_) (fun c11 => ?_)
  · replace l3 := Md.cond_t l3 c11
    refine aw_skip (aw_seq (aw_block ?_))
    obtain ⟨x12, hx12, l3⟩ := Md.bind_s l3
    obtain ⟨x13, hx13, l3⟩ := Md.bind_s l3
    obtain ⟨x14, hx14, l3⟩ := Md.bind_s l3
    obtain ⟨g15, l3⟩ := Md.ifp_s l3
    apply aw_draw_set 10 [(3, [2]), (5, [4, 3, 2]), (7, [6, 5, 4, 3, 2])] ((⟨[], .one (.ptr 2 _)⟩ : Add) :: ⟨[], .one (.own 3)⟩ :: ⟨[], .one (.ptr 0 _)⟩ :: ⟨[(0, some (.box (c_Bytecodereader x12.2)))], .one (.val (Sv x12.1))⟩ :: ⟨[], .one (.ptr 0 _)⟩ :: ⟨[(0, some (.box (c_Bytecodereader x13.2)))], vI x13.1⟩ :: ⟨[], .one (.ptr 0 _)⟩ :: ⟨[(0, some (.box (c_Bytecodereader x14.2)))], .agg (c_Value x14.1)⟩ :: ⟨[], .agg ([.val (Sv x12.1), cI x13.1] ++ c_Value x14.1)⟩ :: ⟨[], .one (CV.ls c_Field [(⟨x12.1, x13.1, x14.1⟩ : Field)])⟩ :: []) (by decide) rfl (by decide +kernel) ?hk16x ?hf16x ?ho16x ?hr16x
    case ho16x =>
     refine ⟨⟨[], (by decide +kernel), .inr ⟨(by decide +kernel), fun S hle hfr => ?_⟩⟩, ?_⟩
     · exact .inl ⟨w0, ev_field (hle.e rfl) rfl (hle.d rfl)⟩
     refine ⟨⟨0 :: [], (by decide +kernel), .inr ⟨(by decide +kernel), fun S hle hfr => ?_⟩⟩, ?_⟩
     · exact .inl ⟨w0, ev_load (hle.e rfl) (hle.heap _ _ rfl) rfl (hle.d rfl)⟩
     refine ⟨⟨[], (by decide +kernel), .inl ⟨(by decide +kernel), fun S hle hfr0 => ?_⟩⟩, ?_⟩
     · exact .inl ⟨w0, st_move (hle.e rfl) (hle.d rfl)⟩
     refine ⟨⟨2 :: [], (by decide +kernel), .inl ⟨(by decide +kernel), fun S hle hfr0 => ?_⟩⟩, ?_⟩
     · exact .inl ⟨w0, ev_call_b [0] (bytecode_reader_text_fn k s3_1 x12 hx12) (map_ev (.cons (hle.e rfl) (.nil))) [] (by repeat' (first | exact .nil | refine .cons ?_ ?_ | refine .one ?_ | refine .agg ?_ | exact .mk rfl | exact .lend (hle.heap _ _ rfl) (by simp) | exact .le (.nil _) rfl | exact .le (.emp _) rfl | exact .le (.any _) rfl | fail)) rfl rfl rfl rfl rfl rfl (.cons (hle.heap _ _ rfl) .nil) rfl rfl rfl (.inl rfl) (hle.d rfl)⟩
     refine ⟨⟨[], (by decide +kernel), .inr ⟨(by decide +kernel), fun S hle hfr => ?_⟩⟩, ?_⟩
     · exact .inl ⟨w0, st_move (hle.e rfl) (hle.d rfl)⟩
     refine ⟨⟨4 :: 3 :: 2 :: [], (by decide +kernel), .inl ⟨(by decide +kernel), fun S hle hfr0 => ?_⟩⟩, ?_⟩
     · exact .inl ⟨w0, ev_call_b [0] (bytecode_reader_number_fn k x12.2 5 x13 hx13) (map_ev (.cons (hle.e rfl) (.cons (hle.e rfl) (.nil)))) [] (by repeat' (first | exact .nil | refine .cons ?_ ?_ | refine .one ?_ | refine .agg ?_ | exact .mk rfl | exact .lend (hle.heap _ _ rfl) (by simp) | exact .le (.nil _) rfl | exact .le (.emp _) rfl | exact .le (.any _) rfl | fail)) rfl rfl rfl rfl rfl rfl (.cons (hle.heap _ _ rfl) .nil) rfl rfl rfl (.inl rfl) (hle.d rfl)⟩
     refine ⟨⟨[], (by decide +kernel), .inr ⟨(by decide +kernel), fun S hle hfr => ?_⟩⟩, ?_⟩
     · exact .inl ⟨w0, st_move (hle.e rfl) (hle.d rfl)⟩
     refine ⟨⟨6 :: 5 :: 4 :: 3 :: 2 :: [], (by decide +kernel), .inl ⟨(by decide +kernel), fun S hle hfr0 => ?_⟩⟩, ?_⟩
     · exact .inl ⟨w0, ev_call_b [0] (bytecode_reader_value_fn k x13.2 x14 hx14) (map_ev (.cons (hle.e rfl) (.nil))) [] (by repeat' (first | exact .nil | refine .cons ?_ ?_ | refine .one ?_ | refine .agg ?_ | exact .mk rfl | exact .lend (hle.heap _ _ rfl) (by simp) | exact .le (.nil _) rfl | exact .le (.emp _) rfl | exact .le (.any _) rfl | fail)) rfl rfl rfl rfl rfl rfl (.cons (hle.heap _ _ rfl) .nil) rfl rfl rfl (.inl rfl) (hle.d rfl)⟩
     refine ⟨⟨3 :: 5 :: 7 :: 2 :: 4 :: 6 :: [], (by decide +kernel), .inl ⟨(by decide +kernel), fun S hle hfr0 => ?_⟩⟩, ?_⟩
     · exact .inl ⟨w0, ev_build' (out := [_, _, _, _, _, _, _]) (map_ev2 (.cons (hle.e rfl) (.cons (hle.e rfl) (.cons (hle.e rfl) (.nil))))) rfl rfl rfl (hle.d rfl)⟩
     refine ⟨⟨8 :: 3 :: 5 :: 7 :: 2 :: 4 :: 6 :: [], (by decide +kernel), .inl ⟨(by decide +kernel), fun S hle hfr0 => ?_⟩⟩, ?_⟩
     · exact .inl ⟨w0, st_slice_lit_z (el := lsEl c_Field [(⟨x12.1, x13.1, x14.1⟩ : Field)]) (map_ev2 (.cons (hle.e rfl) (.nil))) rfl rfl rfl rfl rfl rfl (lit_el c_Field 7 [(⟨x12.1, x13.1, x14.1⟩ : Field)] (fun _ => rfl)) (hle.d rfl)⟩
     exact trivial
    case hk16x => rfl
    case hf16x => rfl
    refine aops_step1 rfl (st_app_ls (f := c_Field) s3_2 [(⟨x12.1, x13.1, x14.1⟩ : Field)] (fun _ => rfl) rfl rfl (.inl rfl) (by omega) (by omega) rfl) (s_fd ?_)
    refine s_st [_, _, _] ?_
    refine aops_nil (aw_region (s_mv ?_))
    refine aops_step1 rfl (ev_sub rfl rfl rfl (Md.wrap_W _)) (s_sa ?_)
    refine aops_nil ?_
    exact ⟨⟨(n3, (Md.W (s3_0 - 1)), x14.2, (s3_2 ++ [(⟨x12.1, x13.1, x14.1⟩ : Field)])), l3⟩, Nat.lt_succ_self _, wk⟩
  replace l3 := Md.cond_f l3 c11
  refine aw_exit ?_
  show ∃ _x : Bytecodereader × (List Field), _ = _ ∧ Weak _ _
  exact ⟨(s3_1, s3_2), Option.some.inj l3, wk⟩
end Md
end Go.Proofs.Ytclffekkjfhpdaa
