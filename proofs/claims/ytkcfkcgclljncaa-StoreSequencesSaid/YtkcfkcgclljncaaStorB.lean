/-
  StorB: where a function's model gives a value, the function returns what reads as it (printed by wip/tools/auto.py). Condition of each: the model gives a value.
-/
import Derived.Test.YtkcfkcgclljncaaStorBM
import Derived.Test.YtkcfkcgclljncaaTy
import Derived.Test.YtkcfkcgclljncaaAbsS
import Derived.Test.YtkcfkcgclljncaaStorC
namespace Go.Proofs.Ytkcfkcgclljncaa
open Go.ChangeShapes Go.WideShapes Go.RowKit
open Abs
set_option linter.unusedVariables false
set_option linter.unusedSimpArgs false
set_option maxRecDepth 10000
namespace Md
set_option maxHeartbeats 2000000 in
theorem actorgridref26_number_fn (k : Nat) (a0 : List UInt8) (r : Int × Int × Bool) (h : actorgridref26_number k a0 = some r) : FnC Try.prog 92 [.one (CV.ls byC a0)] [] (Det (.tup [vI r.1, vI r.2.1, vB r.2.2]) []) := by
  unfold actorgridref26_number at h
  refine fn_intro' 23 Try.func92 rfl rfl rfl (aw_seq (aw_region ?_))
  iterate 3 refine s_sa ?_
  refine aops_nil (aw_seq (aw_region (s_mv ?_)))
  obtain ⟨x1, hx1, h⟩ := Md.bind_s h
  refine aops_step1 rfl (ev_call_v (actorgridref1_ReadUint_fn k a0 x1 hx1) rfl [] ai rfl rfl rfl (.inl rfl) rfl) (s_mt ?_)
  iterate 3 refine s_ex ?_
  iterate 3 refine s_sa ?_
  refine aops_nil (aw_seq (aw_seq (aw_region (s_mv ?_))))
  refine s_cm ?_
  refine s_mv ?_
  refine aops_mid 3 (⟨23, [], [(5, .one (.val (.int .u64 (x1.1.toNat : Int)))), (6, vI x1.2.1), (19, vB ((x1.2.2 != 0) || (decide ((x1.1.toNat : Int) > 1099511627776))))], []⟩ : ASt) ?_ ?_
  · rcases Md.bool_or ((x1.2.2 != 0)) with q2 | q2
    · skip
      iterate 2 refine np q2 ?_
      refine s_py q2 ?_
      refine aops_nil ?_
      exact wq q2
    refine y_mv q2 ?_
    refine y_cm q2 ?_
    refine s_pn q2 ?_
    refine aops_nil ?_
    exact wq q2
  refine aops_nil ?_
  refine aw_cond rfl (fun c3 => ?_) (fun c3 => ?_)
  · replace h := Md.cond_t h c3
    refine aw_seq (aw_region ?_)
    iterate 3 refine s_sa ?_
    refine aops_nil ?_
    cases Option.some.inj h
    exact aw_ret ⟨rfl, rv (rn (.cons o1 (.cons o1 (.cons o1 .nil))))⟩
  replace h := Md.cond_f h c3
  refine aw_skip (aw_seq (aw_region (s_mv ?_)))
  refine aops_step1 rfl (st_conv_int rfl rfl Try.underlying109 Try.underlying3 (Md.wrap_W _)) (s_mv ?_)
  iterate 3 refine s_sa ?_
  refine aops_nil ?_
  cases Option.some.inj h
  exact aw_ret ⟨rfl, rv (rn (.cons o1 (.cons o1 (.cons o1 .nil))))⟩
set_option maxHeartbeats 2000000 in
theorem actorgridref26_readHeader_fn (k : Nat) (a0 : List UInt8) (r : Int × Int × (List UInt8) × Bool) (h : actorgridref26_readHeader k a0 = some r) : FnC Try.prog 90 [.one (CV.ls byC a0)] [] (Det (.tup [vI r.1, vI r.2.1, .one (CV.ls byC r.2.2.1), vB r.2.2.2]) []) := by
  unfold actorgridref26_readHeader at h
  refine fn_intro' 68 Try.func90 rfl rfl rfl (aw_seq (aw_region ?_))
  iterate 4 refine s_sa ?_
  refine aops_nil (aw_seq (aw_region (s_mv ?_)))
  obtain ⟨x1, hx1, h⟩ := Md.bind_s h
  refine aops_step1 rfl (ev_call_v (actorgridref26_number_fn k a0 x1 hx1) rfl [] ai rfl rfl rfl (.inl rfl) rfl) (s_mt ?_)
  iterate 3 refine s_ex ?_
  iterate 3 refine s_sa ?_
  refine aops_nil (aw_seq (aw_seq (aw_region (s_mv ?_))))
  refine s_nt ?_
  refine aops_nil ?_
  refine aw_cond rfl (fun c2 => ?_) (fun c2 => ?_)
  · replace h := Md.cond_t h c2
    refine aw_seq (aw_region ?_)
    iterate 4 refine s_sa ?_
    refine aops_nil ?_
    cases Option.some.inj h
    exact aw_ret ⟨rfl, rv (rn (.cons o1 (.cons o1 (.cons o1 (.cons o1 .nil)))))⟩
  replace h := Md.cond_f h c2
  refine aw_skip (aw_seq (aw_region ?_))
  iterate 2 refine s_mv ?_
  obtain ⟨g3, h⟩ := Md.ifp_s h
  obtain ⟨g4, h⟩ := Md.ifp_s h
  refine aops_step1 rfl (st_cut_lo (f := byC) (fun _ => rfl) rfl ⟨_, _, rfl, (Md.nn_eq g3)⟩ g4 rfl) ?_
  obtain ⟨x5, hx5, h⟩ := Md.bind_s h
  refine aops_step1 rfl (ev_call_v (actorgridref26_number_fn k (a0.drop ((x1.2.1).toNat)) x5 hx5) rfl [] ai rfl rfl rfl (.inl rfl) rfl) (s_mt ?_)
  iterate 3 refine s_ex ?_
  iterate 3 refine s_sa ?_
  refine aops_nil (aw_seq (aw_seq (aw_region (s_mv ?_))))
  refine s_nt ?_
  refine aops_nil ?_
  refine aw_cond rfl (fun c6 => ?_) (fun c6 => ?_)
  · replace h := Md.cond_t h c6
    refine aw_seq (aw_region ?_)
    iterate 4 refine s_sa ?_
    refine aops_nil ?_
    cases Option.some.inj h
    exact aw_ret ⟨rfl, rv (rn (.cons o1 (.cons o1 (.cons o1 (.cons o1 .nil)))))⟩
  replace h := Md.cond_f h c6
  refine aw_skip (aw_seq (aw_region ?_))
  iterate 3 refine s_mv ?_
  refine aops_step1 rfl (ev_add rfl rfl rfl (Md.wrap_W _)) ?_
  obtain ⟨g7, h⟩ := Md.ifp_s h
  obtain ⟨g8, h⟩ := Md.ifp_s h
  refine aops_step1 rfl (st_cut_lo (f := byC) (fun _ => rfl) rfl ⟨_, _, rfl, (Md.nn_eq g7)⟩ g8 rfl) ?_
  obtain ⟨x9, hx9, h⟩ := Md.bind_s h
  refine aops_step1 rfl (ev_call_v (actorgridref1_ReadUint_fn k (a0.drop (((Md.W (x1.2.1 + x5.2.1))).toNat)) x9 hx9) rfl [] ai rfl rfl rfl (.inl rfl) rfl) (s_mt ?_)
  iterate 3 refine s_ex ?_
  iterate 3 refine s_sa ?_
  refine aops_nil (aw_seq (aw_seq (aw_region (s_mv ?_))))
  refine s_cm ?_
  refine s_mv ?_
  refine aops_mid 12 (⟨68, [], [(0, .one (CV.ls byC a0)), (6, vI x1.1), (7, vI x1.2.1), (9, vI x5.1), (10, vI x5.2.1), (12, vI x9.2.1), (56, vB ((x9.2.2 != 0) || ((x9.1.toNat : Int) != (((UInt64.ofInt (Md.W ((Md.W ((Md.W (((a0.length : Nat) : Int) - x1.2.1)) - x5.2.1)) - x9.2.1)))).toNat : Int))))], []⟩ : ASt) ?_ ?_
  · rcases Md.bool_or ((x9.2.2 != 0)) with q10 | q10
    · skip
      iterate 11 refine np q10 ?_
      refine s_py q10 ?_
      refine aops_nil ?_
      exact wq q10
    iterate 2 refine y_mv q10 ?_
    refine y_ln q10 ?_
    refine y_mv q10 ?_
    refine aops_yes rfl rfl rfl rfl q10 (ev_sub rfl rfl rfl (Md.wrap_W _)) (y_mv q10 ?_)
    refine aops_yes rfl rfl rfl rfl q10 (ev_sub rfl rfl rfl (Md.wrap_W _)) (y_mv q10 ?_)
    refine aops_yes rfl rfl rfl rfl q10 (ev_sub rfl rfl rfl (Md.wrap_W _)) ?_
    refine aops_yes rfl rfl rfl rfl q10 (st_conv_int rfl rfl Try.underlying3 Try.underlying109 (Md.ofInt_u64 (Md.W ((Md.W ((Md.W (((a0.length : Nat) : Int) - x1.2.1)) - x5.2.1)) - x9.2.1)))) (y_cm q10 ?_)
    refine s_pn q10 ?_
    refine aops_nil ?_
    exact wq q10
  refine aops_nil ?_
  refine aw_cond rfl (fun c11 => ?_) (fun c11 => ?_)
  · replace h := Md.cond_t h c11
    refine aw_seq (aw_region ?_)
    iterate 4 refine s_sa ?_
    refine aops_nil ?_
    cases Option.some.inj h
    exact aw_ret ⟨rfl, rv (rn (.cons o1 (.cons o1 (.cons o1 (.cons o1 .nil)))))⟩
  replace h := Md.cond_f h c11
  refine aw_skip (aw_seq (aw_region ?_))
  iterate 2 refine s_mv ?_
  refine aops_step1 rfl (st_slice_lit (el := lsEl byC ([] : List UInt8)) 0 rfl rfl rfl rfl rfl rfl rfl rfl (lit_el byC 1 ([] : List UInt8) (fun _ => rfl)) rfl) ?_
  iterate 3 refine s_mv ?_
  refine aops_step1 rfl (ev_add rfl rfl rfl (Md.wrap_W _)) (s_mv ?_)
  refine aops_step1 rfl (ev_add rfl rfl rfl (Md.wrap_W _)) ?_
  obtain ⟨g12, h⟩ := Md.ifp_s h
  obtain ⟨g13, h⟩ := Md.ifp_s h
  refine aops_step1 rfl (st_cut_lo (f := byC) (fun _ => rfl) rfl ⟨_, _, rfl, (Md.nn_eq g12)⟩ g13 rfl) ?_
  obtain ⟨g14, h⟩ := Md.ifp_s h
  refine aops_step1 rfl (st_app_ls (f := byC) ([] : List UInt8) (a0.drop (((Md.W ((Md.W (x1.2.1 + x5.2.1)) + x9.2.1))).toNat)) (fun _ => rfl) rfl rfl (.inl rfl) (by omega) (by omega) rfl) ?_
  iterate 4 refine s_sa ?_
  refine aops_nil ?_
  cases Option.some.inj h
  refine aw_freeze 0 rfl ?_
  exact aw_ret ⟨rfl, rv (rn (.cons o1 (.cons o1 (.cons o1 (.cons o1 .nil)))))⟩
set_option maxHeartbeats 2000000 in
theorem actorgridref26_contents_fn (k : Nat) (a0 : List JournalRecord) (r : Int × StoreContents × Bool) (h : actorgridref26_contents k a0 = some r) : FnC Try.prog 74 [.one (CV.ls c_JournalRecord a0)] [] (Det (.tup [vI r.1, .agg (c_StoreContents r.2.1), vB r.2.2]) []) := by
  unfold actorgridref26_contents at h
  refine fn_intro' 73 Try.func74 rfl rfl rfl (aw_seq (aw_region (s_sa ?_)))
  refine aops_step1 rfl (st_alloc (cs := [cI 0, .val (.slice none 0 0), .val (.slice none 0 0)]) 0 rfl rfl rfl rfl rfl) (s_sa ?_)
  refine aops_nil (aw_seq (aw_seq (aw_region (s_mv ?_))))
  refine s_ln ?_
  refine s_cm ?_
  refine s_mv ?_
  obtain ⟨o1, j1, h⟩ := Md.bind_s h
  refine aops_cut 6 (ε := Bool) (fun x1 => (⟨73, [], [(0, .one (CV.ls c_JournalRecord a0)), (3, .one (.ptr 0 0)), (20, vB x1)], [(0, some (.box [cI 0, .val (.slice none 0 0), .val (.slice none 0 0)]))]⟩ : ASt)) (fun x1 => x1 = o1) ?_ ?_
  · intro x1 hI1
    subst hI1
    change AOps _ _ _ (⟨73, [], [(0, .one (CV.ls c_JournalRecord a0)), (3, .one (.ptr 0 0)), (20, vB x1)], [(0, some (.box [cI 0, .val (.slice none 0 0), .val (.slice none 0 0)]))]⟩ : ASt) _
    refine aops_nil ?_
    refine aw_cond rfl (fun c2 => ?_) (fun c2 => ?_)
    · replace h := Md.cond_t h c2
      refine aw_seq (aw_region (aops_step1 rfl (ev_build' (out := [_, _, _]) rfl rfl rfl rfl rfl) (s_sa ?_)))
      refine s_st [_, _, _] ?_
      refine s_sa ?_
      refine aops_nil ?_
      cases Option.some.inj h
      exact aw_ret ⟨rfl, rv (rn (.cons o1 (.cons (va [_, _, _]) (.cons o1 .nil))))⟩
    replace h := Md.cond_f h c2
    refine aw_skip (aw_seq (aw_region (s_mv ?_)))
    obtain ⟨g3, h⟩ := Md.ifp_s h
    refine aops_step1 rfl (ev_index_in rfl rfl rfl g3 rfl rfl) (aops_step1 rfl (ev_field_in rfl rfl rfl) (aops_step1 rfl (ev_load_in rfl rfl rfl) ?_))
    obtain ⟨x4, hx4, h⟩ := Md.bind_s h
    refine aops_step1 rfl (ev_call_v (actorgridref26_readHeader_fn k ((a0.getD 0 default).Body) x4 hx4) rfl [] ai rfl rfl rfl (.inl rfl) rfl) (s_mt ?_)
    iterate 4 refine s_ex ?_
    iterate 4 refine s_sa ?_
    refine aops_nil (aw_seq (aw_seq (aw_region (s_mv ?_))))
    refine s_nt ?_
    refine s_mv ?_
    refine aops_mid 7 (⟨73, [], [(0, .one (CV.ls c_JournalRecord a0)), (3, .one (.ptr 0 0)), (5, vI x4.1), (6, vI x4.2.1), (7, .one (CV.ls byC x4.2.2.1)), (41, vB ((!x4.2.2.2) || (decide ((Md.W (((a0.length : Nat) : Int) - 1)) > (Md.W (1099511627776 - x4.2.1))))))], [(0, some (.box [cI 0, .val (.slice none 0 0), .val (.slice none 0 0)]))]⟩ : ASt) ?_ ?_
    · rcases Md.bool_or ((!x4.2.2.2)) with q5 | q5
      · skip
        iterate 6 refine np q5 ?_
        refine s_py q5 ?_
        refine aops_nil ?_
        exact wq q5
      refine y_mv q5 ?_
      refine y_ln q5 ?_
      refine aops_yes rfl rfl rfl rfl q5 (ev_sub rfl rfl rfl (Md.wrap_W _)) (y_mv q5 ?_)
      refine aops_yes rfl rfl rfl rfl q5 (ev_sub rfl rfl rfl (Md.wrap_W _)) (y_cm q5 ?_)
      refine s_pn q5 ?_
      refine aops_nil ?_
      exact wq q5
    refine aops_nil ?_
    refine aw_cond rfl (fun c6 => ?_) (fun c6 => ?_)
    · replace h := Md.cond_t h c6
      refine aw_seq (aw_region (aops_step1 rfl (ev_build' (out := [_, _, _]) rfl rfl rfl rfl rfl) (s_sa ?_)))
      refine s_st [_, _, _] ?_
      refine s_sa ?_
      refine aops_nil ?_
      cases Option.some.inj h
      exact aw_ret ⟨rfl, rv (rn (.cons o1 (.cons (va [_, _, _]) (.cons o1 .nil))))⟩
    replace h := Md.cond_f h c6
    refine aw_skip (aw_seq (aw_region ?_))
    iterate 2 refine s_mv ?_
    refine aops_step1 rfl (ev_build' (out := [_, _, _]) rfl rfl rfl rfl rfl) ?_
    refine aops_step1 rfl (st_alloc (cs := [cI 0, .val (.slice none 0 0), .val (.slice none 0 0)]) 1 rfl rfl rfl rfl rfl) (s_st [_, _, _] ?_)
    refine aops_nil (aw_seq (aw_seq (aw_region (s_sa ?_))))
    refine aops_nil (aw_block (aw_own_nil_box 1 2 2 24 1 (lsEl c_LU8 []) rfl rfl rfl ?_))
    obtain ⟨o7, ho7, h⟩ := Md.bind_s h
    refine aw_loop_x (ι := {p : Nat × Nat × (List (List UInt8)) // actorgridref26_contents_loop1 k a0 p.1 p.2.1 p.2.2 = some o7}) (fun p => (⟨73, [], [(0, .one (CV.ls c_JournalRecord a0)), (3, .one (.ptr 0 0)), (5, vI x4.1), (9, .one (.ptr 1 0)), (10, vI ((p.1.2.1 : Nat) : Int))], [(0, some (.box [cI 0, .val (.slice none 0 0), .val (.slice none 0 0)])), (1, some (.box [cI x4.2.1, CV.ls byC x4.2.2.1, .own 2])), (2, some (.row 24 1 p.1.2.2.length (lsEl c_LU8 p.1.2.2)))]⟩ : ASt)) (fun p => p.1.1) ⟨(k, 1, ([] : List (List UInt8))), ho7⟩ wk 0 (ε := (List (List UInt8))) (fun x => (⟨73, [], [(3, .one (.ptr 0 0)), (5, vI x4.1), (9, .one (.ptr 1 0))], [(0, some (.box [cI 0, .val (.slice none 0 0), .val (.slice none 0 0)])), (1, some (.box [cI x4.2.1, CV.ls byC x4.2.2.1, .own 2])), (2, some (.row 24 1 x.length (lsEl c_LU8 x)))]⟩ : ASt)) (fun x => Sum.inl x = o7) (fun _ _ w h => aw_weak w h) ?_ ?_
    · intro x7_0 hI7
      subst hI7
      replace h := Md.onS_l h
      change AW _ _ (⟨73, [], [(3, .one (.ptr 0 0)), (5, vI x4.1), (9, .one (.ptr 1 0))], [(0, some (.box [cI 0, .val (.slice none 0 0), .val (.slice none 0 0)])), (1, some (.box [cI x4.2.1, CV.ls byC x4.2.2.1, .own 2])), (2, some (.row 24 1 x7_0.length (lsEl c_LU8 x7_0)))]⟩ : ASt) _
      refine aw_seq ?_
      apply aw_draw 3 ((⟨[], vI x4.1⟩ : Add) :: ⟨[], .agg [cI x4.2.1, CV.ls byC x4.2.2.1, .own 2]⟩ :: ⟨[], vI x4.1⟩ :: []) (by decide) rfl ?hk7x ?hf7x ?ho7x ?hr7x
      case ho7x =>
       refine ob [] (fun S hle hfr => .inl ⟨w0, st_move (hle.e rfl) (hle.d rfl)⟩) ?_
       refine ob [] (fun S hle hfr => .inl ⟨w0, ev_loads (ds := [_, _, _]) (hle.e rfl) (hle.heap _ _ rfl) rfl rfl (hle.d rfl)⟩) ?_
       refine ob [0] (fun S hle hfr => .inl ⟨w0, st_assign (hle.e rfl) (hle.d rfl)⟩) ?_
       exact trivial
      case hk7x => rfl
      case hf7x => rfl
      refine s_st [_, _, _] ?_
      refine s_sa ?_
      refine aops_nil ?_
      cases Option.some.inj h
      refine aw_freeze 2 rfl ?_
      exact aw_ret ⟨rfl, rv (rn (.cons o1 (.cons (va [_, _, _]) (.cons o1 .nil))))⟩
    intro p7
    obtain ⟨⟨n7, s7_0, s7_1⟩, l7⟩ := p7
    change AW _ _ (⟨73, [], [(0, .one (CV.ls c_JournalRecord a0)), (3, .one (.ptr 0 0)), (5, vI x4.1), (9, .one (.ptr 1 0)), (10, vI ((s7_0 : Nat) : Int))], [(0, some (.box [cI 0, .val (.slice none 0 0), .val (.slice none 0 0)])), (1, some (.box [cI x4.2.1, CV.ls byC x4.2.2.1, .own 2])), (2, some (.row 24 1 s7_1.length (lsEl c_LU8 s7_1)))]⟩ : ASt) _
    replace l7 : actorgridref26_contents_loop1 k a0 n7 s7_0 s7_1 = some o7 := l7
    rcases n7 with _ | n7
    · exact absurd (show none = some o7 from l7) nofun
    rw [actorgridref26_contents_loop1] at l7
    refine aw_seq (aw_seq (aw_region ?_))
    iterate 2 refine s_mv ?_
    refine s_ln ?_
    refine s_cm ?_
    refine aops_nil ?_
    refine aw_cond rfl (fun c8 => ?_) (fun c8 => ?_)
    · replace l7 := Md.cond_t l7 c8
      refine aw_skip (aw_seq (aw_block (aw_seq (aw_seq (aw_region ?_)))))
      iterate 2 refine s_mv ?_
      obtain ⟨g9, l7⟩ := Md.ifp_s l7
      refine aops_step1 rfl (ev_index_in rfl rfl rfl g9 rfl rfl) (aops_step1 rfl (ev_field_in rfl rfl rfl) (aops_step1 rfl (ev_load_in rfl rfl rfl) (s_cm ?_)))
      refine aops_nil ?_
      refine aw_cond rfl (fun c10 => ?_) (fun c10 => ?_)
      · replace l7 := Md.cond_t l7 c10
        refine aw_seq (aw_region (aops_step1 rfl (ev_build' (out := [_, _, _]) rfl rfl rfl rfl rfl) (s_sa ?_)))
        refine s_st [_, _, _] ?_
        refine s_sa ?_
        refine aops_nil ?_
        cases Option.some.inj l7
        replace h := Md.onS_r h
        cases Option.some.inj h
        exact aw_ret ⟨rfl, rv (rn (.cons o1 (.cons (va [_, _, _]) (.cons o1 .nil))))⟩
      replace l7 := Md.cond_f l7 c10
      refine aw_skip ?_
      obtain ⟨g11, l7⟩ := Md.ifp_s l7
      obtain ⟨g12, l7⟩ := Md.ifp_s l7
      obtain ⟨g13, l7⟩ := Md.ifp_s l7
      apply aw_draw 10 ((⟨[], .one (.ptr 1 _)⟩ : Add) :: ⟨[], .one (.own 2)⟩ :: ⟨[], .one (.emp0)⟩ :: ⟨[], .one (CV.ls c_JournalRecord a0)⟩ :: ⟨[], vI ((s7_0 : Nat) : Int)⟩ :: ⟨[], .one (.cptr _)⟩ :: ⟨[], .one (.cptr _)⟩ :: ⟨[], .one (CV.ls byC ((a0.getD s7_0 default).Body))⟩ :: ⟨[], .one (CV.ls byC ((a0.getD s7_0 default).Body))⟩ :: ⟨[], .one (CV.ls c_LU8 [((a0.getD s7_0 default).Body)])⟩ :: []) (by decide) rfl ?hk9x ?hf9x ?ho9x ?hr9x
      case ho9x =>
       refine ob [] (fun S hle hfr => .inl ⟨w0, ev_field (hle.e rfl) rfl (hle.d rfl)⟩) ?_
       refine ob [0] (fun S hle hfr => .inl ⟨w0, ev_load (hle.e rfl) (hle.heap _ _ rfl) rfl (hle.d rfl)⟩) ?_
       refine ob [] (fun S hle hfr => .inl ⟨w0, st_slice_emp (hle.d rfl)⟩) (ob [] (fun S hle hfr => .inl ⟨w0, st_move (hle.e rfl) (hle.d rfl)⟩) ?_)
       refine ob [] (fun S hle hfr => .inl ⟨w0, st_move (hle.e rfl) (hle.d rfl)⟩) ?_
       refine ob [3, 4] (fun S hle hfr => .inl ⟨w0, ev_index_in (hle.e rfl) (hle.e rfl) rfl g11 rfl (hle.d rfl)⟩) ?_
       refine ob [5, 3, 4] (fun S hle hfr => .inl ⟨w0, ev_field_in (hle.e rfl) rfl (hle.d rfl)⟩) ?_
       refine ob [6, 5, 3, 4] (fun S hle hfr => .inl ⟨w0, ev_load_in (hle.e rfl) rfl (hle.d rfl)⟩) ?_
       refine ob [2, 7, 6, 5, 3, 4] (fun S hle hfr => .inl ⟨w0, st_app_emp_z (f := byC) ((a0.getD s7_0 default).Body) (fun _ => rfl) (hle.e rfl) (.inl (hle.e rfl)) (by omega) (by omega) (hle.d rfl)⟩) ?_
       refine ob [8, 2, 7, 6, 5, 3, 4] (fun S hle hfr => .inl ⟨w0, st_slice_lit_z (el := lsEl c_LU8 [((a0.getD s7_0 default).Body)]) (map_ev2 (.cons (hle.e rfl) (.nil))) rfl rfl rfl rfl rfl rfl (lit_el c_LU8 1 [((a0.getD s7_0 default).Body)] (fun _ => rfl)) (hle.d rfl)⟩) ?_
       exact trivial
      case hk9x => rfl
      case hf9x => rfl
      refine aops_step1 rfl (st_app_ls (f := c_LU8) s7_1 [((a0.getD s7_0 default).Body)] (fun _ => rfl) rfl rfl (.inl rfl) (by omega) (by omega) rfl) (s_fd ?_)
      refine s_st [_, _, _] ?_
      refine aops_nil (aw_region (s_mv ?_))
      obtain ⟨g14, l7⟩ := Md.ifp_s l7
      refine aops_step1 rfl (ev_add rfl rfl rfl (Md.nat_add g14)) (s_sa ?_)
      refine aops_nil ?_
      exact ⟨⟨(n7, (s7_0 + 1), (s7_1 ++ [((a0.getD s7_0 default).Body)])), l7⟩, Nat.lt_succ_self _, wk⟩
    replace l7 := Md.cond_f l7 c8
    refine aw_exit ?_
    show ∃ _x : (List (List UInt8)), _ = _ ∧ Weak _ _
    exact ⟨s7_1, Option.some.inj l7, wk⟩
  rcases Md.bool_or ((((a0.length : Nat) : Int) == 0)) with q1 | q1
  · replace j1 := Md.cond_t j1 q1
    iterate 5 refine np q1 ?_
    refine s_py q1 ?_
    refine aops_nil ?_
    show ∃ _x : Bool, _ = _ ∧ Weak _ _
    exact ⟨true, Option.some.inj j1, wk⟩
  replace j1 := Md.cond_f j1 q1
  refine y_mv q1 ?_
  obtain ⟨g15, j1⟩ := Md.ifp_s j1
  refine aops_yes rfl rfl rfl rfl q1 (ev_index_in rfl rfl rfl g15 rfl rfl) (aops_yes rfl rfl rfl rfl q1 (ev_field_in rfl rfl rfl) ?_)
  refine aops_yes rfl rfl rfl rfl q1 (ev_load_in rfl rfl rfl) (y_cm q1 ?_)
  refine s_pn q1 ?_
  refine aops_nil ?_
  show ∃ _x : Bool, _ = _ ∧ Weak _ _
  exact ⟨(((a0.getD 0 default).Kind) != 1), Option.some.inj j1, wk⟩
set_option maxHeartbeats 2000000 in
theorem actorgridref26_ValidStore_fn (k : Nat) (a0 : Store) (r : Bool) (h : actorgridref26_ValidStore k a0 = some r) : FnC Try.prog 56 [.agg (c_Store a0)] [] (Det (vB r) []) := by
  unfold actorgridref26_ValidStore at h
  refine fn_intro' 112 Try.func56 rfl rfl rfl (aw_seq (aw_region (aops_step1 rfl (st_box 0 rfl rfl rfl rfl) (s_sa ?_))))
  refine aops_nil (aw_seq (aw_seq (aw_region (s_fd ?_))))
  refine aops_step1 rfl (ev_index_arr rfl rfl rfl rfl rfl) (s_ls [_, _, _, _, _, _] ?_)
  obtain ⟨x1, hx1, h⟩ := Md.bind_s h
  refine aops_step1 rfl (ev_call_v (actorgridref26_ValidDisk_fn k a0.Disks.x0 x1 hx1) rfl [] ai rfl rfl rfl (.inl rfl) rfl) (s_nt ?_)
  refine s_mv ?_
  obtain ⟨o2, j2, h⟩ := Md.bind_s h
  refine aops_cut 6 (ε := Bool) (fun x2 => (⟨112, [], [(1, .one (.ptr 0 0)), (20, vB x2)], [(0, some (.box (c_Store a0)))]⟩ : ASt)) (fun x2 => x2 = o2) ?_ ?_
  · intro x2 hI2
    subst hI2
    change AOps _ _ _ (⟨112, [], [(1, .one (.ptr 0 0)), (20, vB x2)], [(0, some (.box (c_Store a0)))]⟩ : ASt) _
    refine s_mv ?_
    refine aops_mid 4 (⟨112, [], [(1, .one (.ptr 0 0)), (25, vB (x2 || (decide (a0.Current < 0))))], [(0, some (.box (c_Store a0)))]⟩ : ASt) ?_ ?_
    · rcases Md.bool_or (x2) with q3 | q3
      · skip
        iterate 3 refine np q3 ?_
        refine s_py q3 ?_
        refine aops_nil ?_
        exact wq q3
      refine y_fd q3 ?_
      refine y_ld q3 ?_
      refine y_cm q3 ?_
      refine s_pn q3 ?_
      refine aops_nil ?_
      exact wq q3
    refine s_mv ?_
    refine aops_mid 4 (⟨112, [], [(1, .one (.ptr 0 0)), (30, vB ((x2 || (decide (a0.Current < 0))) || (decide (a0.Current > 1))))], [(0, some (.box (c_Store a0)))]⟩ : ASt) ?_ ?_
    · rcases Md.bool_or ((x2 || (decide (a0.Current < 0)))) with q4 | q4
      · skip
        iterate 3 refine np q4 ?_
        refine s_py q4 ?_
        refine aops_nil ?_
        exact wq q4
      refine y_fd q4 ?_
      refine y_ld q4 ?_
      refine y_cm q4 ?_
      refine s_pn q4 ?_
      refine aops_nil ?_
      exact wq q4
    refine s_mv ?_
    refine aops_mid 4 (⟨112, [], [(1, .one (.ptr 0 0)), (35, vB (((x2 || (decide (a0.Current < 0))) || (decide (a0.Current > 1))) || (decide (a0.Number < 0))))], [(0, some (.box (c_Store a0)))]⟩ : ASt) ?_ ?_
    · rcases Md.bool_or (((x2 || (decide (a0.Current < 0))) || (decide (a0.Current > 1)))) with q5 | q5
      · skip
        iterate 3 refine np q5 ?_
        refine s_py q5 ?_
        refine aops_nil ?_
        exact wq q5
      refine y_fd q5 ?_
      refine y_ld q5 ?_
      refine y_cm q5 ?_
      refine s_pn q5 ?_
      refine aops_nil ?_
      exact wq q5
    refine s_mv ?_
    refine aops_mid 4 (⟨112, [], [(1, .one (.ptr 0 0)), (40, vB ((((x2 || (decide (a0.Current < 0))) || (decide (a0.Current > 1))) || (decide (a0.Number < 0))) || (decide (a0.Number > 1099511627776))))], [(0, some (.box (c_Store a0)))]⟩ : ASt) ?_ ?_
    · rcases Md.bool_or ((((x2 || (decide (a0.Current < 0))) || (decide (a0.Current > 1))) || (decide (a0.Number < 0)))) with q6 | q6
      · skip
        iterate 3 refine np q6 ?_
        refine s_py q6 ?_
        refine aops_nil ?_
        exact wq q6
      refine y_fd q6 ?_
      refine y_ld q6 ?_
      refine y_cm q6 ?_
      refine s_pn q6 ?_
      refine aops_nil ?_
      exact wq q6
    refine s_mv ?_
    refine aops_mid 4 (⟨112, [], [(1, .one (.ptr 0 0)), (45, vB (((((x2 || (decide (a0.Current < 0))) || (decide (a0.Current > 1))) || (decide (a0.Number < 0))) || (decide (a0.Number > 1099511627776))) || (decide (a0.Base < 0))))], [(0, some (.box (c_Store a0)))]⟩ : ASt) ?_ ?_
    · rcases Md.bool_or (((((x2 || (decide (a0.Current < 0))) || (decide (a0.Current > 1))) || (decide (a0.Number < 0))) || (decide (a0.Number > 1099511627776)))) with q7 | q7
      · skip
        iterate 3 refine np q7 ?_
        refine s_py q7 ?_
        refine aops_nil ?_
        exact wq q7
      refine y_fd q7 ?_
      refine y_ld q7 ?_
      refine y_cm q7 ?_
      refine s_pn q7 ?_
      refine aops_nil ?_
      exact wq q7
    refine s_mv ?_
    refine aops_mid 4 (⟨112, [], [(1, .one (.ptr 0 0)), (50, vB ((((((x2 || (decide (a0.Current < 0))) || (decide (a0.Current > 1))) || (decide (a0.Number < 0))) || (decide (a0.Number > 1099511627776))) || (decide (a0.Base < 0))) || (decide (a0.Base > 1099511627776))))], [(0, some (.box (c_Store a0)))]⟩ : ASt) ?_ ?_
    · rcases Md.bool_or ((((((x2 || (decide (a0.Current < 0))) || (decide (a0.Current > 1))) || (decide (a0.Number < 0))) || (decide (a0.Number > 1099511627776))) || (decide (a0.Base < 0)))) with q8 | q8
      · skip
        iterate 3 refine np q8 ?_
        refine s_py q8 ?_
        refine aops_nil ?_
        exact wq q8
      refine y_fd q8 ?_
      refine y_ld q8 ?_
      refine y_cm q8 ?_
      refine s_pn q8 ?_
      refine aops_nil ?_
      exact wq q8
    refine s_mv ?_
    refine aops_mid 4 (⟨112, [], [(1, .one (.ptr 0 0)), (55, vB (((((((x2 || (decide (a0.Current < 0))) || (decide (a0.Current > 1))) || (decide (a0.Number < 0))) || (decide (a0.Number > 1099511627776))) || (decide (a0.Base < 0))) || (decide (a0.Base > 1099511627776))) || (decide (a0.Count < 0))))], [(0, some (.box (c_Store a0)))]⟩ : ASt) ?_ ?_
    · rcases Md.bool_or (((((((x2 || (decide (a0.Current < 0))) || (decide (a0.Current > 1))) || (decide (a0.Number < 0))) || (decide (a0.Number > 1099511627776))) || (decide (a0.Base < 0))) || (decide (a0.Base > 1099511627776)))) with q9 | q9
      · skip
        iterate 3 refine np q9 ?_
        refine s_py q9 ?_
        refine aops_nil ?_
        exact wq q9
      refine y_fd q9 ?_
      refine y_ld q9 ?_
      refine y_cm q9 ?_
      refine s_pn q9 ?_
      refine aops_nil ?_
      exact wq q9
    refine s_mv ?_
    refine aops_mid 7 (⟨112, [], [(1, .one (.ptr 0 0)), (63, vB ((((((((x2 || (decide (a0.Current < 0))) || (decide (a0.Current > 1))) || (decide (a0.Number < 0))) || (decide (a0.Number > 1099511627776))) || (decide (a0.Base < 0))) || (decide (a0.Base > 1099511627776))) || (decide (a0.Count < 0))) || (decide (a0.Count > (Md.W (1099511627776 - a0.Base))))))], [(0, some (.box (c_Store a0)))]⟩ : ASt) ?_ ?_
    · rcases Md.bool_or ((((((((x2 || (decide (a0.Current < 0))) || (decide (a0.Current > 1))) || (decide (a0.Number < 0))) || (decide (a0.Number > 1099511627776))) || (decide (a0.Base < 0))) || (decide (a0.Base > 1099511627776))) || (decide (a0.Count < 0)))) with q10 | q10
      · skip
        iterate 6 refine np q10 ?_
        refine s_py q10 ?_
        refine aops_nil ?_
        exact wq q10
      refine y_fd q10 ?_
      refine y_ld q10 ?_
      refine y_fd q10 ?_
      refine y_ld q10 ?_
      refine aops_yes rfl rfl rfl rfl q10 (ev_sub rfl rfl rfl (Md.wrap_W _)) (y_cm q10 ?_)
      refine s_pn q10 ?_
      refine aops_nil ?_
      exact wq q10
    refine aops_nil ?_
    refine aw_cond rfl (fun c11 => ?_) (fun c11 => ?_)
    · replace h := Md.cond_t h c11
      refine aw_seq (aw_region (s_sa ?_))
      refine aops_nil ?_
      cases Option.some.inj h
      exact aw_ret ⟨rfl, rv r1⟩
    replace h := Md.cond_f h c11
    refine aw_skip (aw_seq (aw_region (s_fd ?_)))
    refine s_ld ?_
    refine s_fd ?_
    rcases Md.bool_or ((decide (a0.Current = 0))) with q12 | q12
    · replace h := Md.cond_t h q12
      refine aops_step1 rfl (ev_index_arr (j := 0) rfl rfl (of_decide_eq_true q12) rfl rfl) (s_fd ?_)
      refine s_ld ?_
      obtain ⟨x13, hx13, h⟩ := Md.bind_s h
      refine aops_step1 rfl (ev_call_v (actorgridref26_Scan_fn k a0.Disks.x0.Data x13 hx13) rfl [] ai rfl rfl rfl (.inl rfl) rfl) (s_mt ?_)
      iterate 3 refine s_ex ?_
      iterate 3 refine s_sa ?_
      refine aops_nil (aw_seq (aw_seq (aw_region (s_mv ?_))))
      refine s_fd ?_
      refine s_ld ?_
      refine s_fd ?_
      refine aops_step1 rfl (ev_index_arr (j := 0) rfl rfl (of_decide_eq_true q12) rfl rfl) (s_fd ?_)
      refine s_ld ?_
      refine s_ln ?_
      refine s_cm ?_
      refine aops_nil ?_
      refine aw_cond rfl (fun c14 => ?_) (fun c14 => ?_)
      · replace h := Md.cond_t h c14
        refine aw_seq (aw_region (s_sa ?_))
        refine aops_nil ?_
        cases Option.some.inj h
        exact aw_ret ⟨rfl, rv r1⟩
      replace h := Md.cond_f h c14
      refine aw_skip (aw_seq (aw_region (s_mv ?_)))
      obtain ⟨x15, hx15, h⟩ := Md.bind_s h
      refine aops_step1 rfl (ev_call_v (actorgridref26_contents_fn k x13.1 x15 hx15) rfl [] ai rfl rfl rfl (.inl rfl) rfl) (s_mt ?_)
      iterate 3 refine s_ex ?_
      refine aops_step1 rfl (st_alloc (cs := [cI 0, .val (.slice none 0 0), .val (.slice none 0 0)]) 1 rfl rfl rfl rfl rfl) (s_sa ?_)
      refine s_st [_, _, _] ?_
      refine s_sa ?_
      refine aops_nil (aw_seq (aw_region ?_))
      iterate 2 refine s_mv ?_
      refine aops_mid 5 (⟨112, [], [(1, .one (.ptr 0 0)), (7, .one (.ptr 1 0)), (96, vB (x15.2.2 && (x15.1 == a0.Number)))], [(0, some (.box (c_Store a0))), (1, some (.box (c_StoreContents x15.2.1)))]⟩ : ASt) ?_ ?_
      · rcases Md.bool_or (x15.2.2) with q16 | q16
        · skip
          refine y_mv q16 ?_
          refine y_fd q16 ?_
          refine y_ld q16 ?_
          refine y_cm q16 ?_
          refine s_py q16 ?_
          refine aops_nil ?_
          exact wq q16
        iterate 4 refine np q16 ?_
        refine s_pn q16 ?_
        refine aops_nil ?_
        exact wq q16
      refine s_mv ?_
      refine aops_mid 6 (⟨112, [], [(1, .one (.ptr 0 0)), (7, .one (.ptr 1 0)), (103, vB ((x15.2.2 && (x15.1 == a0.Number)) && (x15.2.1.Base == a0.Base)))], [(0, some (.box (c_Store a0))), (1, some (.box (c_StoreContents x15.2.1)))]⟩ : ASt) ?_ ?_
      · rcases Md.bool_or ((x15.2.2 && (x15.1 == a0.Number))) with q17 | q17
        · skip
          refine y_fd q17 ?_
          refine y_ld q17 ?_
          refine y_fd q17 ?_
          refine y_ld q17 ?_
          refine y_cm q17 ?_
          refine s_py q17 ?_
          refine aops_nil ?_
          exact wq q17
        iterate 5 refine np q17 ?_
        refine s_pn q17 ?_
        refine aops_nil ?_
        exact wq q17
      refine s_mv ?_
      refine aops_mid 7 (⟨112, [], [(111, vB (((x15.2.2 && (x15.1 == a0.Number)) && (x15.2.1.Base == a0.Base)) && (((x15.2.1.Entries.length : Nat) : Int) == a0.Count)))], []⟩ : ASt) ?_ ?_
      · rcases Md.bool_or (((x15.2.2 && (x15.1 == a0.Number)) && (x15.2.1.Base == a0.Base))) with q18 | q18
        · skip
          refine y_fd q18 ?_
          refine y_ld q18 ?_
          refine y_ln q18 ?_
          refine y_fd q18 ?_
          refine y_ld q18 ?_
          refine y_cm q18 ?_
          refine s_py q18 ?_
          refine aops_nil ?_
          exact wq q18
        iterate 6 refine np q18 ?_
        refine s_pn q18 ?_
        refine aops_nil ?_
        exact wq q18
      refine s_sa ?_
      refine aops_nil ?_
      cases Option.some.inj h
      exact aw_ret ⟨rfl, rv r1⟩
    replace h := Md.cond_f h q12
    obtain ⟨g19, h⟩ := Md.ifp_s h
    refine aops_step1 rfl (ev_index_arr (j := 1) rfl rfl g19 rfl rfl) (s_fd ?_)
    refine s_ld ?_
    obtain ⟨x20, hx20, h⟩ := Md.bind_s h
    refine aops_step1 rfl (ev_call_v (actorgridref26_Scan_fn k a0.Disks.x1.Data x20 hx20) rfl [] ai rfl rfl rfl (.inl rfl) rfl) (s_mt ?_)
    iterate 3 refine s_ex ?_
    iterate 3 refine s_sa ?_
    refine aops_nil (aw_seq (aw_seq (aw_region (s_mv ?_))))
    refine s_fd ?_
    refine s_ld ?_
    refine s_fd ?_
    obtain ⟨g21, h⟩ := Md.ifp_s h
    refine aops_step1 rfl (ev_index_arr (j := 1) rfl rfl g21 rfl rfl) (s_fd ?_)
    refine s_ld ?_
    refine s_ln ?_
    refine s_cm ?_
    refine aops_nil ?_
    refine aw_cond rfl (fun c22 => ?_) (fun c22 => ?_)
    · replace h := Md.cond_t h c22
      refine aw_seq (aw_region (s_sa ?_))
      refine aops_nil ?_
      cases Option.some.inj h
      exact aw_ret ⟨rfl, rv r1⟩
    replace h := Md.cond_f h c22
    refine aw_skip (aw_seq (aw_region (s_mv ?_)))
    obtain ⟨x23, hx23, h⟩ := Md.bind_s h
    refine aops_step1 rfl (ev_call_v (actorgridref26_contents_fn k x20.1 x23 hx23) rfl [] ai rfl rfl rfl (.inl rfl) rfl) (s_mt ?_)
    iterate 3 refine s_ex ?_
    refine aops_step1 rfl (st_alloc (cs := [cI 0, .val (.slice none 0 0), .val (.slice none 0 0)]) 1 rfl rfl rfl rfl rfl) (s_sa ?_)
    refine s_st [_, _, _] ?_
    refine s_sa ?_
    refine aops_nil (aw_seq (aw_region ?_))
    iterate 2 refine s_mv ?_
    refine aops_mid 5 (⟨112, [], [(1, .one (.ptr 0 0)), (7, .one (.ptr 1 0)), (96, vB (x23.2.2 && (x23.1 == a0.Number)))], [(0, some (.box (c_Store a0))), (1, some (.box (c_StoreContents x23.2.1)))]⟩ : ASt) ?_ ?_
    · rcases Md.bool_or (x23.2.2) with q24 | q24
      · skip
        refine y_mv q24 ?_
        refine y_fd q24 ?_
        refine y_ld q24 ?_
        refine y_cm q24 ?_
        refine s_py q24 ?_
        refine aops_nil ?_
        exact wq q24
      iterate 4 refine np q24 ?_
      refine s_pn q24 ?_
      refine aops_nil ?_
      exact wq q24
    refine s_mv ?_
    refine aops_mid 6 (⟨112, [], [(1, .one (.ptr 0 0)), (7, .one (.ptr 1 0)), (103, vB ((x23.2.2 && (x23.1 == a0.Number)) && (x23.2.1.Base == a0.Base)))], [(0, some (.box (c_Store a0))), (1, some (.box (c_StoreContents x23.2.1)))]⟩ : ASt) ?_ ?_
    · rcases Md.bool_or ((x23.2.2 && (x23.1 == a0.Number))) with q25 | q25
      · skip
        refine y_fd q25 ?_
        refine y_ld q25 ?_
        refine y_fd q25 ?_
        refine y_ld q25 ?_
        refine y_cm q25 ?_
        refine s_py q25 ?_
        refine aops_nil ?_
        exact wq q25
      iterate 5 refine np q25 ?_
      refine s_pn q25 ?_
      refine aops_nil ?_
      exact wq q25
    refine s_mv ?_
    refine aops_mid 7 (⟨112, [], [(111, vB (((x23.2.2 && (x23.1 == a0.Number)) && (x23.2.1.Base == a0.Base)) && (((x23.2.1.Entries.length : Nat) : Int) == a0.Count)))], []⟩ : ASt) ?_ ?_
    · rcases Md.bool_or (((x23.2.2 && (x23.1 == a0.Number)) && (x23.2.1.Base == a0.Base))) with q26 | q26
      · skip
        refine y_fd q26 ?_
        refine y_ld q26 ?_
        refine y_ln q26 ?_
        refine y_fd q26 ?_
        refine y_ld q26 ?_
        refine y_cm q26 ?_
        refine s_py q26 ?_
        refine aops_nil ?_
        exact wq q26
      iterate 6 refine np q26 ?_
      refine s_pn q26 ?_
      refine aops_nil ?_
      exact wq q26
    refine s_sa ?_
    refine aops_nil ?_
    cases Option.some.inj h
    exact aw_ret ⟨rfl, rv r1⟩
  rcases Md.bool_or ((!x1)) with q2 | q2
  · replace j2 := Md.cond_t j2 q2
    iterate 5 refine np q2 ?_
    refine s_py q2 ?_
    refine aops_nil ?_
    show ∃ _x : Bool, _ = _ ∧ Weak _ _
    exact ⟨true, Option.some.inj j2, wk⟩
  replace j2 := Md.cond_f j2 q2
  refine y_fd q2 ?_
  refine aops_yes rfl rfl rfl rfl q2 (ev_index_arr rfl rfl rfl rfl rfl) (aops_yes rfl rfl rfl rfl q2 (ev_loads (ds := [_, _, _, _, _, _]) rfl rfl rfl rfl rfl) ?_)
  obtain ⟨x27, hx27, j2⟩ := Md.bind_s j2
  refine aops_yes rfl rfl rfl rfl q2 (ev_call_v (actorgridref26_ValidDisk_fn k a0.Disks.x1 x27 hx27) rfl [] ai rfl rfl rfl (.inl rfl) rfl) (y_nt q2 ?_)
  refine s_pn q2 ?_
  refine aops_nil ?_
  show ∃ _x : Bool, _ = _ ∧ Weak _ _
  exact ⟨(!x27), Option.some.inj j2, wk⟩
set_option maxHeartbeats 2000000 in
theorem actorgridref26_CopyStore_fn (k : Nat) (a0 : Store) (r : Store) (h : actorgridref26_CopyStore k a0 = some r) : FnC Try.prog 70 [.agg (c_Store a0)] [] (Det (.agg (c_Store r)) []) := by
  unfold actorgridref26_CopyStore at h
  refine fn_intro' 16 Try.func70 rfl rfl rfl (aw_seq (aw_region (aops_step1 rfl (st_box 0 rfl rfl rfl rfl) ?_)))
  refine aops_step1 rfl (st_alloc (cs := [.val (.slice none 0 0), cI 0, cB false, cI 0, cI 0, cB false, .val (.slice none 0 0), cI 0, cB false, cI 0, cI 0, cB false, cI 0, cI 0, cI 0, cI 0]) 1 rfl rfl rfl rfl rfl) ?_
  refine aops_nil ?_
  obtain ⟨x1, hx1, h⟩ := Md.bind_s h
  obtain ⟨x2, hx2, h⟩ := Md.bind_s h
  refine aw_seq ?_
  apply aw_draw_stores 12 [(10, [9, 3, 7, 0, 1, 2, 4, 5, 6, 8], 0, ([.own 2, cI x1.Capacity, cB x1.Armed, cI x1.Writes, cI x1.Keep, cB x1.Down] ++ c_Disk a0.Disks.x1 ++ [cI a0.Current, cI a0.Number, cI a0.Base, cI a0.Count]))] ((⟨[], .one (.ptr 0 _)⟩ : Add) :: ⟨[], .one (.ptr 0 _)⟩ :: ⟨[], .agg (c_Disk a0.Disks.x0)⟩ :: ⟨[(2, some (.row 5 1 x1.Data.length (lsEl byC x1.Data)))], .agg [.own 2, cI x1.Capacity, cB x1.Armed, cI x1.Writes, cI x1.Keep, cB x1.Down]⟩ :: ⟨[], .one (.ptr 0 _)⟩ :: ⟨[], .one (.ptr 0 _)⟩ :: ⟨[], .agg (c_Disk a0.Disks.x1)⟩ :: ⟨[(3, some (.row 5 1 x2.Data.length (lsEl byC x2.Data)))], .agg [.own 3, cI x2.Capacity, cB x2.Armed, cI x2.Writes, cI x2.Keep, cB x2.Down]⟩ :: ⟨[], .one (.ptr 0 _)⟩ :: ⟨[], .one (.ptr 0 _)⟩ :: ⟨[], .one .any⟩ :: ⟨[], .one (.ptr 0 _)⟩ :: []) (by decide) rfl ?hk1x ?hf1x ?ho1x ?hv1x ?hr1x
  case ho1x =>
   refine ⟨.inr ⟨[], [], (by decide +kernel), (by decide +kernel), ⟨?_, .inl rfl⟩⟩, ?_⟩
   · refine .inr (.inr fun S hle hfr => ?_)
     exact .inl ⟨w0, ev_field (hle.e rfl) rfl (hle.d rfl)⟩
   refine ⟨.inr ⟨0 :: [], [], (by decide +kernel), (by decide +kernel), ⟨?_, .inl rfl⟩⟩, ?_⟩
   · refine .inr (.inr fun S hle hfr => ?_)
     exact .inl ⟨w0, ev_index_arr (hle.e rfl) (hle.e rfl) rfl rfl (hle.d rfl)⟩
   refine ⟨.inr ⟨1 :: 0 :: [], [], (by decide +kernel), (by decide +kernel), ⟨?_, .inl rfl⟩⟩, ?_⟩
   · refine .inr (.inr fun S hle hfr => ?_)
     exact .inl ⟨w0, ev_loads (ds := [_, _, _, _, _, _]) (hle.e rfl) (hle.heap _ _ rfl) rfl rfl (hle.d rfl)⟩
   refine ⟨.inr ⟨2 :: 1 :: 0 :: [], [], (by decide +kernel), (by decide +kernel), ⟨?_, .inl rfl⟩⟩, ?_⟩
   · refine .inr (.inr fun S hle hfr => ?_)
     exact .inl ⟨w0, st_call_r (r' := .agg [.own 2, cI x1.Capacity, cB x1.Armed, cI x1.Writes, cI x1.Keep, cB x1.Down]) 2 (hfr _ (List.mem_singleton.2 rfl)) (actorgridref26_copyDisk_fn k a0.Disks.x0 x1 hx1) (map_ev (.cons (hle.e rfl) (.nil))) [] (by repeat' (first | exact .nil | refine .cons ?_ ?_ | refine .one ?_ | refine .agg ?_ | exact .mk rfl | exact .lend (hle.heap _ _ rfl) (by simp) | exact .le (.nil _) rfl | exact .le (.emp _) rfl | exact .le (.any _) rfl | fail)) rfl rfl rfl (.inl rfl) (hle.d rfl) rfl⟩
   refine ⟨.inr ⟨[], [], (by decide +kernel), (by decide +kernel), ⟨?_, .inl rfl⟩⟩, ?_⟩
   · refine .inr (.inr fun S hle hfr => ?_)
     exact .inl ⟨w0, ev_field (hle.e rfl) rfl (hle.d rfl)⟩
   refine ⟨.inr ⟨4 :: [], [], (by decide +kernel), (by decide +kernel), ⟨?_, .inl rfl⟩⟩, ?_⟩
   · refine .inr (.inr fun S hle hfr => ?_)
     exact .inl ⟨w0, ev_index_arr (hle.e rfl) (hle.e rfl) rfl rfl (hle.d rfl)⟩
   refine ⟨.inr ⟨5 :: 4 :: [], [], (by decide +kernel), (by decide +kernel), ⟨?_, .inl rfl⟩⟩, ?_⟩
   · refine .inr (.inr fun S hle hfr => ?_)
     exact .inl ⟨w0, ev_loads (ds := [_, _, _, _, _, _]) (hle.e rfl) (hle.heap _ _ rfl) rfl rfl (hle.d rfl)⟩
   refine ⟨.inr ⟨6 :: 3 :: 5 :: 2 :: 4 :: 1 :: 0 :: [], [], (by decide +kernel), (by decide +kernel), ⟨?_, .inl rfl⟩⟩, ?_⟩
   · refine .inr (.inr fun S hle hfr => ?_)
     exact .inl ⟨w0, st_call_r (r' := .agg [.own 3, cI x2.Capacity, cB x2.Armed, cI x2.Writes, cI x2.Keep, cB x2.Down]) 3 (hfr _ (List.mem_singleton.2 rfl)) (actorgridref26_copyDisk_fn k a0.Disks.x1 x2 hx2) (map_ev (.cons (hle.e rfl) (.nil))) [] (by repeat' (first | exact .nil | refine .cons ?_ ?_ | refine .one ?_ | refine .agg ?_ | exact .mk rfl | exact .lend (hle.heap _ _ rfl) (by simp) | exact .le (.nil _) rfl | exact .le (.emp _) rfl | exact .le (.any _) rfl | fail)) rfl rfl rfl (.inl rfl) (hle.d rfl) rfl⟩
   refine ⟨.inr ⟨[], [], (by decide +kernel), (by decide +kernel), ⟨?_, .inl rfl⟩⟩, ?_⟩
   · refine .inr (.inr fun S hle hfr => ?_)
     exact .inl ⟨w0, ev_field (hle.e rfl) rfl (hle.d rfl)⟩
   refine ⟨.inr ⟨8 :: 0 :: 1 :: 2 :: 3 :: 4 :: 5 :: 6 :: [], [], (by decide +kernel), (by decide +kernel), ⟨?_, .inl rfl⟩⟩, ?_⟩
   · refine .inr (.inr fun S hle hfr => ?_)
     exact .inl ⟨w0, ev_index_arr (hle.e rfl) (hle.e rfl) rfl rfl (hle.d rfl)⟩
   refine ⟨.inl rfl, ?_⟩
   refine ⟨.inr ⟨[], [], (by decide +kernel), (by decide +kernel), ⟨?_, ?_⟩⟩, ?_⟩
   · refine .inr (.inr fun S hle hfr => ?_)
     exact .inl ⟨w0, ev_field (hle.e rfl) rfl (hle.d rfl)⟩
   · refine .inr fun S hle hfr => ?_
     exact .inl ⟨w0, ev_field (hle.e rfl) rfl (hle.d rfl)⟩
   exact trivial
  case hv1x =>
   refine ⟨⟨rfl, rfl, (by decide +kernel), rfl, rfl, _, _, rfl, rfl, rfl, fun S hle => st_store (cs' := [_, _, _, _, _, _, _, _, _, _, _, _, _, _, _, _]) (hle.e rfl) (hle.heap _ _ rfl) (hle.e rfl) rfl rfl rfl rfl (hle.d rfl) rfl⟩, ?_⟩
   exact trivial
  case hk1x => rfl
  case hf1x => rfl
  refine aops_step1 rfl (ev_index_arr rfl rfl rfl rfl rfl) (s_st [_, _, _, _, _, _, _, _, _, _, _, _, _, _, _, _] ?_)
  refine aops_nil (aw_seq (aw_region (s_ls [_, _, _, _, _, _, _, _, _, _, _, _, _, _, _, _] ?_)))
  refine s_st [_, _, _, _, _, _, _, _, _, _, _, _, _, _, _, _] ?_
  refine aops_nil ?_
  cases Option.some.inj h
  refine aw_freeze 2 rfl (aw_freeze 3 rfl ?_)
  exact aw_ret ⟨rfl, rv (rg [_, _, _, _, _, _, _, _, _, _, _, _, _, _, _, _])⟩
set_option maxHeartbeats 2000000 in
theorem actorgridref26_Put_fn (k : Nat) (a0 : Store) (a1 : List UInt8) (r : Store × Int) (h : actorgridref26_Put k a0 a1 = some r) : FnC Try.prog 46 [.agg (c_Store a0), .one (CV.ls byC a1)] [] (Det (.tup [.agg (c_Store r.1), vI r.2]) []) := by
  unfold actorgridref26_Put at h
  refine fn_intro' 52 Try.func46 rfl rfl rfl (aw_seq (aw_region (aops_step1 rfl (st_box 0 rfl rfl rfl rfl) ?_)))
  refine aops_step1 rfl (st_alloc (cs := [.val (.slice none 0 0), cI 0, cB false, cI 0, cI 0, cB false, .val (.slice none 0 0), cI 0, cB false, cI 0, cI 0, cB false, cI 0, cI 0, cI 0, cI 0]) 1 rfl rfl rfl rfl rfl) (s_sa ?_)
  refine aops_nil (aw_seq (aw_seq (aw_region (s_ls [_, _, _, _, _, _, _, _, _, _, _, _, _, _, _, _] ?_))))
  obtain ⟨x1, hx1, h⟩ := Md.bind_s h
  refine aops_step1 rfl (ev_call_v (actorgridref26_ValidStore_fn k a0 x1 hx1) rfl [] ai rfl rfl rfl (.inl rfl) rfl) (s_nt ?_)
  refine s_mv ?_
  refine aops_mid 4 (⟨52, [], [(1, .one (CV.ls byC a1)), (2, .one (.ptr 0 0)), (4, .one (.ptr 1 0)), (15, vB ((!x1) || (decide (((a1.length : Nat) : Int) > 6064))))], [(0, some (.box (c_Store a0))), (1, some (.box [.val (.slice none 0 0), cI 0, cB false, cI 0, cI 0, cB false, .val (.slice none 0 0), cI 0, cB false, cI 0, cI 0, cB false, cI 0, cI 0, cI 0, cI 0]))]⟩ : ASt) ?_ ?_
  · rcases Md.bool_or ((!x1)) with q2 | q2
    · skip
      iterate 3 refine np q2 ?_
      refine s_py q2 ?_
      refine aops_nil ?_
      exact wq q2
    refine y_mv q2 ?_
    refine y_ln q2 ?_
    refine y_cm q2 ?_
    refine s_pn q2 ?_
    refine aops_nil ?_
    exact wq q2
  refine s_mv ?_
  refine aops_mid 7 (⟨52, [], [(1, .one (CV.ls byC a1)), (2, .one (.ptr 0 0)), (4, .one (.ptr 1 0)), (23, vB (((!x1) || (decide (((a1.length : Nat) : Int) > 6064))) || ((Md.W (a0.Base + a0.Count)) == 1099511627776)))], [(0, some (.box (c_Store a0))), (1, some (.box [.val (.slice none 0 0), cI 0, cB false, cI 0, cI 0, cB false, .val (.slice none 0 0), cI 0, cB false, cI 0, cI 0, cB false, cI 0, cI 0, cI 0, cI 0]))]⟩ : ASt) ?_ ?_
  · rcases Md.bool_or (((!x1) || (decide (((a1.length : Nat) : Int) > 6064)))) with q3 | q3
    · skip
      iterate 6 refine np q3 ?_
      refine s_py q3 ?_
      refine aops_nil ?_
      exact wq q3
    refine y_fd q3 ?_
    refine y_ld q3 ?_
    refine y_fd q3 ?_
    refine y_ld q3 ?_
    refine aops_yes rfl rfl rfl rfl q3 (ev_add rfl rfl rfl (Md.wrap_W _)) (y_cm q3 ?_)
    refine s_pn q3 ?_
    refine aops_nil ?_
    exact wq q3
  refine aops_nil ?_
  refine aw_cond rfl (fun c4 => ?_) (fun c4 => ?_)
  · replace h := Md.cond_t h c4
    refine aw_seq (aw_region (aops_step1 rfl (ev_build' (out := [_, _, _, _, _, _, _, _, _, _, _, _, _, _, _, _]) rfl rfl rfl rfl rfl) (s_st [_, _, _, _, _, _, _, _, _, _, _, _, _, _, _, _] ?_)))
    refine s_sa ?_
    refine aops_nil ?_
    cases Option.some.inj h
    exact aw_ret ⟨rfl, rv (rn (.cons (va [_, _, _, _, _, _, _, _, _, _, _, _, _, _, _, _]) (.cons o1 .nil)))⟩
  replace h := Md.cond_f h c4
  refine aw_skip (aw_seq (aw_region (s_ls [_, _, _, _, _, _, _, _, _, _, _, _, _, _, _, _] ?_)))
  obtain ⟨x5, hx5, h⟩ := Md.bind_s h
  refine aops_step1 rfl (ev_call_v (actorgridref26_CopyStore_fn k a0 x5 hx5) rfl [] ai rfl rfl rfl (.inl rfl) rfl) (s_st [_, _, _, _, _, _, _, _, _, _, _, _, _, _, _, _] ?_)
  refine aops_nil (aw_seq (aw_region (s_fd ?_)))
  refine s_ld ?_
  refine s_fd ?_
  rcases Md.bool_or ((decide (x5.Current = 0))) with q6 | q6
  · replace h := Md.cond_t h q6
    refine aops_step1 rfl (ev_index_arr (j := 0) rfl rfl (of_decide_eq_true q6) rfl rfl) (s_ls [_, _, _, _, _, _] ?_)
    refine s_mv ?_
    refine aops_step1 rfl (ev_build' (out := [_, _]) rfl rfl rfl rfl rfl) ?_
    obtain ⟨x7, hx7, h⟩ := Md.bind_s h
    refine aops_step1 rfl (ev_call_v (actorgridref26_AppendRecord_fn k x5.Disks.x0 (⟨2, a1⟩ : JournalRecord) x7 hx7) rfl [] ai rfl rfl rfl (.inl rfl) rfl) (s_mt ?_)
    iterate 2 refine s_ex ?_
    refine aops_step1 rfl (st_alloc (cs := [.val (.slice none 0 0), cI 0, cB false, cI 0, cI 0, cB false]) 2 rfl rfl rfl rfl rfl) (s_st [_, _, _, _, _, _] ?_)
    refine s_sa ?_
    refine aops_nil (aw_seq (aw_region (s_fd ?_)))
    refine s_ld ?_
    refine s_ls [_, _, _, _, _, _] ?_
    refine s_fd ?_
    refine aops_step1 rfl (ev_index_arr (j := 0) rfl rfl (of_decide_eq_true q6) rfl rfl) (s_st [_, _, _, _, _, _, _, _, _, _, _, _, _, _, _, _] ?_)
    refine aops_nil (aw_seq (aw_seq (aw_region (s_mv ?_))))
    refine s_cm ?_
    refine aops_nil ?_
    refine aw_cond rfl (fun c8 => ?_) (fun c8 => ?_)
    · replace h := Md.cond_t h c8
      refine aw_seq (aw_region (s_ls [_, _, _, _, _, _, _, _, _, _, _, _, _, _, _, _] ?_))
      refine s_mv ?_
      refine s_st [_, _, _, _, _, _, _, _, _, _, _, _, _, _, _, _] ?_
      refine s_sa ?_
      refine aops_nil ?_
      cases Option.some.inj h
      exact aw_ret ⟨rfl, rv (rn (.cons (va [_, _, _, _, _, _, _, _, _, _, _, _, _, _, _, _]) (.cons o1 .nil)))⟩
    replace h := Md.cond_f h c8
    refine aw_skip (aw_seq (aw_region (s_fd ?_)))
    refine s_ld ?_
    refine aops_step1 rfl (ev_add rfl rfl rfl (Md.wrap_W _)) (s_fd ?_)
    refine s_st [_, _, _, _, _, _, _, _, _, _, _, _, _, _, _, _] ?_
    refine aops_nil (aw_seq (aw_region (s_ls [_, _, _, _, _, _, _, _, _, _, _, _, _, _, _, _] ?_)))
    refine s_st [_, _, _, _, _, _, _, _, _, _, _, _, _, _, _, _] ?_
    refine s_sa ?_
    refine aops_nil ?_
    cases Option.some.inj h
    exact aw_ret ⟨rfl, rv (rn (.cons (va [_, _, _, _, _, _, _, _, _, _, _, _, _, _, _, _]) (.cons o1 .nil)))⟩
  replace h := Md.cond_f h q6
  obtain ⟨g9, h⟩ := Md.ifp_s h
  refine aops_step1 rfl (ev_index_arr (j := 1) rfl rfl g9 rfl rfl) (s_ls [_, _, _, _, _, _] ?_)
  refine s_mv ?_
  refine aops_step1 rfl (ev_build' (out := [_, _]) rfl rfl rfl rfl rfl) ?_
  obtain ⟨x10, hx10, h⟩ := Md.bind_s h
  refine aops_step1 rfl (ev_call_v (actorgridref26_AppendRecord_fn k x5.Disks.x1 (⟨2, a1⟩ : JournalRecord) x10 hx10) rfl [] ai rfl rfl rfl (.inl rfl) rfl) (s_mt ?_)
  iterate 2 refine s_ex ?_
  refine aops_step1 rfl (st_alloc (cs := [.val (.slice none 0 0), cI 0, cB false, cI 0, cI 0, cB false]) 2 rfl rfl rfl rfl rfl) (s_st [_, _, _, _, _, _] ?_)
  refine s_sa ?_
  refine aops_nil (aw_seq (aw_region (s_fd ?_)))
  refine s_ld ?_
  refine s_ls [_, _, _, _, _, _] ?_
  refine s_fd ?_
  obtain ⟨g11, h⟩ := Md.ifp_s h
  refine aops_step1 rfl (ev_index_arr (j := 1) rfl rfl g11 rfl rfl) (s_st [_, _, _, _, _, _, _, _, _, _, _, _, _, _, _, _] ?_)
  refine aops_nil (aw_seq (aw_seq (aw_region (s_mv ?_))))
  refine s_cm ?_
  refine aops_nil ?_
  refine aw_cond rfl (fun c12 => ?_) (fun c12 => ?_)
  · replace h := Md.cond_t h c12
    refine aw_seq (aw_region (s_ls [_, _, _, _, _, _, _, _, _, _, _, _, _, _, _, _] ?_))
    refine s_mv ?_
    refine s_st [_, _, _, _, _, _, _, _, _, _, _, _, _, _, _, _] ?_
    refine s_sa ?_
    refine aops_nil ?_
    cases Option.some.inj h
    exact aw_ret ⟨rfl, rv (rn (.cons (va [_, _, _, _, _, _, _, _, _, _, _, _, _, _, _, _]) (.cons o1 .nil)))⟩
  replace h := Md.cond_f h c12
  refine aw_skip (aw_seq (aw_region (s_fd ?_)))
  refine s_ld ?_
  refine aops_step1 rfl (ev_add rfl rfl rfl (Md.wrap_W _)) (s_fd ?_)
  refine s_st [_, _, _, _, _, _, _, _, _, _, _, _, _, _, _, _] ?_
  refine aops_nil (aw_seq (aw_region (s_ls [_, _, _, _, _, _, _, _, _, _, _, _, _, _, _, _] ?_)))
  refine s_st [_, _, _, _, _, _, _, _, _, _, _, _, _, _, _, _] ?_
  refine s_sa ?_
  refine aops_nil ?_
  cases Option.some.inj h
  exact aw_ret ⟨rfl, rv (rn (.cons (va [_, _, _, _, _, _, _, _, _, _, _, _, _, _, _, _]) (.cons o1 .nil)))⟩
set_option maxHeartbeats 2000000 in
theorem actorgridref26_HeaderBody_fn (k : Nat) (a0 : Int) (a1 : Int) (a2 : List UInt8) (r : (List UInt8)) (h : actorgridref26_HeaderBody k a0 a1 a2 = some r) : FnC Try.prog 72 [vI a0, vI a1, .one (CV.ls byC a2)] [] (Det (.one (.own 0)) [(0, some (.row 5 1 r.length (lsEl byC r)))]) := by
  unfold actorgridref26_HeaderBody at h
  refine fn_intro' 25 Try.func72 rfl rfl rfl (aw_seq (aw_region (s_sa ?_)))
  refine aops_nil (aw_seq (aw_region (s_mv ?_)))
  refine aops_step1 rfl (st_conv_int rfl rfl Try.underlying3 Try.underlying109 (Md.ofInt_u64 a0)) ?_
  obtain ⟨x1, hx1, h⟩ := Md.bind_s h
  refine aops_step1 rfl (st_call_r (r' := .one (.own 0)) 0 rfl (actorgridref1_Uint_fn k (UInt64.ofInt a0) x1 hx1) rfl [] ai rfl rfl rfl (.inl rfl) rfl rfl) (s_sa ?_)
  refine aops_nil (aw_seq (aw_region ?_))
  iterate 2 refine s_mv ?_
  refine aops_step1 rfl (st_conv_int rfl rfl Try.underlying3 Try.underlying109 (Md.ofInt_u64 a1)) ?_
  obtain ⟨x2, hx2, h⟩ := Md.bind_s h
  refine aops_step1 rfl (st_call_r (r' := .one (.own 1)) 1 rfl (actorgridref1_Uint_fn k (UInt64.ofInt a1) x2 hx2) rfl [] ai rfl rfl rfl (.inl rfl) rfl rfl) ?_
  obtain ⟨g3, h⟩ := Md.ifp_s h
  refine aops_step1 rfl (st_app_ls (f := byC) x1 x2 (fun _ => rfl) rfl rfl (.inr ⟨_, _, rfl, rfl⟩) (by omega) (by omega) rfl) (s_sa ?_)
  refine aops_nil (aw_seq (aw_region ?_))
  iterate 2 refine s_mv ?_
  refine s_ln ?_
  refine aops_step1 rfl (st_conv_int rfl rfl Try.underlying3 Try.underlying109 (Md.ofNat_u64 a2.length)) ?_
  obtain ⟨x4, hx4, h⟩ := Md.bind_s h
  refine aops_step1 rfl (st_call_r (r' := .one (.own 2)) 2 rfl (actorgridref1_Uint_fn k (UInt64.ofNat a2.length) x4 hx4) rfl [] ai rfl rfl rfl (.inl rfl) rfl rfl) ?_
  obtain ⟨g5, h⟩ := Md.ifp_s h
  refine aops_step1 rfl (st_app_ls (f := byC) (x1 ++ x2) x4 (fun _ => rfl) rfl rfl (.inr ⟨_, _, rfl, rfl⟩) (by omega) (by omega) rfl) (s_sa ?_)
  refine aops_nil (aw_seq (aw_region ?_))
  iterate 2 refine s_mv ?_
  obtain ⟨g6, h⟩ := Md.ifp_s h
  refine aops_step1 rfl (st_app_ls (f := byC) ((x1 ++ x2) ++ x4) a2 (fun _ => rfl) rfl rfl (.inl rfl) (by omega) (by omega) rfl) (s_sa ?_)
  refine aops_nil ?_
  cases Option.some.inj h
  refine aw_ret ⟨rfl, ret_r 0 r1 rfl rfl rfl ?_ ?_ ?_⟩
  · first | exact TLe.refl _ | (repeat' (first | exact .refl _ | exact .nil | refine .tup ?_ | refine .v ?_ | refine .cons ?_ ?_ | refine .agg ?_ | refine .one ?_ | exact .nil _ | exact .emp _ | refine .val ?_ | refine .slc ?_ ?_ | fail))
  · rfl
  · rfl
set_option maxHeartbeats 2000000 in
theorem actorgridref26_Checkpoint_fn (k : Nat) (a0 : Store) (a1 : List UInt8) (r : Store × Int) (h : actorgridref26_Checkpoint k a0 a1 = some r) : FnC Try.prog 48 [.agg (c_Store a0), .one (CV.ls byC a1)] [] (Det (.tup [.agg (c_Store r.1), vI r.2]) []) := by
  unfold actorgridref26_Checkpoint at h
  refine fn_intro' 81 Try.func48 rfl rfl rfl (aw_seq (aw_region (aops_step1 rfl (st_box 0 rfl rfl rfl rfl) ?_)))
  refine aops_step1 rfl (st_alloc (cs := [.val (.slice none 0 0), cI 0, cB false, cI 0, cI 0, cB false, .val (.slice none 0 0), cI 0, cB false, cI 0, cI 0, cB false, cI 0, cI 0, cI 0, cI 0]) 1 rfl rfl rfl rfl rfl) (s_sa ?_)
  refine aops_nil (aw_seq (aw_seq (aw_region (s_ls [_, _, _, _, _, _, _, _, _, _, _, _, _, _, _, _] ?_))))
  obtain ⟨x1, hx1, h⟩ := Md.bind_s h
  refine aops_step1 rfl (ev_call_v (actorgridref26_ValidStore_fn k a0 x1 hx1) rfl [] ai rfl rfl rfl (.inl rfl) rfl) (s_nt ?_)
  refine s_mv ?_
  refine aops_mid 4 (⟨81, [], [(1, .one (CV.ls byC a1)), (2, .one (.ptr 0 0)), (4, .one (.ptr 1 0)), (17, vB ((!x1) || (a0.Number == 1099511627776)))], [(0, some (.box (c_Store a0))), (1, some (.box [.val (.slice none 0 0), cI 0, cB false, cI 0, cI 0, cB false, .val (.slice none 0 0), cI 0, cB false, cI 0, cI 0, cB false, cI 0, cI 0, cI 0, cI 0]))]⟩ : ASt) ?_ ?_
  · rcases Md.bool_or ((!x1)) with q2 | q2
    · skip
      iterate 3 refine np q2 ?_
      refine s_py q2 ?_
      refine aops_nil ?_
      exact wq q2
    refine y_fd q2 ?_
    refine y_ld q2 ?_
    refine y_cm q2 ?_
    refine s_pn q2 ?_
    refine aops_nil ?_
    exact wq q2
  refine aops_nil ?_
  refine aw_cond rfl (fun c3 => ?_) (fun c3 => ?_)
  · replace h := Md.cond_t h c3
    refine aw_seq (aw_region (aops_step1 rfl (ev_build' (out := [_, _, _, _, _, _, _, _, _, _, _, _, _, _, _, _]) rfl rfl rfl rfl rfl) (s_st [_, _, _, _, _, _, _, _, _, _, _, _, _, _, _, _] ?_)))
    refine s_sa ?_
    refine aops_nil ?_
    cases Option.some.inj h
    exact aw_ret ⟨rfl, rv (rn (.cons (va [_, _, _, _, _, _, _, _, _, _, _, _, _, _, _, _]) (.cons o1 .nil)))⟩
  replace h := Md.cond_f h c3
  refine aw_skip (aw_seq (aw_region (s_fd ?_)))
  refine s_ld ?_
  refine aops_step1 rfl (ev_add rfl rfl rfl (Md.wrap_W _)) (s_fd ?_)
  refine s_ld ?_
  refine s_fd ?_
  refine s_ld ?_
  refine aops_step1 rfl (ev_add rfl rfl rfl (Md.wrap_W _)) (s_mv ?_)
  obtain ⟨x4, hx4, h⟩ := Md.bind_s h
  refine aops_step1 rfl (st_call_r (r' := .one (.own 2)) 2 rfl (actorgridref26_HeaderBody_fn k (Md.W (a0.Number + 1)) (Md.W (a0.Base + a0.Count)) a1 x4 hx4) rfl [] ai rfl rfl rfl (.inl rfl) rfl rfl) (s_sa ?_)
  refine aops_nil (aw_seq (aw_seq (aw_region (s_mv ?_))))
  refine aops_step1 rfl (ev_len_own rfl rfl rfl) (s_cm ?_)
  refine aops_nil ?_
  refine aw_cond rfl (fun c5 => ?_) (fun c5 => ?_)
  · replace h := Md.cond_t h c5
    refine aw_seq (aw_region (aops_step1 rfl (ev_build' (out := [_, _, _, _, _, _, _, _, _, _, _, _, _, _, _, _]) rfl rfl rfl rfl rfl) (s_st [_, _, _, _, _, _, _, _, _, _, _, _, _, _, _, _] ?_)))
    refine s_sa ?_
    refine aops_nil ?_
    cases Option.some.inj h
    exact aw_ret ⟨rfl, rv (rn (.cons (va [_, _, _, _, _, _, _, _, _, _, _, _, _, _, _, _]) (.cons o1 .nil)))⟩
  replace h := Md.cond_f h c5
  refine aw_skip (aw_seq (aw_region (s_ls [_, _, _, _, _, _, _, _, _, _, _, _, _, _, _, _] ?_)))
  obtain ⟨x6, hx6, h⟩ := Md.bind_s h
  refine aops_step1 rfl (ev_call_v (actorgridref26_CopyStore_fn k a0 x6 hx6) rfl [] ai rfl rfl rfl (.inl rfl) rfl) (s_st [_, _, _, _, _, _, _, _, _, _, _, _, _, _, _, _] ?_)
  refine aops_nil (aw_seq (aw_region (s_fd ?_)))
  refine s_ld ?_
  refine aops_step1 rfl (ev_sub rfl rfl rfl (Md.wrap_W _)) (s_sa ?_)
  refine aops_nil (aw_seq (aw_region (s_mv ?_)))
  refine s_fd ?_
  rcases Md.bool_or ((decide ((Md.W (1 - x6.Current)) = 0))) with q7 | q7
  · replace h := Md.cond_t h q7
    refine aops_step1 rfl (ev_index_arr (j := 0) rfl rfl (of_decide_eq_true q7) rfl rfl) (s_ls [_, _, _, _, _, _] ?_)
    obtain ⟨x8, hx8, h⟩ := Md.bind_s h
    refine aops_step1 rfl (ev_call_v (actorgridref26_Truncate_fn k x6.Disks.x0 0 x8 hx8) rfl [] ai rfl rfl rfl (.inl rfl) rfl) (s_mt ?_)
    iterate 2 refine s_ex ?_
    refine aops_step1 rfl (st_alloc (cs := [.val (.slice none 0 0), cI 0, cB false, cI 0, cI 0, cB false]) 3 rfl rfl rfl rfl rfl) (s_st [_, _, _, _, _, _] ?_)
    refine s_sa ?_
    refine aops_nil (aw_seq (aw_region (s_mv ?_)))
    refine s_ls [_, _, _, _, _, _] ?_
    refine s_fd ?_
    refine aops_step1 rfl (ev_index_arr (j := 0) rfl rfl (of_decide_eq_true q7) rfl rfl) (s_st [_, _, _, _, _, _, _, _, _, _, _, _, _, _, _, _] ?_)
    refine aops_nil (aw_seq (aw_seq (aw_region (s_mv ?_))))
    refine s_cm ?_
    refine aops_nil ?_
    refine aw_cond rfl (fun c9 => ?_) (fun c9 => ?_)
    · replace h := Md.cond_t h c9
      refine aw_seq (aw_region (s_ls [_, _, _, _, _, _, _, _, _, _, _, _, _, _, _, _] ?_))
      refine s_mv ?_
      refine s_st [_, _, _, _, _, _, _, _, _, _, _, _, _, _, _, _] ?_
      refine s_sa ?_
      refine aops_nil ?_
      cases Option.some.inj h
      exact aw_ret ⟨rfl, rv (rn (.cons (va [_, _, _, _, _, _, _, _, _, _, _, _, _, _, _, _]) (.cons o1 .nil)))⟩
    replace h := Md.cond_f h c9
    refine aw_skip (aw_seq (aw_region (s_ls [_, _, _, _, _, _] ?_)))
    refine s_mv ?_
    refine aops_step1 rfl (ev_build' (out := [_, _]) rfl rfl rfl rfl rfl) ?_
    obtain ⟨x10, hx10, h⟩ := Md.bind_s h
    refine aops_freeze 2 rfl ?_
    refine aops_step1 rfl (ev_call_v (actorgridref26_AppendRecord_fn k x8.1 (⟨1, x4⟩ : JournalRecord) x10 hx10) rfl [] ai rfl rfl rfl (.inl rfl) rfl) (s_mt ?_)
    iterate 2 refine s_ex ?_
    refine s_st [_, _, _, _, _, _] ?_
    refine s_sa ?_
    refine aops_nil (aw_seq (aw_region (s_mv ?_)))
    refine s_ls [_, _, _, _, _, _] ?_
    refine s_fd ?_
    refine aops_step1 rfl (ev_index_arr (j := 0) rfl rfl (of_decide_eq_true q7) rfl rfl) (s_st [_, _, _, _, _, _, _, _, _, _, _, _, _, _, _, _] ?_)
    refine aops_nil (aw_seq (aw_seq (aw_region (s_mv ?_))))
    refine s_cm ?_
    refine aops_nil ?_
    refine aw_cond rfl (fun c11 => ?_) (fun c11 => ?_)
    · replace h := Md.cond_t h c11
      refine aw_seq (aw_region (s_ls [_, _, _, _, _, _, _, _, _, _, _, _, _, _, _, _] ?_))
      refine s_mv ?_
      refine s_st [_, _, _, _, _, _, _, _, _, _, _, _, _, _, _, _] ?_
      refine s_sa ?_
      refine aops_nil ?_
      cases Option.some.inj h
      exact aw_ret ⟨rfl, rv (rn (.cons (va [_, _, _, _, _, _, _, _, _, _, _, _, _, _, _, _]) (.cons o1 .nil)))⟩
    replace h := Md.cond_f h c11
    refine aw_skip (aw_seq (aw_region (s_fd ?_)))
    refine s_ls [_, _, _, _, _, _, _, _, _, _, _, _] ?_
    refine s_mv ?_
    refine s_fd ?_
    refine s_ld ?_
    refine aops_step1 rfl (ev_add rfl rfl rfl (Md.wrap_W _)) (s_fd ?_)
    refine s_ld ?_
    refine s_fd ?_
    refine s_ld ?_
    refine aops_step1 rfl (ev_add rfl rfl rfl (Md.wrap_W _)) ?_
    refine aops_step1 rfl (ev_build' (out := [_, _, _, _, _, _, _, _, _, _, _, _, _, _, _, _]) rfl rfl rfl rfl rfl) (s_st [_, _, _, _, _, _, _, _, _, _, _, _, _, _, _, _] ?_)
    refine s_sa ?_
    refine aops_nil ?_
    cases Option.some.inj h
    exact aw_ret ⟨rfl, rv (rn (.cons (va [_, _, _, _, _, _, _, _, _, _, _, _, _, _, _, _]) (.cons o1 .nil)))⟩
  replace h := Md.cond_f h q7
  obtain ⟨g12, h⟩ := Md.ifp_s h
  refine aops_step1 rfl (ev_index_arr (j := 1) rfl rfl g12 rfl rfl) (s_ls [_, _, _, _, _, _] ?_)
  obtain ⟨x13, hx13, h⟩ := Md.bind_s h
  refine aops_step1 rfl (ev_call_v (actorgridref26_Truncate_fn k x6.Disks.x1 0 x13 hx13) rfl [] ai rfl rfl rfl (.inl rfl) rfl) (s_mt ?_)
  iterate 2 refine s_ex ?_
  refine aops_step1 rfl (st_alloc (cs := [.val (.slice none 0 0), cI 0, cB false, cI 0, cI 0, cB false]) 3 rfl rfl rfl rfl rfl) (s_st [_, _, _, _, _, _] ?_)
  refine s_sa ?_
  refine aops_nil (aw_seq (aw_region (s_mv ?_)))
  refine s_ls [_, _, _, _, _, _] ?_
  refine s_fd ?_
  obtain ⟨g14, h⟩ := Md.ifp_s h
  refine aops_step1 rfl (ev_index_arr (j := 1) rfl rfl g14 rfl rfl) (s_st [_, _, _, _, _, _, _, _, _, _, _, _, _, _, _, _] ?_)
  refine aops_nil (aw_seq (aw_seq (aw_region (s_mv ?_))))
  refine s_cm ?_
  refine aops_nil ?_
  refine aw_cond rfl (fun c15 => ?_) (fun c15 => ?_)
  · replace h := Md.cond_t h c15
    refine aw_seq (aw_region (s_ls [_, _, _, _, _, _, _, _, _, _, _, _, _, _, _, _] ?_))
    refine s_mv ?_
    refine s_st [_, _, _, _, _, _, _, _, _, _, _, _, _, _, _, _] ?_
    refine s_sa ?_
    refine aops_nil ?_
    cases Option.some.inj h
    exact aw_ret ⟨rfl, rv (rn (.cons (va [_, _, _, _, _, _, _, _, _, _, _, _, _, _, _, _]) (.cons o1 .nil)))⟩
  replace h := Md.cond_f h c15
  refine aw_skip (aw_seq (aw_region (s_ls [_, _, _, _, _, _] ?_)))
  refine s_mv ?_
  refine aops_step1 rfl (ev_build' (out := [_, _]) rfl rfl rfl rfl rfl) ?_
  obtain ⟨x16, hx16, h⟩ := Md.bind_s h
  refine aops_freeze 2 rfl ?_
  refine aops_step1 rfl (ev_call_v (actorgridref26_AppendRecord_fn k x13.1 (⟨1, x4⟩ : JournalRecord) x16 hx16) rfl [] ai rfl rfl rfl (.inl rfl) rfl) (s_mt ?_)
  iterate 2 refine s_ex ?_
  refine s_st [_, _, _, _, _, _] ?_
  refine s_sa ?_
  refine aops_nil (aw_seq (aw_region (s_mv ?_)))
  refine s_ls [_, _, _, _, _, _] ?_
  refine s_fd ?_
  obtain ⟨g17, h⟩ := Md.ifp_s h
  refine aops_step1 rfl (ev_index_arr (j := 1) rfl rfl g17 rfl rfl) (s_st [_, _, _, _, _, _, _, _, _, _, _, _, _, _, _, _] ?_)
  refine aops_nil (aw_seq (aw_seq (aw_region (s_mv ?_))))
  refine s_cm ?_
  refine aops_nil ?_
  refine aw_cond rfl (fun c18 => ?_) (fun c18 => ?_)
  · replace h := Md.cond_t h c18
    refine aw_seq (aw_region (s_ls [_, _, _, _, _, _, _, _, _, _, _, _, _, _, _, _] ?_))
    refine s_mv ?_
    refine s_st [_, _, _, _, _, _, _, _, _, _, _, _, _, _, _, _] ?_
    refine s_sa ?_
    refine aops_nil ?_
    cases Option.some.inj h
    exact aw_ret ⟨rfl, rv (rn (.cons (va [_, _, _, _, _, _, _, _, _, _, _, _, _, _, _, _]) (.cons o1 .nil)))⟩
  replace h := Md.cond_f h c18
  refine aw_skip (aw_seq (aw_region (s_fd ?_)))
  refine s_ls [_, _, _, _, _, _, _, _, _, _, _, _] ?_
  refine s_mv ?_
  refine s_fd ?_
  refine s_ld ?_
  refine aops_step1 rfl (ev_add rfl rfl rfl (Md.wrap_W _)) (s_fd ?_)
  refine s_ld ?_
  refine s_fd ?_
  refine s_ld ?_
  refine aops_step1 rfl (ev_add rfl rfl rfl (Md.wrap_W _)) ?_
  refine aops_step1 rfl (ev_build' (out := [_, _, _, _, _, _, _, _, _, _, _, _, _, _, _, _]) rfl rfl rfl rfl rfl) (s_st [_, _, _, _, _, _, _, _, _, _, _, _, _, _, _, _] ?_)
  refine s_sa ?_
  refine aops_nil ?_
  cases Option.some.inj h
  exact aw_ret ⟨rfl, rv (rn (.cons (va [_, _, _, _, _, _, _, _, _, _, _, _, _, _, _, _]) (.cons o1 .nil)))⟩
set_option maxHeartbeats 2000000 in
theorem actorgridref26_RecoverStore_fn (k : Nat) (a0 : Disk) (a1 : Disk) (r : Store × StoreContents × Int) (h : actorgridref26_RecoverStore k a0 a1 = some r) : FnC Try.prog 50 [.agg (c_Disk a0), .agg (c_Disk a1)] [] (Det (.tup [.agg (c_Store r.1), .agg (c_StoreContents r.2.1), vI r.2.2]) []) := by
  unfold actorgridref26_RecoverStore at h
  refine fn_intro' 115 Try.func50 rfl rfl rfl (aw_seq (aw_region (aops_step1 rfl (st_box 0 rfl rfl rfl rfl) (aops_step1 rfl (st_box 1 rfl rfl rfl rfl) ?_))))
  refine aops_step1 rfl (st_alloc (cs := [.val (.slice none 0 0), cI 0, cB false, cI 0, cI 0, cB false, .val (.slice none 0 0), cI 0, cB false, cI 0, cI 0, cB false, cI 0, cI 0, cI 0, cI 0]) 2 rfl rfl rfl rfl rfl) ?_
  refine aops_step1 rfl (st_alloc (cs := [cI 0, .val (.slice none 0 0), .val (.slice none 0 0)]) 3 rfl rfl rfl rfl rfl) (s_sa ?_)
  refine aops_nil (aw_seq (aw_seq (aw_region (s_ls [_, _, _, _, _, _] ?_))))
  obtain ⟨x1, hx1, h⟩ := Md.bind_s h
  refine aops_step1 rfl (ev_call_v (actorgridref26_ValidDisk_fn k a0 x1 hx1) rfl [] ai rfl rfl rfl (.inl rfl) rfl) (s_nt ?_)
  refine s_mv ?_
  obtain ⟨o2, j2, h⟩ := Md.bind_s h
  refine aops_cut 4 (ε := Bool) (fun x2 => (⟨115, [], [(2, .one (.ptr 0 0)), (3, .one (.ptr 1 0)), (4, .one (.ptr 2 0)), (5, .one (.ptr 3 0)), (28, vB x2)], [(0, some (.box (c_Disk a0))), (1, some (.box (c_Disk a1))), (2, some (.box [.val (.slice none 0 0), cI 0, cB false, cI 0, cI 0, cB false, .val (.slice none 0 0), cI 0, cB false, cI 0, cI 0, cB false, cI 0, cI 0, cI 0, cI 0])), (3, some (.box [cI 0, .val (.slice none 0 0), .val (.slice none 0 0)]))]⟩ : ASt)) (fun x2 => x2 = o2) ?_ ?_
  · intro x2 hI2
    subst hI2
    change AOps _ _ _ (⟨115, [], [(2, .one (.ptr 0 0)), (3, .one (.ptr 1 0)), (4, .one (.ptr 2 0)), (5, .one (.ptr 3 0)), (28, vB x2)], [(0, some (.box (c_Disk a0))), (1, some (.box (c_Disk a1))), (2, some (.box [.val (.slice none 0 0), cI 0, cB false, cI 0, cI 0, cB false, .val (.slice none 0 0), cI 0, cB false, cI 0, cI 0, cB false, cI 0, cI 0, cI 0, cI 0])), (3, some (.box [cI 0, .val (.slice none 0 0), .val (.slice none 0 0)]))]⟩ : ASt) _
    refine aops_nil ?_
    refine aw_cond rfl (fun c3 => ?_) (fun c3 => ?_)
    · replace h := Md.cond_t h c3
      refine aw_seq (aw_region (aops_step1 rfl (ev_build' (out := [_, _, _, _, _, _, _, _, _, _, _, _, _, _, _, _]) rfl rfl rfl rfl rfl) ?_))
      refine aops_step1 rfl (ev_build' (out := [_, _, _]) rfl rfl rfl rfl rfl) (s_st [_, _, _, _, _, _, _, _, _, _, _, _, _, _, _, _] ?_)
      refine s_st [_, _, _] ?_
      refine s_sa ?_
      refine aops_nil ?_
      cases Option.some.inj h
      exact aw_ret ⟨rfl, rv (rn (.cons (va [_, _, _, _, _, _, _, _, _, _, _, _, _, _, _, _]) (.cons (va [_, _, _]) (.cons o1 .nil))))⟩
    replace h := Md.cond_f h c3
    refine aw_skip (aw_seq (aw_seq (aw_region (s_fd ?_))))
    refine s_ld ?_
    refine s_mv ?_
    refine aops_mid 3 (⟨115, [], [(2, .one (.ptr 0 0)), (3, .one (.ptr 1 0)), (4, .one (.ptr 2 0)), (5, .one (.ptr 3 0)), (36, vB (a0.Down || a1.Down))], [(0, some (.box (c_Disk a0))), (1, some (.box (c_Disk a1))), (2, some (.box [.val (.slice none 0 0), cI 0, cB false, cI 0, cI 0, cB false, .val (.slice none 0 0), cI 0, cB false, cI 0, cI 0, cB false, cI 0, cI 0, cI 0, cI 0])), (3, some (.box [cI 0, .val (.slice none 0 0), .val (.slice none 0 0)]))]⟩ : ASt) ?_ ?_
    · rcases Md.bool_or (a0.Down) with q4 | q4
      · skip
        iterate 2 refine np q4 ?_
        refine s_py q4 ?_
        refine aops_nil ?_
        exact wq q4
      refine y_fd q4 ?_
      refine y_ld q4 ?_
      refine s_pn q4 ?_
      refine aops_nil ?_
      exact wq q4
    refine aops_nil ?_
    refine aw_cond rfl (fun c5 => ?_) (fun c5 => ?_)
    · replace h := Md.cond_t h c5
      refine aw_seq (aw_region (aops_step1 rfl (ev_build' (out := [_, _, _, _, _, _, _, _, _, _, _, _, _, _, _, _]) rfl rfl rfl rfl rfl) ?_))
      refine aops_step1 rfl (ev_build' (out := [_, _, _]) rfl rfl rfl rfl rfl) (s_st [_, _, _, _, _, _, _, _, _, _, _, _, _, _, _, _] ?_)
      refine s_st [_, _, _] ?_
      refine s_sa ?_
      refine aops_nil ?_
      cases Option.some.inj h
      exact aw_ret ⟨rfl, rv (rn (.cons (va [_, _, _, _, _, _, _, _, _, _, _, _, _, _, _, _]) (.cons (va [_, _, _]) (.cons o1 .nil))))⟩
    replace h := Md.cond_f h c5
    refine aw_skip ?_
    obtain ⟨x6, hx6, h⟩ := Md.bind_s h
    obtain ⟨x7, hx7, h⟩ := Md.bind_s h
    refine aw_seq ?_
    apply aw_draw 6 ((⟨[], .agg (c_Disk a0)⟩ : Add) :: ⟨[(4, some (.row 5 1 x6.Data.length (lsEl byC x6.Data)))], .agg [.own 4, cI x6.Capacity, cB x6.Armed, cI x6.Writes, cI x6.Keep, cB x6.Down]⟩ :: ⟨[], .agg (c_Disk a1)⟩ :: ⟨[(5, some (.row 5 1 x7.Data.length (lsEl byC x7.Data)))], .agg [.own 5, cI x7.Capacity, cB x7.Armed, cI x7.Writes, cI x7.Keep, cB x7.Down]⟩ :: ⟨[], .agg [.own 4, cI x6.Capacity, cB x6.Armed, cI x6.Writes, cI x6.Keep, cB x6.Down, .own 5, cI x7.Capacity, cB x7.Armed, cI x7.Writes, cI x7.Keep, cB x7.Down]⟩ :: ⟨[(6, some (.box [.val (.slice none 0 0), cI 0, cB false, cI 0, cI 0, cB false, .val (.slice none 0 0), cI 0, cB false, cI 0, cI 0, cB false]))], .one (.ptr 6 _)⟩ :: []) (by decide) rfl ?hk1x ?hf1x ?ho1x ?hr1x
    case ho1x =>
     refine ob [] (fun S hle hfr => .inl ⟨w0, ev_loads (ds := [_, _, _, _, _, _]) (hle.e rfl) (hle.heap _ _ rfl) rfl rfl (hle.d rfl)⟩) ?_
     refine ob [0] (fun S hle hfr => .inl ⟨w0, st_call_r (r' := .agg [.own 4, cI x6.Capacity, cB x6.Armed, cI x6.Writes, cI x6.Keep, cB x6.Down]) 4 (hfr _ (List.mem_singleton.2 rfl)) (actorgridref26_copyDisk_fn k a0 x6 hx6) (map_ev (.cons (hle.e rfl) (.nil))) [] (by repeat' (first | exact .nil | refine .cons ?_ ?_ | refine .one ?_ | refine .agg ?_ | exact .mk rfl | exact .lend (hle.heap _ _ rfl) (by simp) | exact .le (.nil _) rfl | exact .le (.emp _) rfl | exact .le (.any _) rfl | fail)) rfl rfl rfl (.inl rfl) (hle.d rfl) rfl⟩) ?_
     refine ob [] (fun S hle hfr => .inl ⟨w0, ev_loads (ds := [_, _, _, _, _, _]) (hle.e rfl) (hle.heap _ _ rfl) rfl rfl (hle.d rfl)⟩) ?_
     refine ob [2, 1, 0] (fun S hle hfr => .inl ⟨w0, st_call_r (r' := .agg [.own 5, cI x7.Capacity, cB x7.Armed, cI x7.Writes, cI x7.Keep, cB x7.Down]) 5 (hfr _ (List.mem_singleton.2 rfl)) (actorgridref26_copyDisk_fn k a1 x7 hx7) (map_ev (.cons (hle.e rfl) (.nil))) [] (by repeat' (first | exact .nil | refine .cons ?_ ?_ | refine .one ?_ | refine .agg ?_ | exact .mk rfl | exact .lend (hle.heap _ _ rfl) (by simp) | exact .le (.nil _) rfl | exact .le (.emp _) rfl | exact .le (.any _) rfl | fail)) rfl rfl rfl (.inl rfl) (hle.d rfl) rfl⟩) ?_
     refine ob [1, 3, 0, 2] (fun S hle hfr => .inl ⟨w0, ev_build_arr' (out := [_, _, _, _, _, _, _, _, _, _, _, _]) (map_ev2 (.cons (hle.e rfl) (.cons (hle.e rfl) (.nil)))) rfl rfl rfl (hle.d rfl)⟩) ?_
     refine ob [] (fun S hle hfr => .inl ⟨w0, st_alloc (cs := [.val (.slice none 0 0), cI 0, cB false, cI 0, cI 0, cB false, .val (.slice none 0 0), cI 0, cB false, cI 0, cI 0, cB false]) 6 (hfr _ (List.mem_singleton.2 rfl)) rfl rfl rfl (hle.d rfl)⟩) ?_
     exact trivial
    case hk1x => rfl
    case hf1x => rfl
    refine s_st [_, _, _, _, _, _, _, _, _, _, _, _] ?_
    refine aops_nil (aw_seq (aw_region (aops_step1 rfl (ev_build' (out := [_, _, _]) rfl rfl rfl rfl rfl) ?_)))
    refine aops_step1 rfl (st_alloc (cs := [cI 0, .val (.slice none 0 0), .val (.slice none 0 0)]) 7 rfl rfl rfl rfl rfl) (s_sa ?_)
    refine s_st [_, _, _] ?_
    refine aops_nil (aw_seq (aw_region ?_))
    iterate 2 refine s_sa ?_
    refine aops_nil (aw_seq (aw_seq (aw_region (s_sa ?_))))
    refine aops_nil (aw_block (aw_loop_start (awl_round (aw_seq (aw_seq (aw_region (s_mv ?_)))))))
    refine aops_step1 rfl (ev_cmp (b := true) rfl rfl rfl rfl) (aops_nil (aw_yes rfl (rfl) (aw_skip ?_)))
    obtain ⟨o8, j8, h⟩ := Md.bind_s h
    refine aw_cut (ε := (Int × Int × Int × (List UInt8) × StoreContents)) (fun x => (⟨115, [], [(4, .one (.ptr 2 0)), (5, .one (.ptr 3 0)), (7, .one (.ptr 6 0)), (8, vI x.1), (9, .one (.ptr 7 0)), (10, vI x.2.1), (11, vI x.2.2.1), (12, vI 0)], [(2, some (.box [.val (.slice none 0 0), cI 0, cB false, cI 0, cI 0, cB false, .val (.slice none 0 0), cI 0, cB false, cI 0, cI 0, cB false, cI 0, cI 0, cI 0, cI 0])), (3, some (.box [cI 0, .val (.slice none 0 0), .val (.slice none 0 0)])), (5, some (.row 5 1 x7.Data.length (lsEl byC x7.Data))), (6, some (.box [CV.ls byC x.2.2.2.1, cI x6.Capacity, cB x6.Armed, cI x6.Writes, cI x6.Keep, cB x6.Down, .own 5, cI x7.Capacity, cB x7.Armed, cI x7.Writes, cI x7.Keep, cB x7.Down])), (7, some (.box (c_StoreContents x.2.2.2.2)))]⟩ : ASt)) (fun x => x = o8) ?_ ?_
    · intro x8_0 hI8
      subst hI8
      change AW _ _ (⟨115, [], [(4, .one (.ptr 2 0)), (5, .one (.ptr 3 0)), (7, .one (.ptr 6 0)), (8, vI x8_0.1), (9, .one (.ptr 7 0)), (10, vI x8_0.2.1), (11, vI x8_0.2.2.1), (12, vI 0)], [(2, some (.box [.val (.slice none 0 0), cI 0, cB false, cI 0, cI 0, cB false, .val (.slice none 0 0), cI 0, cB false, cI 0, cI 0, cB false, cI 0, cI 0, cI 0, cI 0])), (3, some (.box [cI 0, .val (.slice none 0 0), .val (.slice none 0 0)])), (5, some (.row 5 1 x7.Data.length (lsEl byC x7.Data))), (6, some (.box [CV.ls byC x8_0.2.2.2.1, cI x6.Capacity, cB x6.Armed, cI x6.Writes, cI x6.Keep, cB x6.Down, .own 5, cI x7.Capacity, cB x7.Armed, cI x7.Writes, cI x7.Keep, cB x7.Down])), (7, some (.box (c_StoreContents x8_0.2.2.2.2)))]⟩ : ASt) _
      refine aw_region (s_mv ?_)
      refine aops_step1 rfl (ev_add (q := 1) rfl rfl rfl (by decide)) (s_sa ?_)
      refine aops_nil (awl_round (aw_seq (aw_seq (aw_region (s_mv ?_)))))
      refine aops_step1 rfl (ev_cmp (b := true) rfl rfl rfl rfl) (aops_nil (aw_yes rfl (rfl) (aw_skip ?_)))
      obtain ⟨o9, j9, h⟩ := Md.bind_s h
      refine aw_cut (ε := (Int × Int × Int × Arr2Disk × StoreContents)) (fun x => (⟨115, [], [(4, .one (.ptr 2 0)), (5, .one (.ptr 3 0)), (7, .one (.ptr 6 0)), (8, vI x.1), (9, .one (.ptr 7 0)), (10, vI x.2.1), (11, vI x.2.2.1), (12, vI 1)], [(2, some (.box [.val (.slice none 0 0), cI 0, cB false, cI 0, cI 0, cB false, .val (.slice none 0 0), cI 0, cB false, cI 0, cI 0, cB false, cI 0, cI 0, cI 0, cI 0])), (3, some (.box [cI 0, .val (.slice none 0 0), .val (.slice none 0 0)])), (6, some (.box (c_Arr2Disk x.2.2.2.1))), (7, some (.box (c_StoreContents x.2.2.2.2)))]⟩ : ASt)) (fun x => x = o9) ?_ ?_
      · intro x9_0 hI9
        subst hI9
        change AW _ _ (⟨115, [], [(4, .one (.ptr 2 0)), (5, .one (.ptr 3 0)), (7, .one (.ptr 6 0)), (8, vI x9_0.1), (9, .one (.ptr 7 0)), (10, vI x9_0.2.1), (11, vI x9_0.2.2.1), (12, vI 1)], [(2, some (.box [.val (.slice none 0 0), cI 0, cB false, cI 0, cI 0, cB false, .val (.slice none 0 0), cI 0, cB false, cI 0, cI 0, cB false, cI 0, cI 0, cI 0, cI 0])), (3, some (.box [cI 0, .val (.slice none 0 0), .val (.slice none 0 0)])), (6, some (.box (c_Arr2Disk x9_0.2.2.2.1))), (7, some (.box (c_StoreContents x9_0.2.2.2.2)))]⟩ : ASt) _
        refine aw_region (s_mv ?_)
        refine aops_step1 rfl (ev_add (q := 2) rfl rfl rfl (by decide)) (s_sa ?_)
        refine aops_nil (awl_round (aw_seq (aw_seq (aw_region (s_mv ?_)))))
        refine aops_step1 rfl (ev_cmp (b := false) rfl rfl rfl rfl) (aops_nil (aw_no rfl (rfl) (aw_exit (aw_seq (aw_seq (aw_region (s_mv ?_)))))))
        refine s_cm ?_
        refine aops_nil ?_
        refine aw_cond rfl (fun c10 => ?_) (fun c10 => ?_)
        · replace h := Md.cond_t h c10
          refine aw_seq (aw_region (aops_step1 rfl (ev_build' (out := [_, _, _, _, _, _, _, _, _, _, _, _, _, _, _, _]) rfl rfl rfl rfl rfl) ?_))
          refine aops_step1 rfl (ev_build' (out := [_, _, _]) rfl rfl rfl rfl rfl) (s_st [_, _, _, _, _, _, _, _, _, _, _, _, _, _, _, _] ?_)
          refine s_st [_, _, _] ?_
          refine s_sa ?_
          refine aops_nil ?_
          cases Option.some.inj h
          exact aw_ret ⟨rfl, rv (rn (.cons (va [_, _, _, _, _, _, _, _, _, _, _, _, _, _, _, _]) (.cons (va [_, _, _]) (.cons o1 .nil))))⟩
        replace h := Md.cond_f h c10
        refine aw_skip (aw_seq (aw_seq (aw_region ?_)))
        iterate 2 refine s_mv ?_
        rcases Md.bool_or ((decide (x9_0.1 = 0))) with q11 | q11
        · replace h := Md.cond_t h q11
          refine aops_step1 rfl (ev_index_arr (j := 0) rfl rfl (of_decide_eq_true q11) rfl rfl) (s_fd ?_)
          refine s_ld ?_
          refine s_ln ?_
          refine s_cm ?_
          refine aops_nil ?_
          refine aw_cond rfl (fun c12 => ?_) (fun c12 => ?_)
          · replace h := Md.cond_t h c12
            refine aw_seq (aw_region (s_mv ?_))
            refine aops_step1 rfl (ev_index_arr (j := 0) rfl rfl (of_decide_eq_true q11) rfl rfl) (s_ls [_, _, _, _, _, _] ?_)
            refine s_mv ?_
            obtain ⟨x13, hx13, h⟩ := Md.bind_s h
            refine aops_step1 rfl (ev_call_v (actorgridref26_Truncate_fn k x9_0.2.2.2.1.x0 x9_0.2.2.1 x13 hx13) rfl [] ai rfl rfl rfl (.inl rfl) rfl) (s_mt ?_)
            iterate 2 refine s_ex ?_
            refine aops_step1 rfl (st_alloc (cs := [.val (.slice none 0 0), cI 0, cB false, cI 0, cI 0, cB false]) 8 rfl rfl rfl rfl rfl) (s_st [_, _, _, _, _, _] ?_)
            refine s_sa ?_
            refine aops_nil (aw_seq (aw_seq (aw_region (s_mv ?_))))
            refine s_cm ?_
            refine aops_nil ?_
            refine aw_cond rfl (fun c14 => ?_) (fun c14 => ?_)
            · replace h := Md.cond_t h c14
              refine aw_seq (aw_region (aops_step1 rfl (ev_build' (out := [_, _, _, _, _, _, _, _, _, _, _, _, _, _, _, _]) rfl rfl rfl rfl rfl) ?_))
              refine aops_step1 rfl (ev_build' (out := [_, _, _]) rfl rfl rfl rfl rfl) (s_mv ?_)
              refine s_st [_, _, _, _, _, _, _, _, _, _, _, _, _, _, _, _] ?_
              refine s_st [_, _, _] ?_
              refine s_sa ?_
              refine aops_nil ?_
              cases Option.some.inj h
              exact aw_ret ⟨rfl, rv (rn (.cons (va [_, _, _, _, _, _, _, _, _, _, _, _, _, _, _, _]) (.cons (va [_, _, _]) (.cons o1 .nil))))⟩
            replace h := Md.cond_f h c14
            refine aw_skip (aw_region (s_mv ?_))
            refine s_ls [_, _, _, _, _, _] ?_
            refine aops_step1 rfl (ev_index_arr (j := 0) rfl rfl (of_decide_eq_true q11) rfl rfl) (s_st [_, _, _, _, _, _, _, _, _, _, _, _] ?_)
            refine aops_nil ?_
            refine aw_seq_mid (⟨115, [], [(4, .one (.ptr 2 0)), (5, .one (.ptr 3 0)), (6, vI 0)], [(2, some (.box (c_Disk x13.1 ++ c_Disk x9_0.2.2.2.1.x1 ++ [cI x9_0.1, cI x9_0.2.1, cI x9_0.2.2.2.2.Base, cI ((x9_0.2.2.2.2.Entries.length : Nat) : Int)]))), (3, some (.box (c_StoreContents x9_0.2.2.2.2)))]⟩ : ASt) ?_ ?_
            ·
              apply aw_late 10 9 ((⟨[], .agg (c_Disk x13.1 ++ c_Disk x9_0.2.2.2.1.x1)⟩ : Add) :: ⟨[], vI x9_0.1⟩ :: ⟨[], vI x9_0.2.1⟩ :: ⟨[], .one (.ptr 7 _)⟩ :: ⟨[], vI x9_0.2.2.2.2.Base⟩ :: ⟨[], .one (.ptr 7 _)⟩ :: ⟨[], .one (CV.ls c_LU8 x9_0.2.2.2.2.Entries)⟩ :: ⟨[], vI ((x9_0.2.2.2.2.Entries.length : Nat) : Int)⟩ :: ⟨[], .agg (c_Disk x13.1 ++ c_Disk x9_0.2.2.2.1.x1 ++ [cI x9_0.1, cI x9_0.2.1, cI x9_0.2.2.2.2.Base, cI ((x9_0.2.2.2.2.Entries.length : Nat) : Int)])⟩ :: ⟨[], .agg (c_StoreContents x9_0.2.2.2.2)⟩ :: []) (by decide) (by decide) rfl rfl rfl ?hk4x ?hf4x ?ho4x ?hr4x ?hl4x
              case ho4x =>
               refine ob [] (fun S hle hfr => .inl ⟨w0, ev_loads (ds := [_, _, _, _, _, _, _, _, _, _, _, _]) (hle.e rfl) (hle.heap _ _ rfl) rfl rfl (hle.d rfl)⟩) ?_
               refine ob [] (fun S hle hfr => .inl ⟨w0, st_move (hle.e rfl) (hle.d rfl)⟩) (ob [] (fun S hle hfr => .inl ⟨w0, st_move (hle.e rfl) (hle.d rfl)⟩) ?_)
               refine ob [] (fun S hle hfr => .inl ⟨w0, ev_field (hle.e rfl) rfl (hle.d rfl)⟩) ?_
               refine ob [3] (fun S hle hfr => .inl ⟨w0, ev_load (hle.e rfl) (hle.heap _ _ rfl) rfl (hle.d rfl)⟩) ?_
               refine ob [] (fun S hle hfr => .inl ⟨w0, ev_field (hle.e rfl) rfl (hle.d rfl)⟩) ?_
               refine ob [5] (fun S hle hfr => .inl ⟨w0, ev_load (hle.e rfl) (hle.heap _ _ rfl) rfl (hle.d rfl)⟩) ?_
               refine ob [6, 5] (fun S hle hfr => .inl ⟨w0, ev_len_slc (hle.e rfl) (hle.d rfl)⟩) ?_
               refine ob [0, 1, 2, 4, 7, 3, 6, 5] (fun S hle hfr => .inl ⟨w0, ev_build' (out := [_, _, _, _, _, _, _, _, _, _, _, _, _, _, _, _]) (map_ev2 (.cons (hle.e rfl) (.cons (hle.e rfl) (.cons (hle.e rfl) (.cons (hle.e rfl) (.cons (hle.e rfl) (.nil))))))) rfl rfl rfl (hle.d rfl)⟩) ?_
               refine ob [] (fun S hle hfr => .inl ⟨w0, ev_loads (ds := [_, _, _]) (hle.e rfl) (hle.heap _ _ rfl) rfl rfl (hle.d rfl)⟩) ?_
               exact trivial
              case hk4x => rfl
              case hf4x => rfl
              case hr4x =>
               refine s_st [_, _, _, _, _, _, _, _, _, _, _, _, _, _, _, _] ?_
               refine s_st [_, _, _] ?_
               refine s_sa ?_
               refine aops_nil ?_
               exact wk
              case hl4x =>
               refine s_st [_, _, _, _, _, _, _, _, _, _, _, _, _, _, _, _] ?_
               refine s_ls [_, _, _] ?_
               refine s_st [_, _, _] ?_
               refine s_sa ?_
               refine aops_nil ?_
               exact wk
            cases Option.some.inj h
            exact aw_ret ⟨rfl, rv (rn (.cons (va [_, _, _, _, _, _, _, _, _, _, _, _, _, _, _, _]) (.cons (va [_, _, _]) (.cons o1 .nil))))⟩
          replace h := Md.cond_f h c12
          refine aw_skip ?_
          refine aw_seq_mid (⟨115, [], [(4, .one (.ptr 2 0)), (5, .one (.ptr 3 0)), (6, vI 0)], [(2, some (.box (c_Arr2Disk x9_0.2.2.2.1 ++ [cI x9_0.1, cI x9_0.2.1, cI x9_0.2.2.2.2.Base, cI ((x9_0.2.2.2.2.Entries.length : Nat) : Int)]))), (3, some (.box (c_StoreContents x9_0.2.2.2.2)))]⟩ : ASt) ?_ ?_
          ·
            apply aw_late 10 9 ((⟨[], .agg (c_Arr2Disk x9_0.2.2.2.1)⟩ : Add) :: ⟨[], vI x9_0.1⟩ :: ⟨[], vI x9_0.2.1⟩ :: ⟨[], .one (.ptr 7 _)⟩ :: ⟨[], vI x9_0.2.2.2.2.Base⟩ :: ⟨[], .one (.ptr 7 _)⟩ :: ⟨[], .one (CV.ls c_LU8 x9_0.2.2.2.2.Entries)⟩ :: ⟨[], vI ((x9_0.2.2.2.2.Entries.length : Nat) : Int)⟩ :: ⟨[], .agg (c_Arr2Disk x9_0.2.2.2.1 ++ [cI x9_0.1, cI x9_0.2.1, cI x9_0.2.2.2.2.Base, cI ((x9_0.2.2.2.2.Entries.length : Nat) : Int)])⟩ :: ⟨[], .agg (c_StoreContents x9_0.2.2.2.2)⟩ :: []) (by decide) (by decide) rfl rfl rfl ?hk5x ?hf5x ?ho5x ?hr5x ?hl5x
            case ho5x =>
             refine ob [] (fun S hle hfr => .inl ⟨w0, ev_loads (ds := [_, _, _, _, _, _, _, _, _, _, _, _]) (hle.e rfl) (hle.heap _ _ rfl) rfl rfl (hle.d rfl)⟩) ?_
             refine ob [] (fun S hle hfr => .inl ⟨w0, st_move (hle.e rfl) (hle.d rfl)⟩) (ob [] (fun S hle hfr => .inl ⟨w0, st_move (hle.e rfl) (hle.d rfl)⟩) ?_)
             refine ob [] (fun S hle hfr => .inl ⟨w0, ev_field (hle.e rfl) rfl (hle.d rfl)⟩) ?_
             refine ob [3] (fun S hle hfr => .inl ⟨w0, ev_load (hle.e rfl) (hle.heap _ _ rfl) rfl (hle.d rfl)⟩) ?_
             refine ob [] (fun S hle hfr => .inl ⟨w0, ev_field (hle.e rfl) rfl (hle.d rfl)⟩) ?_
             refine ob [5] (fun S hle hfr => .inl ⟨w0, ev_load (hle.e rfl) (hle.heap _ _ rfl) rfl (hle.d rfl)⟩) ?_
             refine ob [6, 5] (fun S hle hfr => .inl ⟨w0, ev_len_slc (hle.e rfl) (hle.d rfl)⟩) ?_
             refine ob [0, 1, 2, 4, 7, 3, 6, 5] (fun S hle hfr => .inl ⟨w0, ev_build' (out := [_, _, _, _, _, _, _, _, _, _, _, _, _, _, _, _]) (map_ev2 (.cons (hle.e rfl) (.cons (hle.e rfl) (.cons (hle.e rfl) (.cons (hle.e rfl) (.cons (hle.e rfl) (.nil))))))) rfl rfl rfl (hle.d rfl)⟩) ?_
             refine ob [] (fun S hle hfr => .inl ⟨w0, ev_loads (ds := [_, _, _]) (hle.e rfl) (hle.heap _ _ rfl) rfl rfl (hle.d rfl)⟩) ?_
             exact trivial
            case hk5x => rfl
            case hf5x => rfl
            case hr5x =>
             refine s_st [_, _, _, _, _, _, _, _, _, _, _, _, _, _, _, _] ?_
             refine s_st [_, _, _] ?_
             refine s_sa ?_
             refine aops_nil ?_
             exact wk
            case hl5x =>
             refine s_st [_, _, _, _, _, _, _, _, _, _, _, _, _, _, _, _] ?_
             refine s_ls [_, _, _] ?_
             refine s_st [_, _, _] ?_
             refine s_sa ?_
             refine aops_nil ?_
             exact wk
          cases Option.some.inj h
          exact aw_ret ⟨rfl, rv (rn (.cons (va [_, _, _, _, _, _, _, _, _, _, _, _, _, _, _, _]) (.cons (va [_, _, _]) (.cons o1 .nil))))⟩
        replace h := Md.cond_f h q11
        obtain ⟨g15, h⟩ := Md.ifp_s h
        refine aops_step1 rfl (ev_index_arr (j := 1) rfl rfl g15 rfl rfl) (s_fd ?_)
        refine s_ld ?_
        refine s_ln ?_
        refine s_cm ?_
        refine aops_nil ?_
        refine aw_cond rfl (fun c16 => ?_) (fun c16 => ?_)
        · replace h := Md.cond_t h c16
          refine aw_seq (aw_region (s_mv ?_))
          obtain ⟨g17, h⟩ := Md.ifp_s h
          refine aops_step1 rfl (ev_index_arr (j := 1) rfl rfl g17 rfl rfl) (s_ls [_, _, _, _, _, _] ?_)
          refine s_mv ?_
          obtain ⟨x18, hx18, h⟩ := Md.bind_s h
          refine aops_step1 rfl (ev_call_v (actorgridref26_Truncate_fn k x9_0.2.2.2.1.x1 x9_0.2.2.1 x18 hx18) rfl [] ai rfl rfl rfl (.inl rfl) rfl) (s_mt ?_)
          iterate 2 refine s_ex ?_
          refine aops_step1 rfl (st_alloc (cs := [.val (.slice none 0 0), cI 0, cB false, cI 0, cI 0, cB false]) 8 rfl rfl rfl rfl rfl) (s_st [_, _, _, _, _, _] ?_)
          refine s_sa ?_
          refine aops_nil (aw_seq (aw_seq (aw_region (s_mv ?_))))
          refine s_cm ?_
          refine aops_nil ?_
          refine aw_cond rfl (fun c19 => ?_) (fun c19 => ?_)
          · replace h := Md.cond_t h c19
            refine aw_seq (aw_region (aops_step1 rfl (ev_build' (out := [_, _, _, _, _, _, _, _, _, _, _, _, _, _, _, _]) rfl rfl rfl rfl rfl) ?_))
            refine aops_step1 rfl (ev_build' (out := [_, _, _]) rfl rfl rfl rfl rfl) (s_mv ?_)
            refine s_st [_, _, _, _, _, _, _, _, _, _, _, _, _, _, _, _] ?_
            refine s_st [_, _, _] ?_
            refine s_sa ?_
            refine aops_nil ?_
            cases Option.some.inj h
            exact aw_ret ⟨rfl, rv (rn (.cons (va [_, _, _, _, _, _, _, _, _, _, _, _, _, _, _, _]) (.cons (va [_, _, _]) (.cons o1 .nil))))⟩
          replace h := Md.cond_f h c19
          refine aw_skip (aw_region (s_mv ?_))
          refine s_ls [_, _, _, _, _, _] ?_
          obtain ⟨g20, h⟩ := Md.ifp_s h
          refine aops_step1 rfl (ev_index_arr (j := 1) rfl rfl g20 rfl rfl) (s_st [_, _, _, _, _, _, _, _, _, _, _, _] ?_)
          refine aops_nil ?_
          refine aw_seq_mid (⟨115, [], [(4, .one (.ptr 2 0)), (5, .one (.ptr 3 0)), (6, vI 0)], [(2, some (.box (c_Disk x9_0.2.2.2.1.x0 ++ c_Disk x18.1 ++ [cI x9_0.1, cI x9_0.2.1, cI x9_0.2.2.2.2.Base, cI ((x9_0.2.2.2.2.Entries.length : Nat) : Int)]))), (3, some (.box (c_StoreContents x9_0.2.2.2.2)))]⟩ : ASt) ?_ ?_
          ·
            apply aw_late 10 9 ((⟨[], .agg (c_Disk x9_0.2.2.2.1.x0 ++ c_Disk x18.1)⟩ : Add) :: ⟨[], vI x9_0.1⟩ :: ⟨[], vI x9_0.2.1⟩ :: ⟨[], .one (.ptr 7 _)⟩ :: ⟨[], vI x9_0.2.2.2.2.Base⟩ :: ⟨[], .one (.ptr 7 _)⟩ :: ⟨[], .one (CV.ls c_LU8 x9_0.2.2.2.2.Entries)⟩ :: ⟨[], vI ((x9_0.2.2.2.2.Entries.length : Nat) : Int)⟩ :: ⟨[], .agg (c_Disk x9_0.2.2.2.1.x0 ++ c_Disk x18.1 ++ [cI x9_0.1, cI x9_0.2.1, cI x9_0.2.2.2.2.Base, cI ((x9_0.2.2.2.2.Entries.length : Nat) : Int)])⟩ :: ⟨[], .agg (c_StoreContents x9_0.2.2.2.2)⟩ :: []) (by decide) (by decide) rfl rfl rfl ?hk6x ?hf6x ?ho6x ?hr6x ?hl6x
            case ho6x =>
             refine ob [] (fun S hle hfr => .inl ⟨w0, ev_loads (ds := [_, _, _, _, _, _, _, _, _, _, _, _]) (hle.e rfl) (hle.heap _ _ rfl) rfl rfl (hle.d rfl)⟩) ?_
             refine ob [] (fun S hle hfr => .inl ⟨w0, st_move (hle.e rfl) (hle.d rfl)⟩) (ob [] (fun S hle hfr => .inl ⟨w0, st_move (hle.e rfl) (hle.d rfl)⟩) ?_)
             refine ob [] (fun S hle hfr => .inl ⟨w0, ev_field (hle.e rfl) rfl (hle.d rfl)⟩) ?_
             refine ob [3] (fun S hle hfr => .inl ⟨w0, ev_load (hle.e rfl) (hle.heap _ _ rfl) rfl (hle.d rfl)⟩) ?_
             refine ob [] (fun S hle hfr => .inl ⟨w0, ev_field (hle.e rfl) rfl (hle.d rfl)⟩) ?_
             refine ob [5] (fun S hle hfr => .inl ⟨w0, ev_load (hle.e rfl) (hle.heap _ _ rfl) rfl (hle.d rfl)⟩) ?_
             refine ob [6, 5] (fun S hle hfr => .inl ⟨w0, ev_len_slc (hle.e rfl) (hle.d rfl)⟩) ?_
             refine ob [0, 1, 2, 4, 7, 3, 6, 5] (fun S hle hfr => .inl ⟨w0, ev_build' (out := [_, _, _, _, _, _, _, _, _, _, _, _, _, _, _, _]) (map_ev2 (.cons (hle.e rfl) (.cons (hle.e rfl) (.cons (hle.e rfl) (.cons (hle.e rfl) (.cons (hle.e rfl) (.nil))))))) rfl rfl rfl (hle.d rfl)⟩) ?_
             refine ob [] (fun S hle hfr => .inl ⟨w0, ev_loads (ds := [_, _, _]) (hle.e rfl) (hle.heap _ _ rfl) rfl rfl (hle.d rfl)⟩) ?_
             exact trivial
            case hk6x => rfl
            case hf6x => rfl
            case hr6x =>
             refine s_st [_, _, _, _, _, _, _, _, _, _, _, _, _, _, _, _] ?_
             refine s_st [_, _, _] ?_
             refine s_sa ?_
             refine aops_nil ?_
             exact wk
            case hl6x =>
             refine s_st [_, _, _, _, _, _, _, _, _, _, _, _, _, _, _, _] ?_
             refine s_ls [_, _, _] ?_
             refine s_st [_, _, _] ?_
             refine s_sa ?_
             refine aops_nil ?_
             exact wk
          cases Option.some.inj h
          exact aw_ret ⟨rfl, rv (rn (.cons (va [_, _, _, _, _, _, _, _, _, _, _, _, _, _, _, _]) (.cons (va [_, _, _]) (.cons o1 .nil))))⟩
        replace h := Md.cond_f h c16
        refine aw_skip ?_
        refine aw_seq_mid (⟨115, [], [(4, .one (.ptr 2 0)), (5, .one (.ptr 3 0)), (6, vI 0)], [(2, some (.box (c_Arr2Disk x9_0.2.2.2.1 ++ [cI x9_0.1, cI x9_0.2.1, cI x9_0.2.2.2.2.Base, cI ((x9_0.2.2.2.2.Entries.length : Nat) : Int)]))), (3, some (.box (c_StoreContents x9_0.2.2.2.2)))]⟩ : ASt) ?_ ?_
        ·
          apply aw_late 10 9 ((⟨[], .agg (c_Arr2Disk x9_0.2.2.2.1)⟩ : Add) :: ⟨[], vI x9_0.1⟩ :: ⟨[], vI x9_0.2.1⟩ :: ⟨[], .one (.ptr 7 _)⟩ :: ⟨[], vI x9_0.2.2.2.2.Base⟩ :: ⟨[], .one (.ptr 7 _)⟩ :: ⟨[], .one (CV.ls c_LU8 x9_0.2.2.2.2.Entries)⟩ :: ⟨[], vI ((x9_0.2.2.2.2.Entries.length : Nat) : Int)⟩ :: ⟨[], .agg (c_Arr2Disk x9_0.2.2.2.1 ++ [cI x9_0.1, cI x9_0.2.1, cI x9_0.2.2.2.2.Base, cI ((x9_0.2.2.2.2.Entries.length : Nat) : Int)])⟩ :: ⟨[], .agg (c_StoreContents x9_0.2.2.2.2)⟩ :: []) (by decide) (by decide) rfl rfl rfl ?hk7x ?hf7x ?ho7x ?hr7x ?hl7x
          case ho7x =>
           refine ob [] (fun S hle hfr => .inl ⟨w0, ev_loads (ds := [_, _, _, _, _, _, _, _, _, _, _, _]) (hle.e rfl) (hle.heap _ _ rfl) rfl rfl (hle.d rfl)⟩) ?_
           refine ob [] (fun S hle hfr => .inl ⟨w0, st_move (hle.e rfl) (hle.d rfl)⟩) (ob [] (fun S hle hfr => .inl ⟨w0, st_move (hle.e rfl) (hle.d rfl)⟩) ?_)
           refine ob [] (fun S hle hfr => .inl ⟨w0, ev_field (hle.e rfl) rfl (hle.d rfl)⟩) ?_
           refine ob [3] (fun S hle hfr => .inl ⟨w0, ev_load (hle.e rfl) (hle.heap _ _ rfl) rfl (hle.d rfl)⟩) ?_
           refine ob [] (fun S hle hfr => .inl ⟨w0, ev_field (hle.e rfl) rfl (hle.d rfl)⟩) ?_
           refine ob [5] (fun S hle hfr => .inl ⟨w0, ev_load (hle.e rfl) (hle.heap _ _ rfl) rfl (hle.d rfl)⟩) ?_
           refine ob [6, 5] (fun S hle hfr => .inl ⟨w0, ev_len_slc (hle.e rfl) (hle.d rfl)⟩) ?_
           refine ob [0, 1, 2, 4, 7, 3, 6, 5] (fun S hle hfr => .inl ⟨w0, ev_build' (out := [_, _, _, _, _, _, _, _, _, _, _, _, _, _, _, _]) (map_ev2 (.cons (hle.e rfl) (.cons (hle.e rfl) (.cons (hle.e rfl) (.cons (hle.e rfl) (.cons (hle.e rfl) (.nil))))))) rfl rfl rfl (hle.d rfl)⟩) ?_
           refine ob [] (fun S hle hfr => .inl ⟨w0, ev_loads (ds := [_, _, _]) (hle.e rfl) (hle.heap _ _ rfl) rfl rfl (hle.d rfl)⟩) ?_
           exact trivial
          case hk7x => rfl
          case hf7x => rfl
          case hr7x =>
           refine s_st [_, _, _, _, _, _, _, _, _, _, _, _, _, _, _, _] ?_
           refine s_st [_, _, _] ?_
           refine s_sa ?_
           refine aops_nil ?_
           exact wk
          case hl7x =>
           refine s_st [_, _, _, _, _, _, _, _, _, _, _, _, _, _, _, _] ?_
           refine s_ls [_, _, _] ?_
           refine s_st [_, _, _] ?_
           refine s_sa ?_
           refine aops_nil ?_
           exact wk
        cases Option.some.inj h
        exact aw_ret ⟨rfl, rv (rn (.cons (va [_, _, _, _, _, _, _, _, _, _, _, _, _, _, _, _]) (.cons (va [_, _, _]) (.cons o1 .nil))))⟩
      refine aw_block (aw_seq (aw_region (s_mv ?_)))
      refine aops_step1 rfl (ev_index_arr rfl rfl rfl rfl rfl) (s_fd ?_)
      refine s_ld ?_
      obtain ⟨x21, hx21, j9⟩ := Md.bind_s j9
      refine aops_freeze 5 rfl (aops_step1 rfl (ev_call_v (actorgridref26_Scan_fn k x7.Data x21 hx21) rfl [] ai rfl rfl rfl (.inl rfl) rfl) (s_mt ?_))
      iterate 3 refine s_ex ?_
      iterate 3 refine s_sa ?_
      refine aops_nil (aw_seq (aw_region (s_mv ?_)))
      obtain ⟨x22, hx22, j9⟩ := Md.bind_s j9
      refine aops_step1 rfl (ev_call_v (actorgridref26_contents_fn k x21.1 x22 hx22) rfl [] ai rfl rfl rfl (.inl rfl) rfl) (s_mt ?_)
      iterate 3 refine s_ex ?_
      refine aops_step1 rfl (st_alloc (cs := [cI 0, .val (.slice none 0 0), .val (.slice none 0 0)]) 8 rfl rfl rfl rfl rfl) (s_sa ?_)
      refine s_st [_, _, _] ?_
      refine s_sa ?_
      refine aops_nil (aw_seq (aw_region ?_))
      iterate 2 refine s_mv ?_
      refine aops_mid 8 (⟨115, [], [(4, .one (.ptr 2 0)), (5, .one (.ptr 3 0)), (7, .one (.ptr 6 0)), (8, vI x8_0.1), (9, .one (.ptr 7 0)), (10, vI x8_0.2.1), (11, vI x8_0.2.2.1), (12, vI 1), (15, vI x21.2.2), (16, vI x22.1), (17, .one (.ptr 8 0)), (73, vB (x22.2.2 && ((decide (x8_0.1 < 0)) || (decide (x22.1 > x8_0.2.1)))))], [(2, some (.box [.val (.slice none 0 0), cI 0, cB false, cI 0, cI 0, cB false, .val (.slice none 0 0), cI 0, cB false, cI 0, cI 0, cB false, cI 0, cI 0, cI 0, cI 0])), (3, some (.box [cI 0, .val (.slice none 0 0), .val (.slice none 0 0)])), (6, some (.box ([CV.ls byC x8_0.2.2.2.1, cI x6.Capacity, cB x6.Armed, cI x6.Writes, cI x6.Keep, cB x6.Down] ++ c_Disk x7))), (7, some (.box (c_StoreContents x8_0.2.2.2.2))), (8, some (.box (c_StoreContents x22.2.1)))]⟩ : ASt) ?_ ?_
      · rcases Md.bool_or (x22.2.2) with q23 | q23
        · skip
          refine y_mv q23 ?_
          refine y_cm q23 ?_
          refine y_mv q23 ?_
          refine aops_mid 4 (⟨115, [], [(4, .one (.ptr 2 0)), (5, .one (.ptr 3 0)), (7, .one (.ptr 6 0)), (8, vI x8_0.1), (9, .one (.ptr 7 0)), (10, vI x8_0.2.1), (11, vI x8_0.2.2.1), (12, vI 1), (15, vI x21.2.2), (16, vI x22.1), (17, .one (.ptr 8 0)), (65, vB x22.2.2), (72, vB ((decide (x8_0.1 < 0)) || (decide (x22.1 > x8_0.2.1))))], [(2, some (.box [.val (.slice none 0 0), cI 0, cB false, cI 0, cI 0, cB false, .val (.slice none 0 0), cI 0, cB false, cI 0, cI 0, cB false, cI 0, cI 0, cI 0, cI 0])), (3, some (.box [cI 0, .val (.slice none 0 0), .val (.slice none 0 0)])), (6, some (.box ([CV.ls byC x8_0.2.2.2.1, cI x6.Capacity, cB x6.Armed, cI x6.Writes, cI x6.Keep, cB x6.Down] ++ c_Disk x7))), (7, some (.box (c_StoreContents x8_0.2.2.2.2))), (8, some (.box (c_StoreContents x22.2.1)))]⟩ : ASt) ?_ ?_
          · rcases Md.bool_or ((decide (x8_0.1 < 0))) with q24 | q24
            · skip
              iterate 3 refine np q24 ?_
              refine aops_yes rfl rfl rfl rfl q23 (st_pick_yes rfl (by first | rfl | exact q24) rfl rfl) (aops_nil ?_)
              exact wq q24
            iterate 2 refine y_mv q24 ?_
            refine y_cm q24 ?_
            refine aops_yes rfl rfl rfl rfl q23 (st_pick_no rfl (by first | rfl | exact q24) rfl rfl) (aops_nil ?_)
            exact wq q24
          change AOps _ _ _ (⟨115, [], [(4, .one (.ptr 2 0)), (5, .one (.ptr 3 0)), (7, .one (.ptr 6 0)), (8, vI x8_0.1), (9, .one (.ptr 7 0)), (10, vI x8_0.2.1), (11, vI x8_0.2.2.1), (12, vI 1), (15, vI x21.2.2), (16, vI x22.1), (17, .one (.ptr 8 0)), (65, vB x22.2.2), (72, vB ((decide (x8_0.1 < 0)) || (decide (x22.1 > x8_0.2.1))))], [(2, some (.box [.val (.slice none 0 0), cI 0, cB false, cI 0, cI 0, cB false, .val (.slice none 0 0), cI 0, cB false, cI 0, cI 0, cB false, cI 0, cI 0, cI 0, cI 0])), (3, some (.box [cI 0, .val (.slice none 0 0), .val (.slice none 0 0)])), (6, some (.box ([CV.ls byC x8_0.2.2.2.1, cI x6.Capacity, cB x6.Armed, cI x6.Writes, cI x6.Keep, cB x6.Down] ++ c_Disk x7))), (7, some (.box (c_StoreContents x8_0.2.2.2.2))), (8, some (.box (c_StoreContents x22.2.1)))]⟩ : ASt) _
          refine s_py q23 ?_
          refine aops_nil ?_
          exact wq q23
        iterate 3 refine np q23 ?_
        iterate 3 refine aops_und rfl rfl rfl rfl rfl ?_
        refine np q23 ?_
        refine s_pn q23 ?_
        refine aops_nil ?_
        exact wq q23
      refine aops_nil ?_
      refine aw_cond rfl (fun c25 => ?_) (fun c25 => ?_)
      · replace j9 := Md.cond_t j9 c25
        apply aw_draw_stores 7 [(5, [1, 4, 0], 7, (c_StoreContents x22.2.1))] ((⟨[], vI 1⟩ : Add) :: ⟨[], .agg (c_StoreContents x22.2.1)⟩ :: ⟨[], vI x22.1⟩ :: ⟨[], vI x21.2.2⟩ :: ⟨[], vI 1⟩ :: ⟨[], .one .any⟩ :: ⟨[], vI x22.1⟩ :: []) (by decide) rfl ?hk8x ?hf8x ?ho8x ?hv8x ?hr8x
        case ho8x =>
         refine ⟨.inr ⟨[], [], (by decide +kernel), (by decide +kernel), ⟨?_, .inl rfl⟩⟩, ?_⟩
         · refine .inr (.inr fun S hle hfr => ?_)
           exact .inl ⟨w0, st_move (hle.e rfl) (hle.d rfl)⟩
         refine ⟨.inr ⟨[], [], (by decide +kernel), (by decide +kernel), ⟨?_, .inl rfl⟩⟩, ?_⟩
         · refine .inr (.inr fun S hle hfr => ?_)
           exact .inl ⟨w0, ev_loads (ds := [_, _, _]) (hle.e rfl) (hle.heap _ _ rfl) rfl rfl (hle.d rfl)⟩
         refine ⟨.inr ⟨[], [], (by decide +kernel), (by decide +kernel), ⟨?_, ?_⟩⟩, ?_⟩
         · refine .inr (.inr fun S hle hfr => ?_)
           exact .inl ⟨w0, st_move (hle.e rfl) (hle.d rfl)⟩
         · refine .inr fun S hle hfr => ?_
           exact .inl ⟨w0, st_move (hle.e rfl) (hle.d rfl)⟩
         refine ⟨.inr ⟨[], [], (by decide +kernel), (by decide +kernel), ⟨?_, ?_⟩⟩, ?_⟩
         · refine .inr (.inr fun S hle hfr => ?_)
           exact .inl ⟨w0, st_move (hle.e rfl) (hle.d rfl)⟩
         · refine .inr fun S hle hfr => ?_
           exact .inl ⟨w0, st_move (hle.e rfl) (hle.d rfl)⟩
         refine ⟨.inr ⟨0 :: [], [], (by decide +kernel), (by decide +kernel), ⟨?_, .inl rfl⟩⟩, ?_⟩
         · refine .inr (.inr fun S hle hfr => ?_)
           exact .inl ⟨w0, st_assign (hle.e rfl) (hle.d rfl)⟩
         refine ⟨.inl rfl, ?_⟩
         refine ⟨.inr ⟨2 :: 5 :: 0 :: 1 :: 4 :: [], [], (by decide +kernel), (by decide +kernel), ⟨.inl rfl, ?_⟩⟩, ?_⟩
         · refine .inr fun S hle hfr => ?_
           exact .inl ⟨w0, st_assign (hle.e rfl) (hle.d rfl)⟩
         exact trivial
        case hv8x =>
         refine ⟨⟨rfl, rfl, (by decide +kernel), rfl, rfl, _, _, rfl, rfl, rfl, fun S hle => st_store (cs' := [_, _, _]) (hle.e rfl) (hle.heap _ _ rfl) (hle.e rfl) rfl rfl rfl rfl (hle.d rfl) rfl⟩, ?_⟩
         exact trivial
        case hk8x => rfl
        case hf8x => rfl
        refine s_sa ?_
        refine aops_nil ?_
        show ∃ _x : Int × Int × Int × Arr2Disk × StoreContents, _ = _ ∧ Weak _ _
        exact ⟨(1, x22.1, x21.2.2, (⟨(⟨x8_0.2.2.2.1, x6.Capacity, x6.Armed, x6.Writes, x6.Keep, x6.Down⟩ : Disk), x7⟩ : Arr2Disk), x22.2.1), Option.some.inj j9, wk⟩
      replace j9 := Md.cond_f j9 c25
      refine aw_skip ?_
      show ∃ _x : Int × Int × Int × Arr2Disk × StoreContents, _ = _ ∧ Weak _ _
      exact ⟨(x8_0.1, x8_0.2.1, x8_0.2.2.1, (⟨(⟨x8_0.2.2.2.1, x6.Capacity, x6.Armed, x6.Writes, x6.Keep, x6.Down⟩ : Disk), x7⟩ : Arr2Disk), x8_0.2.2.2.2), Option.some.inj j9, wk⟩
    refine aw_block (aw_seq (aw_region (s_mv ?_)))
    refine aops_step1 rfl (ev_index_arr rfl rfl rfl rfl rfl) (s_fd ?_)
    refine s_ld ?_
    obtain ⟨x26, hx26, j8⟩ := Md.bind_s j8
    refine aops_freeze 4 rfl (aops_step1 rfl (ev_call_v (actorgridref26_Scan_fn k x6.Data x26 hx26) rfl [] ai rfl rfl rfl (.inl rfl) rfl) (s_mt ?_))
    iterate 3 refine s_ex ?_
    iterate 3 refine s_sa ?_
    refine aops_nil (aw_seq (aw_region (s_mv ?_)))
    obtain ⟨x27, hx27, j8⟩ := Md.bind_s j8
    refine aops_step1 rfl (ev_call_v (actorgridref26_contents_fn k x26.1 x27 hx27) rfl [] ai rfl rfl rfl (.inl rfl) rfl) (s_mt ?_)
    iterate 3 refine s_ex ?_
    refine aops_step1 rfl (st_alloc (cs := [cI 0, .val (.slice none 0 0), .val (.slice none 0 0)]) 8 rfl rfl rfl rfl rfl) (s_sa ?_)
    refine s_st [_, _, _] ?_
    refine s_sa ?_
    refine aops_nil (aw_seq (aw_region ?_))
    iterate 2 refine s_mv ?_
    refine aops_mid 8 (⟨115, [], [(4, .one (.ptr 2 0)), (5, .one (.ptr 3 0)), (7, .one (.ptr 6 0)), (8, vI (-1)), (9, .one (.ptr 7 0)), (10, vI 0), (11, vI 0), (12, vI 0), (15, vI x26.2.2), (16, vI x27.1), (17, .one (.ptr 8 0)), (73, vB (x27.2.2 && true))], [(2, some (.box [.val (.slice none 0 0), cI 0, cB false, cI 0, cI 0, cB false, .val (.slice none 0 0), cI 0, cB false, cI 0, cI 0, cB false, cI 0, cI 0, cI 0, cI 0])), (3, some (.box [cI 0, .val (.slice none 0 0), .val (.slice none 0 0)])), (5, some (.row 5 1 x7.Data.length (lsEl byC x7.Data))), (6, some (.box (c_Disk x6 ++ [.own 5, cI x7.Capacity, cB x7.Armed, cI x7.Writes, cI x7.Keep, cB x7.Down]))), (7, some (.box [cI 0, .val (.slice none 0 0), .val (.slice none 0 0)])), (8, some (.box (c_StoreContents x27.2.1)))]⟩ : ASt) ?_ ?_
    · rcases Md.bool_or (x27.2.2) with q28 | q28
      · skip
        refine y_mv q28 ?_
        refine aops_yes rfl rfl rfl rfl q28 (ev_cmp (b := true) rfl rfl rfl rfl) (y_mv q28 ?_)
        iterate 3 refine aops_no rfl rfl rfl rfl rfl (by decide) ?_
        refine aops_yes rfl rfl rfl rfl q28 (st_pick_yes rfl (by first | rfl | exact rfl) rfl rfl) (s_py q28 ?_)
        refine aops_nil ?_
        exact wq q28
      iterate 3 refine np q28 ?_
      iterate 3 refine aops_und rfl rfl rfl rfl rfl ?_
      refine np q28 ?_
      refine s_pn q28 ?_
      refine aops_nil ?_
      exact wq q28
    refine aops_nil ?_
    refine aw_cond rfl (fun c29 => ?_) (fun c29 => ?_)
    · replace j8 := Md.cond_t j8 c29
      apply aw_draw_stores 7 [(5, [1, 4, 0], 7, (c_StoreContents x27.2.1))] ((⟨[], vI 0⟩ : Add) :: ⟨[], .agg (c_StoreContents x27.2.1)⟩ :: ⟨[], vI x27.1⟩ :: ⟨[], vI x26.2.2⟩ :: ⟨[], vI 0⟩ :: ⟨[], .one .any⟩ :: ⟨[], vI x27.1⟩ :: []) (by decide) rfl ?hk9x ?hf9x ?ho9x ?hv9x ?hr9x
      case ho9x =>
       refine ⟨.inr ⟨[], [], (by decide +kernel), (by decide +kernel), ⟨?_, .inl rfl⟩⟩, ?_⟩
       · refine .inr (.inr fun S hle hfr => ?_)
         exact .inl ⟨w0, st_move (hle.e rfl) (hle.d rfl)⟩
       refine ⟨.inr ⟨[], [], (by decide +kernel), (by decide +kernel), ⟨?_, .inl rfl⟩⟩, ?_⟩
       · refine .inr (.inr fun S hle hfr => ?_)
         exact .inl ⟨w0, ev_loads (ds := [_, _, _]) (hle.e rfl) (hle.heap _ _ rfl) rfl rfl (hle.d rfl)⟩
       refine ⟨.inr ⟨[], [], (by decide +kernel), (by decide +kernel), ⟨?_, ?_⟩⟩, ?_⟩
       · refine .inr (.inr fun S hle hfr => ?_)
         exact .inl ⟨w0, st_move (hle.e rfl) (hle.d rfl)⟩
       · refine .inr fun S hle hfr => ?_
         exact .inl ⟨w0, st_move (hle.e rfl) (hle.d rfl)⟩
       refine ⟨.inr ⟨[], [], (by decide +kernel), (by decide +kernel), ⟨?_, ?_⟩⟩, ?_⟩
       · refine .inr (.inr fun S hle hfr => ?_)
         exact .inl ⟨w0, st_move (hle.e rfl) (hle.d rfl)⟩
       · refine .inr fun S hle hfr => ?_
         exact .inl ⟨w0, st_move (hle.e rfl) (hle.d rfl)⟩
       refine ⟨.inr ⟨0 :: [], [], (by decide +kernel), (by decide +kernel), ⟨?_, .inl rfl⟩⟩, ?_⟩
       · refine .inr (.inr fun S hle hfr => ?_)
         exact .inl ⟨w0, st_assign (hle.e rfl) (hle.d rfl)⟩
       refine ⟨.inl rfl, ?_⟩
       refine ⟨.inr ⟨2 :: 5 :: 0 :: 1 :: 4 :: [], [], (by decide +kernel), (by decide +kernel), ⟨.inl rfl, ?_⟩⟩, ?_⟩
       · refine .inr fun S hle hfr => ?_
         exact .inl ⟨w0, st_assign (hle.e rfl) (hle.d rfl)⟩
       exact trivial
      case hv9x =>
       refine ⟨⟨rfl, rfl, (by decide +kernel), rfl, rfl, _, _, rfl, rfl, rfl, fun S hle => st_store (cs' := [_, _, _]) (hle.e rfl) (hle.heap _ _ rfl) (hle.e rfl) rfl rfl rfl rfl (hle.d rfl) rfl⟩, ?_⟩
       exact trivial
      case hk9x => rfl
      case hf9x => rfl
      refine s_sa ?_
      refine aops_nil ?_
      show ∃ _x : Int × Int × Int × (List UInt8) × StoreContents, _ = _ ∧ Weak _ _
      exact ⟨(0, x27.1, x26.2.2, x6.Data, x27.2.1), Option.some.inj j8, wk⟩
    replace j8 := Md.cond_f j8 c29
    refine aw_skip ?_
    show ∃ _x : Int × Int × Int × (List UInt8) × StoreContents, _ = _ ∧ Weak _ _
    exact ⟨((-1), 0, 0, x6.Data, (⟨0, ([] : List UInt8), ([] : List (List UInt8))⟩ : StoreContents)), Option.some.inj j8, wk⟩
  rcases Md.bool_or ((!x1)) with q2 | q2
  · replace j2 := Md.cond_t j2 q2
    iterate 3 refine np q2 ?_
    refine s_py q2 ?_
    refine aops_nil ?_
    show ∃ _x : Bool, _ = _ ∧ Weak _ _
    exact ⟨true, Option.some.inj j2, wk⟩
  replace j2 := Md.cond_f j2 q2
  refine aops_yes rfl rfl rfl rfl q2 (ev_loads (ds := [_, _, _, _, _, _]) rfl rfl rfl rfl rfl) ?_
  obtain ⟨x30, hx30, j2⟩ := Md.bind_s j2
  refine aops_yes rfl rfl rfl rfl q2 (ev_call_v (actorgridref26_ValidDisk_fn k a1 x30 hx30) rfl [] ai rfl rfl rfl (.inl rfl) rfl) (y_nt q2 ?_)
  refine s_pn q2 ?_
  refine aops_nil ?_
  show ∃ _x : Bool, _ = _ ∧ Weak _ _
  exact ⟨(!x30), Option.some.inj j2, wk⟩
set_option maxHeartbeats 2000000 in
theorem actorgridref26_NewStore_fn (k : Nat) (a0 : Int) (r : Store × Int) (h : actorgridref26_NewStore k a0 = some r) : FnC Try.prog 52 [vI a0] [] (Det (.tup [.agg (c_Store r.1), vI r.2]) []) := by
  unfold actorgridref26_NewStore at h
  refine fn_intro' 32 Try.func52 rfl rfl rfl (aw_seq (aw_region ?_))
  refine aops_step1 rfl (st_alloc (cs := [.val (.slice none 0 0), cI 0, cB false, cI 0, cI 0, cB false, .val (.slice none 0 0), cI 0, cB false, cI 0, cI 0, cB false, cI 0, cI 0, cI 0, cI 0]) 0 rfl rfl rfl rfl rfl) (s_sa ?_)
  refine aops_nil (aw_seq (aw_region (s_mv ?_)))
  obtain ⟨x1, hx1, h⟩ := Md.bind_s h
  refine aops_step1 rfl (ev_call_v (actorgridref26_NewDisk_fn k a0 x1 hx1) rfl [] ai rfl rfl rfl (.inl rfl) rfl) (s_mt ?_)
  iterate 2 refine s_ex ?_
  refine aops_step1 rfl (st_alloc (cs := [.val (.slice none 0 0), cI 0, cB false, cI 0, cI 0, cB false]) 1 rfl rfl rfl rfl rfl) (s_st [_, _, _, _, _, _] ?_)
  refine s_sa ?_
  refine aops_nil (aw_seq (aw_seq (aw_region (s_mv ?_))))
  refine s_cm ?_
  refine aops_nil ?_
  refine aw_cond rfl (fun c2 => ?_) (fun c2 => ?_)
  · replace h := Md.cond_t h c2
    refine aw_seq (aw_region (aops_step1 rfl (ev_build' (out := [_, _, _, _, _, _, _, _, _, _, _, _, _, _, _, _]) rfl rfl rfl rfl rfl) (s_mv ?_)))
    refine s_st [_, _, _, _, _, _, _, _, _, _, _, _, _, _, _, _] ?_
    refine s_sa ?_
    refine aops_nil ?_
    cases Option.some.inj h
    exact aw_ret ⟨rfl, rv (rn (.cons (va [_, _, _, _, _, _, _, _, _, _, _, _, _, _, _, _]) (.cons o1 .nil)))⟩
  replace h := Md.cond_f h c2
  refine aw_skip ?_
  obtain ⟨x3, hx3, h⟩ := Md.bind_s h
  obtain ⟨x4, hx4, h⟩ := Md.bind_s h
  refine aw_seq_mid (⟨32, [], [(2, .one (.ptr 0 0)), (4, .one (.ptr 1 0)), (5, vI x4.2), (6, .one (.ptr 2 0))], [(0, some (.box [.val (.slice none 0 0), cI 0, cB false, cI 0, cI 0, cB false, .val (.slice none 0 0), cI 0, cB false, cI 0, cI 0, cB false, cI 0, cI 0, cI 0, cI 0])), (1, some (.box (c_Disk x1.1))), (2, some (.box (c_Disk x4.1)))]⟩ : ASt) ?_ ?_
  ·
    apply aw_late 8 6 ((⟨[], .agg (c_Disk x1.1)⟩ : Add) :: ⟨[], .one (CV.ls byC x3)⟩ :: ⟨[], .agg [cI 1, CV.ls byC x3]⟩ :: ⟨[], .tup [.agg (c_Disk x4.1), vI x4.2]⟩ :: ⟨[], .tup [.agg (c_Disk x4.1), vI x4.2]⟩ :: ⟨[], .agg (c_Disk x4.1)⟩ :: ⟨[], vI x4.2⟩ :: ⟨[(2, some (.box [.val (.slice none 0 0), cI 0, cB false, cI 0, cI 0, cB false]))], .one (.ptr 2 _)⟩ :: []) (by decide) (by decide) rfl rfl rfl ?hk1x ?hf1x ?ho1x ?hr1x ?hl1x
    case ho1x =>
     refine ob [] (fun S hle hfr => .inl ⟨w0, ev_loads (ds := [_, _, _, _, _, _]) (hle.e rfl) (hle.heap _ _ rfl) rfl rfl (hle.d rfl)⟩) ?_
     refine ob [] (fun S hle hfr => .inl ⟨w0, st_call_z (actorgridref26_HeaderBody_fn k 0 0 ([] : List UInt8) x3 hx3) (map_ev (.cons (hle.e rfl) (.cons (hle.e rfl) (.cons (hle.e rfl) (.nil))))) [] (fun _ => (by repeat' (first | exact .nil | refine .cons ?_ ?_ | refine .one ?_ | refine .agg ?_ | exact .mk rfl | exact .lend (hle.heap _ _ rfl) (by simp) | exact .le (.nil _) rfl | exact .le (.emp _) rfl | exact .le (.any _) rfl | fail))) rfl (.inl rfl) (hle.d rfl)⟩) ?_
     refine ob [1] (fun S hle hfr => .inl ⟨w0, ev_build' (out := [_, _]) (map_ev2 (.cons (hle.e rfl) (.cons (hle.e rfl) (.nil)))) rfl rfl rfl (hle.d rfl)⟩) ?_
     refine ob [0, 2, 1] (fun S hle hfr => .inl ⟨w0, ev_call_v (actorgridref26_AppendRecord_fn k x1.1 (⟨1, x3⟩ : JournalRecord) x4 hx4) (map_ev (.cons (hle.e rfl) (.cons (hle.e rfl) (.nil)))) [] (by repeat' (first | exact .nil | refine .cons ?_ ?_ | refine .one ?_ | refine .agg ?_ | exact .mk rfl | exact .lend (hle.heap _ _ rfl) (by simp) | exact .le (.nil _) rfl | exact .le (.emp _) rfl | exact .le (.any _) rfl | fail)) rfl rfl rfl (.inl rfl) (hle.d rfl)⟩) ?_
     refine ob [3, 0, 2, 1] (fun S hle hfr => .inl ⟨w0, st_movet (hle.e rfl) (hle.d rfl)⟩) ?_
     refine ob [4, 3, 0, 2, 1] (fun S hle hfr => .inl ⟨w0, ev_extract (hle.e rfl) rfl (hle.d rfl)⟩) ?_
     refine ob [4, 3, 0, 2, 1] (fun S hle hfr => .inl ⟨w0, ev_extract (hle.e rfl) rfl (hle.d rfl)⟩) ?_
     refine ob [] (fun S hle hfr => .inl ⟨w0, st_alloc (cs := [.val (.slice none 0 0), cI 0, cB false, cI 0, cI 0, cB false]) 2 (hfr _ (List.mem_singleton.2 rfl)) rfl rfl rfl (hle.d rfl)⟩) ?_
     exact trivial
    case hk1x => rfl
    case hf1x => rfl
    case hr1x =>
     refine s_st [_, _, _, _, _, _] ?_
     refine s_sa ?_
     refine aops_nil ?_
     exact wk
    case hl1x =>
     refine s_st [_, _, _, _, _, _] ?_
     refine s_ex ?_
     refine s_sa ?_
     refine aops_nil ?_
     exact wk
  refine aw_seq (aw_seq (aw_region (s_mv ?_)))
  refine s_cm ?_
  refine aops_nil ?_
  refine aw_cond rfl (fun c5 => ?_) (fun c5 => ?_)
  · replace h := Md.cond_t h c5
    refine aw_seq (aw_region (aops_step1 rfl (ev_build' (out := [_, _, _, _, _, _, _, _, _, _, _, _, _, _, _, _]) rfl rfl rfl rfl rfl) (s_mv ?_)))
    refine s_st [_, _, _, _, _, _, _, _, _, _, _, _, _, _, _, _] ?_
    refine s_sa ?_
    refine aops_nil ?_
    cases Option.some.inj h
    exact aw_ret ⟨rfl, rv (rn (.cons (va [_, _, _, _, _, _, _, _, _, _, _, _, _, _, _, _]) (.cons o1 .nil)))⟩
  replace h := Md.cond_f h c5
  refine aw_skip ?_
  obtain ⟨x6, hx6, h⟩ := Md.bind_s h
  refine aw_seq ?_
  apply aw_draw 3 ((⟨[], .agg (c_Disk x4.1)⟩ : Add) :: ⟨[], .agg (c_Disk x1.1)⟩ :: ⟨[(3, some (.row 5 1 x6.Data.length (lsEl byC x6.Data)))], .agg [.own 3, cI x6.Capacity, cB x6.Armed, cI x6.Writes, cI x6.Keep, cB x6.Down]⟩ :: []) (by decide) rfl ?hk2x ?hf2x ?ho2x ?hr2x
  case ho2x =>
   refine ob [] (fun S hle hfr => .inl ⟨w0, ev_loads (ds := [_, _, _, _, _, _]) (hle.e rfl) (hle.heap _ _ rfl) rfl rfl (hle.d rfl)⟩) ?_
   refine ob [] (fun S hle hfr => .inl ⟨w0, ev_loads (ds := [_, _, _, _, _, _]) (hle.e rfl) (hle.heap _ _ rfl) rfl rfl (hle.d rfl)⟩) ?_
   refine ob [1] (fun S hle hfr => .inl ⟨w0, st_call_r (r' := .agg [.own 3, cI x6.Capacity, cB x6.Armed, cI x6.Writes, cI x6.Keep, cB x6.Down]) 3 (hfr _ (List.mem_singleton.2 rfl)) (actorgridref26_copyDisk_fn k x1.1 x6 hx6) (map_ev (.cons (hle.e rfl) (.nil))) [] (by repeat' (first | exact .nil | refine .cons ?_ ?_ | refine .one ?_ | refine .agg ?_ | exact .mk rfl | exact .lend (hle.heap _ _ rfl) (by simp) | exact .le (.nil _) rfl | exact .le (.emp _) rfl | exact .le (.any _) rfl | fail)) rfl rfl rfl (.inl rfl) (hle.d rfl) rfl⟩) ?_
   exact trivial
  case hk2x => rfl
  case hf2x => rfl
  refine aops_step1 rfl (ev_build_arr' (out := [_, _, _, _, _, _, _, _, _, _, _, _]) rfl rfl rfl rfl rfl) ?_
  refine aops_step1 rfl (ev_build' (out := [_, _, _, _, _, _, _, _, _, _, _, _, _, _, _, _]) rfl rfl rfl rfl rfl) (s_st [_, _, _, _, _, _, _, _, _, _, _, _, _, _, _, _] ?_)
  refine s_sa ?_
  refine aops_nil ?_
  cases Option.some.inj h
  refine aw_freeze 3 rfl ?_
  exact aw_ret ⟨rfl, rv (rn (.cons (va [_, _, _, _, _, _, _, _, _, _, _, _, _, _, _, _]) (.cons o1 .nil)))⟩
set_option maxHeartbeats 2000000 in
theorem actorgridref26_SameStore_fn (k : Nat) (a0 : Store) (a1 : Store) (r : Bool) (h : actorgridref26_SameStore k a0 a1 = some r) : FnC Try.prog 75 [.agg (c_Store a0), .agg (c_Store a1)] [] (Det (vB r) []) := by
  unfold actorgridref26_SameStore at h
  refine fn_intro' 49 Try.func75 rfl rfl rfl (aw_seq (aw_region (aops_step1 rfl (st_box 0 rfl rfl rfl rfl) (aops_step1 rfl (st_box 1 rfl rfl rfl rfl) (s_sa ?_)))))
  refine aops_nil (aw_seq (aw_region (s_fd ?_)))
  refine aops_step1 rfl (ev_index_arr rfl rfl rfl rfl rfl) (s_ls [_, _, _, _, _, _] ?_)
  refine s_fd ?_
  refine aops_step1 rfl (ev_index_arr rfl rfl rfl rfl rfl) (s_ls [_, _, _, _, _, _] ?_)
  obtain ⟨x1, hx1, h⟩ := Md.bind_s h
  refine aops_step1 rfl (ev_call_v (actorgridref26_SameDisk_fn k a0.Disks.x0 a1.Disks.x0 x1 hx1) rfl [] ai rfl rfl rfl (.inl rfl) rfl) (s_mv ?_)
  obtain ⟨o2, j2, h⟩ := Md.bind_s h
  refine aops_cut 8 (ε := Bool) (fun x2 => (⟨49, [], [(2, .one (.ptr 0 0)), (3, .one (.ptr 1 0)), (4, vB false), (20, vB x2)], [(0, some (.box (c_Store a0))), (1, some (.box (c_Store a1)))]⟩ : ASt)) (fun x2 => x2 = o2) ?_ ?_
  · intro x2 hI2
    subst hI2
    change AOps _ _ _ (⟨49, [], [(2, .one (.ptr 0 0)), (3, .one (.ptr 1 0)), (4, vB false), (20, vB x2)], [(0, some (.box (c_Store a0))), (1, some (.box (c_Store a1)))]⟩ : ASt) _
    refine s_mv ?_
    refine aops_mid 6 (⟨49, [], [(2, .one (.ptr 0 0)), (3, .one (.ptr 1 0)), (4, vB false), (27, vB (x2 && (a0.Current == a1.Current)))], [(0, some (.box (c_Store a0))), (1, some (.box (c_Store a1)))]⟩ : ASt) ?_ ?_
    · rcases Md.bool_or (x2) with q3 | q3
      · skip
        refine y_fd q3 ?_
        refine y_ld q3 ?_
        refine y_fd q3 ?_
        refine y_ld q3 ?_
        refine y_cm q3 ?_
        refine s_py q3 ?_
        refine aops_nil ?_
        exact wq q3
      iterate 5 refine np q3 ?_
      refine s_pn q3 ?_
      refine aops_nil ?_
      exact wq q3
    refine s_mv ?_
    refine aops_mid 6 (⟨49, [], [(2, .one (.ptr 0 0)), (3, .one (.ptr 1 0)), (4, vB false), (34, vB ((x2 && (a0.Current == a1.Current)) && (a0.Number == a1.Number)))], [(0, some (.box (c_Store a0))), (1, some (.box (c_Store a1)))]⟩ : ASt) ?_ ?_
    · rcases Md.bool_or ((x2 && (a0.Current == a1.Current))) with q4 | q4
      · skip
        refine y_fd q4 ?_
        refine y_ld q4 ?_
        refine y_fd q4 ?_
        refine y_ld q4 ?_
        refine y_cm q4 ?_
        refine s_py q4 ?_
        refine aops_nil ?_
        exact wq q4
      iterate 5 refine np q4 ?_
      refine s_pn q4 ?_
      refine aops_nil ?_
      exact wq q4
    refine s_mv ?_
    refine aops_mid 6 (⟨49, [], [(2, .one (.ptr 0 0)), (3, .one (.ptr 1 0)), (4, vB false), (41, vB (((x2 && (a0.Current == a1.Current)) && (a0.Number == a1.Number)) && (a0.Base == a1.Base)))], [(0, some (.box (c_Store a0))), (1, some (.box (c_Store a1)))]⟩ : ASt) ?_ ?_
    · rcases Md.bool_or (((x2 && (a0.Current == a1.Current)) && (a0.Number == a1.Number))) with q5 | q5
      · skip
        refine y_fd q5 ?_
        refine y_ld q5 ?_
        refine y_fd q5 ?_
        refine y_ld q5 ?_
        refine y_cm q5 ?_
        refine s_py q5 ?_
        refine aops_nil ?_
        exact wq q5
      iterate 5 refine np q5 ?_
      refine s_pn q5 ?_
      refine aops_nil ?_
      exact wq q5
    refine s_mv ?_
    refine aops_mid 6 (⟨49, [], [(4, vB false), (48, vB ((((x2 && (a0.Current == a1.Current)) && (a0.Number == a1.Number)) && (a0.Base == a1.Base)) && (a0.Count == a1.Count)))], []⟩ : ASt) ?_ ?_
    · rcases Md.bool_or ((((x2 && (a0.Current == a1.Current)) && (a0.Number == a1.Number)) && (a0.Base == a1.Base))) with q6 | q6
      · skip
        refine y_fd q6 ?_
        refine y_ld q6 ?_
        refine y_fd q6 ?_
        refine y_ld q6 ?_
        refine y_cm q6 ?_
        refine s_py q6 ?_
        refine aops_nil ?_
        exact wq q6
      iterate 5 refine np q6 ?_
      refine s_pn q6 ?_
      refine aops_nil ?_
      exact wq q6
    refine s_sa ?_
    refine aops_nil ?_
    cases Option.some.inj h
    exact aw_ret ⟨rfl, rv r1⟩
  rcases Md.bool_or (x1) with q2 | q2
  · replace j2 := Md.cond_t j2 q2
    refine y_fd q2 ?_
    refine aops_yes rfl rfl rfl rfl q2 (ev_index_arr rfl rfl rfl rfl rfl) (aops_yes rfl rfl rfl rfl q2 (ev_loads (ds := [_, _, _, _, _, _]) rfl rfl rfl rfl rfl) (y_fd q2 ?_))
    refine aops_yes rfl rfl rfl rfl q2 (ev_index_arr rfl rfl rfl rfl rfl) (aops_yes rfl rfl rfl rfl q2 (ev_loads (ds := [_, _, _, _, _, _]) rfl rfl rfl rfl rfl) ?_)
    obtain ⟨x7, hx7, j2⟩ := Md.bind_s j2
    refine aops_yes rfl rfl rfl rfl q2 (ev_call_v (actorgridref26_SameDisk_fn k a0.Disks.x1 a1.Disks.x1 x7 hx7) rfl [] ai rfl rfl rfl (.inl rfl) rfl) (s_py q2 ?_)
    refine aops_nil ?_
    show ∃ _x : Bool, _ = _ ∧ Weak _ _
    exact ⟨x7, Option.some.inj j2, wk⟩
  replace j2 := Md.cond_f j2 q2
  iterate 7 refine np q2 ?_
  refine s_pn q2 ?_
  refine aops_nil ?_
  show ∃ _x : Bool, _ = _ ∧ Weak _ _
  exact ⟨false, Option.some.inj j2, wk⟩
set_option maxHeartbeats 2000000 in
theorem actorgridlaw28_same_fn (k : Nat) (a0 : Store) (a1 : Int) (a2 : Store) (a3 : Int) (r : Bool) (h : actorgridlaw28_same k a0 a1 a2 a3 = some r) : FnC Try.prog 53 [.agg (c_Store a0), vI a1, .agg (c_Store a2), vI a3] [] (Det (vB r) []) := by
  unfold actorgridlaw28_same at h
  refine fn_intro' 17 Try.func53 rfl rfl rfl (aw_seq (aw_region (aops_step1 rfl (st_box 0 rfl rfl rfl rfl) (aops_step1 rfl (st_box 1 rfl rfl rfl rfl) (s_sa ?_)))))
  refine aops_nil (aw_seq (aw_region ?_))
  iterate 2 refine s_mv ?_
  refine s_cm ?_
  refine s_mv ?_
  obtain ⟨o1, j1, h⟩ := Md.bind_s h
  refine aops_cut 4 (ε := Bool) (fun x1 => (⟨17, [], [(8, vB false), (16, vB x1)], []⟩ : ASt)) (fun x1 => x1 = o1) ?_ ?_
  · intro x1 hI1
    subst hI1
    change AOps _ _ _ (⟨17, [], [(8, vB false), (16, vB x1)], []⟩ : ASt) _
    refine s_sa ?_
    refine aops_nil ?_
    cases Option.some.inj h
    exact aw_ret ⟨rfl, rv r1⟩
  rcases Md.bool_or ((a1 == a3)) with q1 | q1
  · replace j1 := Md.cond_t j1 q1
    refine aops_yes rfl rfl rfl rfl q1 (ev_loads (ds := [_, _, _, _, _, _, _, _, _, _, _, _, _, _, _, _]) rfl rfl rfl rfl rfl) ?_
    refine aops_yes rfl rfl rfl rfl q1 (ev_loads (ds := [_, _, _, _, _, _, _, _, _, _, _, _, _, _, _, _]) rfl rfl rfl rfl rfl) ?_
    obtain ⟨x2, hx2, j1⟩ := Md.bind_s j1
    refine aops_yes rfl rfl rfl rfl q1 (ev_call_v (actorgridref26_SameStore_fn k a0 a2 x2 hx2) rfl [] ai rfl rfl rfl (.inl rfl) rfl) (s_py q1 ?_)
    refine aops_nil ?_
    show ∃ _x : Bool, _ = _ ∧ Weak _ _
    exact ⟨x2, Option.some.inj j1, wk⟩
  replace j1 := Md.cond_f j1 q1
  iterate 3 refine np q1 ?_
  refine s_pn q1 ?_
  refine aops_nil ?_
  show ∃ _x : Bool, _ = _ ∧ Weak _ _
  exact ⟨false, Option.some.inj j1, wk⟩
set_option maxHeartbeats 2000000 in
theorem actorgridref26_SameContents_fn (k : Nat) (a0 : StoreContents) (a1 : StoreContents) (r : Bool) (h : actorgridref26_SameContents k a0 a1 = some r) : FnC Try.prog 54 [.agg (c_StoreContents a0), .agg (c_StoreContents a1)] [] (Det (vB r) []) := by
  unfold actorgridref26_SameContents at h
  refine fn_intro' 49 Try.func54 rfl rfl rfl (aw_seq (aw_region (aops_step1 rfl (st_box 0 rfl rfl rfl rfl) (aops_step1 rfl (st_box 1 rfl rfl rfl rfl) (s_sa ?_)))))
  refine aops_nil (aw_seq (aw_seq (aw_region (s_fd ?_))))
  refine s_ld ?_
  refine s_fd ?_
  refine s_ld ?_
  refine s_cm ?_
  refine s_mv ?_
  refine aops_mid 8 (⟨49, [], [(2, .one (.ptr 0 0)), (3, .one (.ptr 1 0)), (19, vB ((a0.Base != a1.Base) || (!(decide (a0.State = a1.State)))))], [(0, some (.box (c_StoreContents a0))), (1, some (.box (c_StoreContents a1)))]⟩ : ASt) ?_ ?_
  · rcases Md.bool_or ((a0.Base != a1.Base)) with q1 | q1
    · skip
      iterate 7 refine np q1 ?_
      refine s_py q1 ?_
      refine aops_nil ?_
      exact wq q1
    refine y_fd q1 ?_
    refine y_ld q1 ?_
    refine aops_yes rfl rfl rfl rfl q1 (ev_str_bytes (.inl rfl) Try.underlying24 Try.underlying5 Try.underlying9 rfl) (y_fd q1 ?_)
    refine y_ld q1 ?_
    refine aops_yes rfl rfl rfl rfl q1 (ev_str_bytes (.inl rfl) Try.underlying24 Try.underlying5 Try.underlying9 rfl) ?_
    refine aops_yes rfl rfl rfl rfl q1 (st_str_ne rfl rfl rfl) (s_pn q1 ?_)
    refine aops_nil ?_
    exact wq q1
  refine s_mv ?_
  refine aops_mid 8 (⟨49, [], [(2, .one (.ptr 0 0)), (3, .one (.ptr 1 0)), (28, vB (((a0.Base != a1.Base) || (!(decide (a0.State = a1.State)))) || (((a0.Entries.length : Nat) : Int) != ((a1.Entries.length : Nat) : Int))))], [(0, some (.box (c_StoreContents a0))), (1, some (.box (c_StoreContents a1)))]⟩ : ASt) ?_ ?_
  · rcases Md.bool_or (((a0.Base != a1.Base) || (!(decide (a0.State = a1.State))))) with q2 | q2
    · skip
      iterate 7 refine np q2 ?_
      refine s_py q2 ?_
      refine aops_nil ?_
      exact wq q2
    refine y_fd q2 ?_
    refine y_ld q2 ?_
    refine y_ln q2 ?_
    refine y_fd q2 ?_
    refine y_ld q2 ?_
    refine y_ln q2 ?_
    refine y_cm q2 ?_
    refine s_pn q2 ?_
    refine aops_nil ?_
    exact wq q2
  refine aops_nil ?_
  refine aw_cond rfl (fun c3 => ?_) (fun c3 => ?_)
  · replace h := Md.cond_t h c3
    refine aw_seq (aw_region (s_sa ?_))
    refine aops_nil ?_
    cases Option.some.inj h
    exact aw_ret ⟨rfl, rv r1⟩
  replace h := Md.cond_f h c3
  refine aw_skip (aw_seq (aw_seq (aw_region (s_sa ?_))))
  refine aops_nil (aw_block ?_)
  obtain ⟨o4, ho4, h⟩ := Md.bind_s h
  refine aw_loop_x (ι := {p : Nat × Nat // actorgridref26_SameContents_loop1 k a0 a1 p.1 p.2 = some o4}) (fun p => (⟨49, [], [(2, .one (.ptr 0 0)), (3, .one (.ptr 1 0)), (5, vI ((p.1.2 : Nat) : Int))], [(0, some (.box (c_StoreContents a0))), (1, some (.box (c_StoreContents a1)))]⟩ : ASt)) (fun p => p.1.1) ⟨(k, 0), ho4⟩ wk 0 (ε := Unit) (fun x => (⟨49, [], [], []⟩ : ASt)) (fun x => Sum.inl x = o4) (fun _ _ w h => aw_weak w h) ?_ ?_
  · intro x4_0 hI4
    subst hI4
    replace h := Md.onS_l h
    change AW _ _ (⟨49, [], [], []⟩ : ASt) _
    refine aw_seq (aw_region (s_sa ?_))
    refine aops_nil ?_
    cases Option.some.inj h
    exact aw_ret ⟨rfl, rv r1⟩
  intro p4
  obtain ⟨⟨n4, s4_0⟩, l4⟩ := p4
  change AW _ _ (⟨49, [], [(2, .one (.ptr 0 0)), (3, .one (.ptr 1 0)), (5, vI ((s4_0 : Nat) : Int))], [(0, some (.box (c_StoreContents a0))), (1, some (.box (c_StoreContents a1)))]⟩ : ASt) _
  replace l4 : actorgridref26_SameContents_loop1 k a0 a1 n4 s4_0 = some o4 := l4
  rcases n4 with _ | n4
  · exact absurd (show none = some o4 from l4) nofun
  rw [actorgridref26_SameContents_loop1] at l4
  refine aw_seq (aw_seq (aw_region (s_mv ?_)))
  refine s_fd ?_
  refine s_ld ?_
  refine s_ln ?_
  refine s_cm ?_
  refine aops_nil ?_
  refine aw_cond rfl (fun c5 => ?_) (fun c5 => ?_)
  · replace l4 := Md.cond_t l4 c5
    refine aw_skip (aw_seq (aw_block ?_))
    obtain ⟨g6, l4⟩ := Md.ifp_s l4
    obtain ⟨g7, l4⟩ := Md.ifp_s l4
    refine aw_seq ?_
    apply aw_draw 12 ((⟨[], .one (.ptr 0 _)⟩ : Add) :: ⟨[], .one (CV.ls c_LU8 a0.Entries)⟩ :: ⟨[], vI ((s4_0 : Nat) : Int)⟩ :: ⟨[], .one (.cptr _)⟩ :: ⟨[], .one (CV.ls byC (a0.Entries.getD s4_0 default))⟩ :: ⟨[], .one (.val (Sv (a0.Entries.getD s4_0 default)))⟩ :: ⟨[], .one (.ptr 1 _)⟩ :: ⟨[], .one (CV.ls c_LU8 a1.Entries)⟩ :: ⟨[], vI ((s4_0 : Nat) : Int)⟩ :: ⟨[], .one (.cptr _)⟩ :: ⟨[], .one (CV.ls byC (a1.Entries.getD s4_0 default))⟩ :: ⟨[], .one (.val (Sv (a1.Entries.getD s4_0 default)))⟩ :: []) (by decide) rfl ?hk6x ?hf6x ?ho6x ?hr6x
    case ho6x =>
     refine ob [] (fun S hle hfr => .inl ⟨w0, ev_field (hle.e rfl) rfl (hle.d rfl)⟩) ?_
     refine ob [0] (fun S hle hfr => .inl ⟨w0, ev_load (hle.e rfl) (hle.heap _ _ rfl) rfl (hle.d rfl)⟩) ?_
     refine ob [] (fun S hle hfr => .inl ⟨w0, st_move (hle.e rfl) (hle.d rfl)⟩) ?_
     refine ob [1, 2, 0] (fun S hle hfr => .inl ⟨w0, ev_index_in (hle.e rfl) (hle.e rfl) rfl g6 rfl (hle.d rfl)⟩) ?_
     refine ob [3, 1, 2, 0] (fun S hle hfr => .inl ⟨w0, ev_load_in (hle.e rfl) rfl (hle.d rfl)⟩) ?_
     refine ob [4, 3, 1, 2, 0] (fun S hle hfr => .inl ⟨w0, ev_str_bytes (.inl (hle.e rfl)) Try.underlying24 Try.underlying5 Try.underlying9 (hle.d rfl)⟩) ?_
     refine ob [] (fun S hle hfr => .inl ⟨w0, ev_field (hle.e rfl) rfl (hle.d rfl)⟩) ?_
     refine ob [6] (fun S hle hfr => .inl ⟨w0, ev_load (hle.e rfl) (hle.heap _ _ rfl) rfl (hle.d rfl)⟩) ?_
     refine ob [] (fun S hle hfr => .inl ⟨w0, st_move (hle.e rfl) (hle.d rfl)⟩) ?_
     refine ob [7, 8, 6] (fun S hle hfr => .inl ⟨w0, ev_index_in (hle.e rfl) (hle.e rfl) rfl g7 rfl (hle.d rfl)⟩) ?_
     refine ob [9, 7, 8, 6] (fun S hle hfr => .inl ⟨w0, ev_load_in (hle.e rfl) rfl (hle.d rfl)⟩) ?_
     refine ob [10, 9, 7, 8, 6] (fun S hle hfr => .inl ⟨w0, ev_str_bytes (.inl (hle.e rfl)) Try.underlying24 Try.underlying5 Try.underlying9 (hle.d rfl)⟩) ?_
     exact trivial
    case hk6x => rfl
    case hf6x => rfl
    refine aops_step1 rfl (st_str_ne rfl rfl rfl) (aops_nil ?_)
    refine aw_cond rfl (fun c8 => ?_) (fun c8 => ?_)
    · replace l4 := Md.cond_t l4 c8
      refine aw_seq (aw_region (s_sa ?_))
      refine aops_nil ?_
      cases Option.some.inj l4
      replace h := Md.onS_r h
      cases Option.some.inj h
      exact aw_ret ⟨rfl, rv r1⟩
    replace l4 := Md.cond_f l4 c8
    refine aw_skip (aw_region (s_mv ?_))
    obtain ⟨g9, l4⟩ := Md.ifp_s l4
    refine aops_step1 rfl (ev_add rfl rfl rfl (Md.nat_add g9)) (s_sa ?_)
    refine aops_nil ?_
    exact ⟨⟨(n4, (s4_0 + 1)), l4⟩, Nat.lt_succ_self _, wk⟩
  replace l4 := Md.cond_f l4 c5
  refine aw_exit ?_
  show ∃ _x : Unit, _ = _ ∧ Weak _ _
  exact ⟨(), Option.some.inj l4, wk⟩
end Md
end Go.Proofs.Ytkcfkcgclljncaa
