/-
  StorK: where a function's model gives a value, the function returns what reads as it (printed by wip/tools/auto.py). Condition of each: the model gives a value.
-/
import Derived.Test.YtkcfkcgclljncaaStorKM
import Derived.Test.YtkcfkcgclljncaaTy
import Derived.Test.YtkcfkcgclljncaaAbsS
import Derived.Test.YtkcfkcgclljncaaStorC
namespace Go.Proofs.Ytkcfkcgclljncaa
open Go.ChangeShapes Go.WideShapes Go.RowKit
open Abs
set_option linter.unusedVariables false
set_option linter.unusedSimpArgs false
set_option maxRecDepth 10000
namespace Md
set_option maxHeartbeats 2000000 in
theorem actorgridlaw28_awake_fn (k : Nat) (r : Bool) (h : actorgridlaw28_awake k = some r) : FnC Try.prog 44 [] [] (Det (vB r) []) := by
  unfold actorgridlaw28_awake at h
  refine fn_intro' 81 Try.func44 rfl rfl rfl (aw_seq (aw_region (s_sa ?_)))
  refine aops_nil (aw_seq (aw_region ?_))
  obtain ⟨x1, hx1, h⟩ := Md.bind_s h
  refine aops_step1 rfl (ev_call_v (store_New_fn k 1000 x1 hx1) rfl [] ai rfl rfl rfl (.inl rfl) rfl) (s_mt ?_)
  iterate 2 refine s_ex ?_
  refine aops_step1 rfl (st_alloc (cs := [.val (.slice none 0 0), cI 0, cB false, cI 0, cI 0, cB false, .val (.slice none 0 0), cI 0, cB false, cI 0, cI 0, cB false, cI 0, cI 0, cI 0, cI 0]) 0 rfl rfl rfl rfl rfl) (s_st [_, _, _, _, _, _, _, _, _, _, _, _, _, _, _, _] ?_)
  refine s_sa ?_
  refine aops_nil (aw_seq (aw_seq (aw_region (s_mv ?_))))
  refine s_cm ?_
  refine aops_nil ?_
  refine aw_cond rfl (fun c2 => ?_) (fun c2 => ?_)
  · replace h := Md.cond_t h c2
    refine aw_seq (aw_region (s_sa ?_))
    refine aops_nil ?_
    cases Option.some.inj h
    exact aw_ret ⟨rfl, rv r1⟩
  replace h := Md.cond_f h c2
  refine aw_skip (aw_seq (aw_region (s_ls [_, _, _, _, _, _, _, _, _, _, _, _, _, _, _, _] ?_)))
  refine aops_step1 rfl (st_slice_lit (el := lsEl byC [(97 : UInt8)]) 1 rfl rfl rfl rfl rfl rfl rfl rfl (lit_el byC 1 [(97 : UInt8)] (fun _ => rfl)) rfl) ?_
  refine aops_step1 rfl (st_conv_own rfl rfl (by decide) Try.underlying24 Try.underlying5 rfl) ?_
  obtain ⟨x3, hx3, h⟩ := Md.bind_s h
  refine aops_step1 rfl (ev_call_v (store_Put_fn k x1.1 [(97 : UInt8)] x3 hx3) rfl [] ai rfl rfl rfl (.inl rfl) rfl) (s_mt ?_)
  iterate 2 refine s_ex ?_
  refine s_st [_, _, _, _, _, _, _, _, _, _, _, _, _, _, _, _] ?_
  refine s_sa ?_
  refine aops_nil (aw_seq (aw_seq (aw_region (s_mv ?_))))
  refine s_cm ?_
  refine aops_nil ?_
  refine aw_cond rfl (fun c4 => ?_) (fun c4 => ?_)
  · replace h := Md.cond_t h c4
    refine aw_seq (aw_region (s_sa ?_))
    refine aops_nil ?_
    cases Option.some.inj h
    exact aw_ret ⟨rfl, rv r1⟩
  replace h := Md.cond_f h c4
  refine aw_skip (aw_seq (aw_region (s_ls [_, _, _, _, _, _, _, _, _, _, _, _, _, _, _, _] ?_)))
  refine aops_step1 rfl (st_slice_lit (el := lsEl byC [(83 : UInt8)]) 2 rfl rfl rfl rfl rfl rfl rfl rfl (lit_el byC 1 [(83 : UInt8)] (fun _ => rfl)) rfl) ?_
  refine aops_step1 rfl (st_conv_own rfl rfl (by decide) Try.underlying24 Try.underlying5 rfl) ?_
  obtain ⟨x5, hx5, h⟩ := Md.bind_s h
  refine aops_step1 rfl (ev_call_v (store_Checkpoint_fn k x3.1 [(83 : UInt8)] x5 hx5) rfl [] ai rfl rfl rfl (.inl rfl) rfl) (s_mt ?_)
  iterate 2 refine s_ex ?_
  refine s_st [_, _, _, _, _, _, _, _, _, _, _, _, _, _, _, _] ?_
  refine s_sa ?_
  refine aops_nil (aw_seq (aw_seq (aw_region (s_mv ?_))))
  refine s_cm ?_
  refine aops_nil ?_
  refine aw_cond rfl (fun c6 => ?_) (fun c6 => ?_)
  · replace h := Md.cond_t h c6
    refine aw_seq (aw_region (s_sa ?_))
    refine aops_nil ?_
    cases Option.some.inj h
    exact aw_ret ⟨rfl, rv r1⟩
  replace h := Md.cond_f h c6
  refine aw_skip (aw_seq (aw_region (s_ls [_, _, _, _, _, _, _, _, _, _, _, _, _, _, _, _] ?_)))
  refine aops_step1 rfl (st_slice_lit (el := lsEl byC [(98 : UInt8)]) 3 rfl rfl rfl rfl rfl rfl rfl rfl (lit_el byC 1 [(98 : UInt8)] (fun _ => rfl)) rfl) ?_
  refine aops_step1 rfl (st_conv_own rfl rfl (by decide) Try.underlying24 Try.underlying5 rfl) ?_
  obtain ⟨x7, hx7, h⟩ := Md.bind_s h
  refine aops_step1 rfl (ev_call_v (store_Put_fn k x5.1 [(98 : UInt8)] x7 hx7) rfl [] ai rfl rfl rfl (.inl rfl) rfl) (s_mt ?_)
  iterate 2 refine s_ex ?_
  refine s_st [_, _, _, _, _, _, _, _, _, _, _, _, _, _, _, _] ?_
  refine s_sa ?_
  refine aops_nil (aw_seq (aw_seq (aw_region (s_mv ?_))))
  refine s_cm ?_
  refine s_mv ?_
  obtain ⟨o8, j8, h⟩ := Md.bind_s h
  refine aops_cut 4 (ε := Bool) (fun x8 => (⟨81, [], [(1, .one (.ptr 0 0)), (42, vB x8)], [(0, some (.box (c_Store x7.1)))]⟩ : ASt)) (fun x8 => x8 = o8) ?_ ?_
  · intro x8 hI8
    subst hI8
    change AOps _ _ _ (⟨81, [], [(1, .one (.ptr 0 0)), (42, vB x8)], [(0, some (.box (c_Store x7.1)))]⟩ : ASt) _
    refine aops_nil ?_
    refine aw_cond rfl (fun c9 => ?_) (fun c9 => ?_)
    · replace h := Md.cond_t h c9
      refine aw_seq (aw_region (s_sa ?_))
      refine aops_nil ?_
      cases Option.some.inj h
      exact aw_ret ⟨rfl, rv r1⟩
    replace h := Md.cond_f h c9
    refine aw_skip (aw_seq (aw_region (s_fd ?_)))
    refine aops_step1 rfl (ev_index_arr rfl rfl rfl rfl rfl) (s_ls [_, _, _, _, _, _] ?_)
    refine s_fd ?_
    refine aops_step1 rfl (ev_index_arr rfl rfl rfl rfl rfl) (s_ls [_, _, _, _, _, _] ?_)
    obtain ⟨x10, hx10, h⟩ := Md.bind_s h
    refine aops_step1 rfl (ev_call_v (store_Recover_fn k x7.1.Disks.x0 x7.1.Disks.x1 x10 hx10) rfl [] ai rfl rfl rfl (.inl rfl) rfl) (s_mt ?_)
    iterate 3 refine s_ex ?_
    refine aops_step1 rfl (st_alloc (cs := [.val (.slice none 0 0), cI 0, cB false, cI 0, cI 0, cB false, .val (.slice none 0 0), cI 0, cB false, cI 0, cI 0, cB false, cI 0, cI 0, cI 0, cI 0]) 4 rfl rfl rfl rfl rfl) ?_
    refine aops_step1 rfl (st_alloc (cs := [cI 0, .val (.slice none 0 0), .val (.slice none 0 0)]) 5 rfl rfl rfl rfl rfl) (s_st [_, _, _, _, _, _, _, _, _, _, _, _, _, _, _, _] ?_)
    refine s_st [_, _, _] ?_
    refine s_sa ?_
    refine aops_nil (aw_seq (aw_region (s_mv ?_)))
    refine s_cm ?_
    refine s_mv ?_
    refine aops_mid 4 (⟨81, [], [(4, .one (.ptr 5 0)), (60, vB ((x10.2.2 == 0) && (x10.2.1.Base == 1)))], [(5, some (.box (c_StoreContents x10.2.1)))]⟩ : ASt) ?_ ?_
    · rcases Md.bool_or ((x10.2.2 == 0)) with q11 | q11
      · skip
        refine y_fd q11 ?_
        refine y_ld q11 ?_
        refine y_cm q11 ?_
        refine s_py q11 ?_
        refine aops_nil ?_
        exact wq q11
      iterate 3 refine np q11 ?_
      refine s_pn q11 ?_
      refine aops_nil ?_
      exact wq q11
    refine s_mv ?_
    refine aops_mid 5 (⟨81, [], [(4, .one (.ptr 5 0)), (66, vB (((x10.2.2 == 0) && (x10.2.1.Base == 1)) && (decide (x10.2.1.State = [83]))))], [(5, some (.box (c_StoreContents x10.2.1)))]⟩ : ASt) ?_ ?_
    · rcases Md.bool_or (((x10.2.2 == 0) && (x10.2.1.Base == 1))) with q12 | q12
      · skip
        refine y_fd q12 ?_
        refine y_ld q12 ?_
        refine aops_yes rfl rfl rfl rfl q12 (ev_str_bytes (.inl rfl) Try.underlying24 Try.underlying5 Try.underlying9 rfl) ?_
        refine aops_yes rfl rfl rfl rfl q12 (st_str_eq rfl rfl rfl) (s_py q12 ?_)
        refine aops_nil ?_
        exact wq q12
      iterate 4 refine np q12 ?_
      refine s_pn q12 ?_
      refine aops_nil ?_
      exact wq q12
    refine s_mv ?_
    refine aops_mid 5 (⟨81, [], [(4, .one (.ptr 5 0)), (72, vB ((((x10.2.2 == 0) && (x10.2.1.Base == 1)) && (decide (x10.2.1.State = [83]))) && (((x10.2.1.Entries.length : Nat) : Int) == 1)))], [(5, some (.box (c_StoreContents x10.2.1)))]⟩ : ASt) ?_ ?_
    · rcases Md.bool_or ((((x10.2.2 == 0) && (x10.2.1.Base == 1)) && (decide (x10.2.1.State = [83])))) with q13 | q13
      · skip
        refine y_fd q13 ?_
        refine y_ld q13 ?_
        refine y_ln q13 ?_
        refine y_cm q13 ?_
        refine s_py q13 ?_
        refine aops_nil ?_
        exact wq q13
      iterate 4 refine np q13 ?_
      refine s_pn q13 ?_
      refine aops_nil ?_
      exact wq q13
    refine s_mv ?_
    obtain ⟨o14, j14, h⟩ := Md.bind_s h
    refine aops_cut 7 (ε := Bool) (fun x14 => (⟨81, [], [(80, vB x14)], []⟩ : ASt)) (fun x14 => x14 = o14) ?_ ?_
    · intro x14 hI14
      subst hI14
      change AOps _ _ _ (⟨81, [], [(80, vB x14)], []⟩ : ASt) _
      refine s_sa ?_
      refine aops_nil ?_
      cases Option.some.inj h
      exact aw_ret ⟨rfl, rv r1⟩
    rcases Md.bool_or (((((x10.2.2 == 0) && (x10.2.1.Base == 1)) && (decide (x10.2.1.State = [83]))) && (((x10.2.1.Entries.length : Nat) : Int) == 1))) with q14 | q14
    · replace j14 := Md.cond_t j14 q14
      refine y_fd q14 ?_
      refine y_ld q14 ?_
      obtain ⟨g15, j14⟩ := Md.ifp_s j14
      refine aops_yes rfl rfl rfl rfl q14 (ev_index_in rfl rfl rfl g15 rfl rfl) (aops_yes rfl rfl rfl rfl q14 (ev_load_in rfl rfl rfl) ?_)
      refine aops_yes rfl rfl rfl rfl q14 (ev_str_bytes (.inl rfl) Try.underlying24 Try.underlying5 Try.underlying9 rfl) ?_
      refine aops_yes rfl rfl rfl rfl q14 (st_str_eq rfl rfl rfl) (s_py q14 ?_)
      refine aops_nil ?_
      show ∃ _x : Bool, _ = _ ∧ Weak _ _
      exact ⟨(decide ((x10.2.1.Entries.getD 0 default) = [98])), Option.some.inj j14, wk⟩
    replace j14 := Md.cond_f j14 q14
    iterate 6 refine np q14 ?_
    refine s_pn q14 ?_
    refine aops_nil ?_
    show ∃ _x : Bool, _ = _ ∧ Weak _ _
    exact ⟨false, Option.some.inj j14, wk⟩
  rcases Md.bool_or ((x7.2 != 0)) with q8 | q8
  · replace j8 := Md.cond_t j8 q8
    iterate 3 refine np q8 ?_
    refine s_py q8 ?_
    refine aops_nil ?_
    show ∃ _x : Bool, _ = _ ∧ Weak _ _
    exact ⟨true, Option.some.inj j8, wk⟩
  replace j8 := Md.cond_f j8 q8
  refine aops_yes rfl rfl rfl rfl q8 (ev_loads (ds := [_, _, _, _, _, _, _, _, _, _, _, _, _, _, _, _]) rfl rfl rfl rfl rfl) ?_
  obtain ⟨x16, hx16, j8⟩ := Md.bind_s j8
  refine aops_yes rfl rfl rfl rfl q8 (ev_call_v (store_Valid_fn k x7.1 x16 hx16) rfl [] ai rfl rfl rfl (.inl rfl) rfl) (y_nt q8 ?_)
  refine s_pn q8 ?_
  refine aops_nil ?_
  show ∃ _x : Bool, _ = _ ∧ Weak _ _
  exact ⟨(!x16), Option.some.inj j8, wk⟩
end Md
end Go.Proofs.Ytkcfkcgclljncaa
