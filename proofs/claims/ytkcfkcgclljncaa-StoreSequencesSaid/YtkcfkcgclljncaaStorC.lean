/-
  StorC: where a function's model gives a value, the function returns what reads as it (printed by wip/tools/auto.py). Condition of each: the model gives a value.
-/
import Derived.Test.YtkcfkcgclljncaaStorCM
import Derived.Test.YtkcfkcgclljncaaTy
import Derived.Test.YtkcfkcgclljncaaAbsS
import Derived.Test.YtkcfkcgclljncaaStorA
namespace Go.Proofs.Ytkcfkcgclljncaa
open Go.ChangeShapes Go.WideShapes Go.RowKit
open Abs
set_option linter.unusedVariables false
set_option linter.unusedSimpArgs false
set_option maxRecDepth 10000
namespace Md
def c_Arr2Disk (x : Arr2Disk) : List CV := [CV.ls byC x.x0.Data, cI x.x0.Capacity, cB x.x0.Armed, cI x.x0.Writes, cI x.x0.Keep, cB x.x0.Down, CV.ls byC x.x1.Data, cI x.x1.Capacity, cB x.x1.Armed, cI x.x1.Writes, cI x.x1.Keep, cB x.x1.Down]
set_option maxHeartbeats 2000000 in
theorem store_Recover_fn (k : Nat) (a0 : Disk) (a1 : Disk) (r : Store × StoreContents × Int) (h : store_Recover k a0 a1 = some r) : FnC Try.prog 49 [.agg (c_Disk a0), .agg (c_Disk a1)] [] (Det (.tup [.agg (c_Store r.1), .agg (c_StoreContents r.2.1), vI r.2.2]) []) := by
  unfold store_Recover at h
  refine fn_intro' 114 Try.func49 rfl rfl rfl (aw_seq (aw_region (aops_step1 rfl (st_box 0 rfl rfl rfl rfl) (aops_step1 rfl (st_box 1 rfl rfl rfl rfl) ?_))))
  refine aops_step1 rfl (st_alloc (cs := [.val (.slice none 0 0), cI 0, cB false, cI 0, cI 0, cB false, .val (.slice none 0 0), cI 0, cB false, cI 0, cI 0, cB false, cI 0, cI 0, cI 0, cI 0]) 2 rfl rfl rfl rfl rfl) ?_
  refine aops_step1 rfl (st_alloc (cs := [cI 0, .val (.slice none 0 0), .val (.slice none 0 0)]) 3 rfl rfl rfl rfl rfl) (s_sa ?_)
  refine aops_nil (aw_seq (aw_region ?_))
  iterate 2 refine s_ls [_, _, _, _, _, _] ?_
  refine aops_step1 rfl (ev_build_arr' (out := [_, _, _, _, _, _, _, _, _, _, _, _]) rfl rfl rfl rfl rfl) ?_
  refine aops_step1 rfl (ev_build' (out := [_, _, _, _, _, _, _, _, _, _, _, _, _, _, _, _]) rfl rfl rfl rfl rfl) ?_
  refine aops_step1 rfl (st_alloc (cs := [.val (.slice none 0 0), cI 0, cB false, cI 0, cI 0, cB false, .val (.slice none 0 0), cI 0, cB false, cI 0, cI 0, cB false, cI 0, cI 0, cI 0, cI 0]) 4 rfl rfl rfl rfl rfl) (s_st [_, _, _, _, _, _, _, _, _, _, _, _, _, _, _, _] ?_)
  refine aops_nil (aw_seq (aw_block (aw_seq (aw_seq (aw_region (s_ls [_, _, _, _, _, _] ?_))))))
  obtain ⟨x1, hx1, h⟩ := Md.bind_s h
  refine aops_step1 rfl (ev_call_v (disk_Valid_fn k a0 x1 hx1) rfl [] ai rfl rfl rfl (.inl rfl) rfl) (s_nt ?_)
  refine s_sa ?_
  refine aops_nil ?_
  refine aw_cond rfl (fun c2 => ?_) (fun c2 => ?_)
  · replace h := Md.cond_t h c2
    refine aw_skip (aw_yes rfl (c2) (aw_seq (aw_region (aops_step1 rfl (ev_build' (out := [_, _, _, _, _, _, _, _, _, _, _, _, _, _, _, _]) rfl rfl rfl rfl rfl) ?_))))
    refine aops_step1 rfl (ev_build' (out := [_, _, _]) rfl rfl rfl rfl rfl) (s_st [_, _, _, _, _, _, _, _, _, _, _, _, _, _, _, _] ?_)
    refine s_st [_, _, _] ?_
    refine s_sa ?_
    refine aops_nil ?_
    cases Option.some.inj h
    exact aw_ret ⟨rfl, rv (rn (.cons (va [_, _, _, _, _, _, _, _, _, _, _, _, _, _, _, _]) (.cons (va [_, _, _]) (.cons o1 .nil))))⟩
  replace h := Md.cond_f h c2
  refine aw_region (s_ls [_, _, _, _, _, _] ?_)
  obtain ⟨x3, hx3, h⟩ := Md.bind_s h
  refine aops_step1 rfl (ev_call_v (disk_Valid_fn k a1 x3 hx3) rfl [] ai rfl rfl rfl (.inl rfl) rfl) (s_nt ?_)
  refine s_sa ?_
  refine aops_nil ?_
  refine aw_cond rfl (fun c4 => ?_) (fun c4 => ?_)
  · replace h := Md.cond_t h c4
    refine aw_seq (aw_region (aops_step1 rfl (ev_build' (out := [_, _, _, _, _, _, _, _, _, _, _, _, _, _, _, _]) rfl rfl rfl rfl rfl) ?_))
    refine aops_step1 rfl (ev_build' (out := [_, _, _]) rfl rfl rfl rfl rfl) (s_st [_, _, _, _, _, _, _, _, _, _, _, _, _, _, _, _] ?_)
    refine s_st [_, _, _] ?_
    refine s_sa ?_
    refine aops_nil ?_
    cases Option.some.inj h
    exact aw_ret ⟨rfl, rv (rn (.cons (va [_, _, _, _, _, _, _, _, _, _, _, _, _, _, _, _]) (.cons (va [_, _, _]) (.cons o1 .nil))))⟩
  replace h := Md.cond_f h c4
  refine aw_seq (aw_seq (aw_region (s_fd ?_)))
  refine s_ld ?_
  refine s_sa ?_
  refine aops_nil ?_
  refine aw_cond rfl (fun c5 => ?_) (fun c5 => ?_)
  · replace h := Md.cond_t h c5
    refine aw_skip (aw_yes rfl (c5) (aw_seq (aw_region (aops_step1 rfl (ev_build' (out := [_, _, _, _, _, _, _, _, _, _, _, _, _, _, _, _]) rfl rfl rfl rfl rfl) ?_))))
    refine aops_step1 rfl (ev_build' (out := [_, _, _]) rfl rfl rfl rfl rfl) (s_st [_, _, _, _, _, _, _, _, _, _, _, _, _, _, _, _] ?_)
    refine s_st [_, _, _] ?_
    refine s_sa ?_
    refine aops_nil ?_
    cases Option.some.inj h
    exact aw_ret ⟨rfl, rv (rn (.cons (va [_, _, _, _, _, _, _, _, _, _, _, _, _, _, _, _]) (.cons (va [_, _, _]) (.cons o1 .nil))))⟩
  replace h := Md.cond_f h c5
  refine aw_region (s_fd ?_)
  refine s_ld ?_
  refine s_sa ?_
  refine aops_nil ?_
  refine aw_cond rfl (fun c6 => ?_) (fun c6 => ?_)
  · replace h := Md.cond_t h c6
    refine aw_seq (aw_region (aops_step1 rfl (ev_build' (out := [_, _, _, _, _, _, _, _, _, _, _, _, _, _, _, _]) rfl rfl rfl rfl rfl) ?_))
    refine aops_step1 rfl (ev_build' (out := [_, _, _]) rfl rfl rfl rfl rfl) (s_st [_, _, _, _, _, _, _, _, _, _, _, _, _, _, _, _] ?_)
    refine s_st [_, _, _] ?_
    refine s_sa ?_
    refine aops_nil ?_
    cases Option.some.inj h
    exact aw_ret ⟨rfl, rv (rn (.cons (va [_, _, _, _, _, _, _, _, _, _, _, _, _, _, _, _]) (.cons (va [_, _, _]) (.cons o1 .nil))))⟩
  replace h := Md.cond_f h c6
  refine aw_skip (aw_seq (aw_region (s_ls [_, _, _, _, _, _, _, _, _, _, _, _, _, _, _, _] ?_)))
  obtain ⟨x7, hx7, h⟩ := Md.bind_s h
  refine aops_step1 rfl (ev_call_v (store_clone_fn k (⟨(⟨a0, a1⟩ : Arr2Disk), 0, 0, 0, 0⟩ : Store) x7 hx7) rfl [] ai rfl rfl rfl (.inl rfl) rfl) (s_st [_, _, _, _, _, _, _, _, _, _, _, _, _, _, _, _] ?_)
  refine aops_nil (aw_seq (aw_region (aops_step1 rfl (st_alloc (cs := [cI 0, .val (.slice none 0 0), .val (.slice none 0 0)]) 5 rfl rfl rfl rfl rfl) (aops_nil (aw_seq ?_)))))
  refine aw_region ?_
  iterate 2 refine s_sa ?_
  refine aops_nil (aw_seq (aw_seq (aw_region (s_fd ?_))))
  refine s_ls [_, _, _, _, _, _, _, _, _, _, _, _] ?_
  refine s_mv ?_
  refine aops_nil (aw_block (aw_loop_start (awl_round (aw_seq (aw_region (aops_step1 rfl (ev_cmp (b := true) rfl rfl rfl rfl) (aops_nil (aw_seq (aw_yes rfl (rfl) (aw_skip ?_))))))))))
  obtain ⟨o8, j8, h⟩ := Md.bind_s h
  refine aw_cut (ε := (Int × Bool × Store × StoreContents)) (fun x => (⟨114, [], [(4, .one (.ptr 2 0)), (5, .one (.ptr 3 0)), (7, .one (.ptr 4 0)), (8, .one (.ptr 5 0)), (9, vI x.1), (10, vB x.2.1), (42, .agg (c_Arr2Disk x7.Disks)), (43, vI 0)], [(2, some (.box [.val (.slice none 0 0), cI 0, cB false, cI 0, cI 0, cB false, .val (.slice none 0 0), cI 0, cB false, cI 0, cI 0, cB false, cI 0, cI 0, cI 0, cI 0])), (3, some (.box [cI 0, .val (.slice none 0 0), .val (.slice none 0 0)])), (4, some (.box (c_Store x.2.2.1))), (5, some (.box (c_StoreContents x.2.2.2)))]⟩ : ASt)) (fun x => x = o8) ?_ ?_
  · intro x8_0 hI8
    subst hI8
    change AW _ _ (⟨114, [], [(4, .one (.ptr 2 0)), (5, .one (.ptr 3 0)), (7, .one (.ptr 4 0)), (8, .one (.ptr 5 0)), (9, vI x8_0.1), (10, vB x8_0.2.1), (42, .agg (c_Arr2Disk x7.Disks)), (43, vI 0)], [(2, some (.box [.val (.slice none 0 0), cI 0, cB false, cI 0, cI 0, cB false, .val (.slice none 0 0), cI 0, cB false, cI 0, cI 0, cB false, cI 0, cI 0, cI 0, cI 0])), (3, some (.box [cI 0, .val (.slice none 0 0), .val (.slice none 0 0)])), (4, some (.box (c_Store x8_0.2.2.1))), (5, some (.box (c_StoreContents x8_0.2.2.2)))]⟩ : ASt) _
    refine aw_region (aops_step1 rfl (ev_add (q := 1) rfl rfl rfl (by decide)) (s_mv ?_))
    refine aops_nil (awl_round (aw_seq (aw_region (aops_step1 rfl (ev_cmp (b := true) rfl rfl rfl rfl) (aops_nil (aw_seq (aw_yes rfl (rfl) (aw_skip ?_))))))))
    obtain ⟨o9, j9, h⟩ := Md.bind_s h
    refine aw_cut (ε := (Int × Bool × Store × StoreContents)) (fun x => (⟨114, [], [(4, .one (.ptr 2 0)), (5, .one (.ptr 3 0)), (7, .one (.ptr 4 0)), (8, .one (.ptr 5 0)), (9, vI x.1), (10, vB x.2.1), (42, .agg (c_Arr2Disk x7.Disks)), (43, vI 1)], [(2, some (.box [.val (.slice none 0 0), cI 0, cB false, cI 0, cI 0, cB false, .val (.slice none 0 0), cI 0, cB false, cI 0, cI 0, cB false, cI 0, cI 0, cI 0, cI 0])), (3, some (.box [cI 0, .val (.slice none 0 0), .val (.slice none 0 0)])), (4, some (.box (c_Store x.2.2.1))), (5, some (.box (c_StoreContents x.2.2.2)))]⟩ : ASt)) (fun x => x = o9) ?_ ?_
    · intro x9_0 hI9
      subst hI9
      change AW _ _ (⟨114, [], [(4, .one (.ptr 2 0)), (5, .one (.ptr 3 0)), (7, .one (.ptr 4 0)), (8, .one (.ptr 5 0)), (9, vI x9_0.1), (10, vB x9_0.2.1), (42, .agg (c_Arr2Disk x7.Disks)), (43, vI 1)], [(2, some (.box [.val (.slice none 0 0), cI 0, cB false, cI 0, cI 0, cB false, .val (.slice none 0 0), cI 0, cB false, cI 0, cI 0, cB false, cI 0, cI 0, cI 0, cI 0])), (3, some (.box [cI 0, .val (.slice none 0 0), .val (.slice none 0 0)])), (4, some (.box (c_Store x9_0.2.2.1))), (5, some (.box (c_StoreContents x9_0.2.2.2)))]⟩ : ASt) _
      refine aw_region (aops_step1 rfl (ev_add (q := 2) rfl rfl rfl (by decide)) (s_mv ?_))
      refine aops_nil (awl_round (aw_seq (aw_region (aops_step1 rfl (ev_cmp (b := false) rfl rfl rfl rfl) (aops_nil (aw_seq (aw_no rfl (rfl) (aw_exit (aw_seq (aw_seq (aw_region (s_mv ?_))))))))))))
      refine s_nt ?_
      refine aops_nil ?_
      refine aw_cond rfl (fun c10 => ?_) (fun c10 => ?_)
      · replace h := Md.cond_t h c10
        refine aw_seq (aw_region (aops_step1 rfl (ev_build' (out := [_, _, _, _, _, _, _, _, _, _, _, _, _, _, _, _]) rfl rfl rfl rfl rfl) ?_))
        refine aops_step1 rfl (ev_build' (out := [_, _, _]) rfl rfl rfl rfl rfl) (s_st [_, _, _, _, _, _, _, _, _, _, _, _, _, _, _, _] ?_)
        refine s_st [_, _, _] ?_
        refine s_sa ?_
        refine aops_nil ?_
        cases Option.some.inj h
        exact aw_ret ⟨rfl, rv (rn (.cons (va [_, _, _, _, _, _, _, _, _, _, _, _, _, _, _, _]) (.cons (va [_, _, _]) (.cons o1 .nil))))⟩
      replace h := Md.cond_f h c10
      refine aw_skip (aw_seq (aw_seq (aw_region (s_mv ?_))))
      refine s_fd ?_
      refine s_ld ?_
      refine s_fd ?_
      rcases Md.bool_or ((decide (x9_0.2.2.1.Current = 0))) with q11 | q11
      · replace h := Md.cond_t h q11
        refine aops_step1 rfl (ev_index_arr (j := 0) rfl rfl (of_decide_eq_true q11) rfl rfl) (s_fd ?_)
        refine s_ld ?_
        refine s_ln ?_
        refine s_cm ?_
        refine aops_nil ?_
        refine aw_cond rfl (fun c12 => ?_) (fun c12 => ?_)
        · replace h := Md.cond_t h c12
          refine aw_seq (aw_region (s_fd ?_))
          refine s_ld ?_
          refine s_fd ?_
          refine aops_step1 rfl (ev_index_arr (j := 0) rfl rfl (of_decide_eq_true q11) rfl rfl) (s_ls [_, _, _, _, _, _] ?_)
          refine s_mv ?_
          obtain ⟨x13, hx13, h⟩ := Md.bind_s h
          refine aops_step1 rfl (ev_call_v (disk_Truncate_fn k x9_0.2.2.1.Disks.x0 x9_0.1 x13 hx13) rfl [] ai rfl rfl rfl (.inl rfl) rfl) (s_mt ?_)
          iterate 2 refine s_ex ?_
          refine aops_step1 rfl (st_alloc (cs := [.val (.slice none 0 0), cI 0, cB false, cI 0, cI 0, cB false]) 6 rfl rfl rfl rfl rfl) (s_st [_, _, _, _, _, _] ?_)
          refine s_sa ?_
          refine aops_nil (aw_seq (aw_seq (aw_region (s_mv ?_))))
          refine s_cm ?_
          refine aops_nil ?_
          refine aw_cond rfl (fun c14 => ?_) (fun c14 => ?_)
          · replace h := Md.cond_t h c14
            refine aw_seq (aw_region (aops_step1 rfl (ev_build' (out := [_, _, _, _, _, _, _, _, _, _, _, _, _, _, _, _]) rfl rfl rfl rfl rfl) ?_))
            refine aops_step1 rfl (ev_build' (out := [_, _, _]) rfl rfl rfl rfl rfl) (s_mv ?_)
            refine s_st [_, _, _, _, _, _, _, _, _, _, _, _, _, _, _, _] ?_
            refine s_st [_, _, _] ?_
            refine s_sa ?_
            refine aops_nil ?_
            cases Option.some.inj h
            exact aw_ret ⟨rfl, rv (rn (.cons (va [_, _, _, _, _, _, _, _, _, _, _, _, _, _, _, _]) (.cons (va [_, _, _]) (.cons o1 .nil))))⟩
          replace h := Md.cond_f h c14
          refine aw_skip (aw_region (s_fd ?_))
          refine s_ld ?_
          refine s_ls [_, _, _, _, _, _] ?_
          refine s_fd ?_
          refine aops_step1 rfl (ev_index_arr (j := 0) rfl rfl (of_decide_eq_true q11) rfl rfl) (s_st [_, _, _, _, _, _, _, _, _, _, _, _, _, _, _, _] ?_)
          refine aops_nil ?_
          refine aw_seq_mid (⟨114, [], [(4, .one (.ptr 2 0)), (5, .one (.ptr 3 0)), (6, vI 0)], [(2, some (.box (c_Disk x13.1 ++ c_Disk x9_0.2.2.1.Disks.x1 ++ [cI x9_0.2.2.1.Current, cI x9_0.2.2.1.Number, cI x9_0.2.2.1.Base, cI x9_0.2.2.1.Count]))), (3, some (.box (c_StoreContents x9_0.2.2.2)))]⟩ : ASt) ?_ ?_
          ·
            apply aw_late 2 1 ((⟨[], .agg (c_Disk x13.1 ++ c_Disk x9_0.2.2.1.Disks.x1 ++ [cI x9_0.2.2.1.Current, cI x9_0.2.2.1.Number, cI x9_0.2.2.1.Base, cI x9_0.2.2.1.Count])⟩ : Add) :: ⟨[], .agg (c_StoreContents x9_0.2.2.2)⟩ :: []) (by decide) (by decide) rfl rfl rfl ?hk3x ?hf3x ?ho3x ?hr3x ?hl3x
            case ho3x =>
             refine ob [] (fun S hle hfr => .inl ⟨w0, ev_loads (ds := [_, _, _, _, _, _, _, _, _, _, _, _, _, _, _, _]) (hle.e rfl) (hle.heap _ _ rfl) rfl rfl (hle.d rfl)⟩) ?_
             refine ob [] (fun S hle hfr => .inl ⟨w0, ev_loads (ds := [_, _, _]) (hle.e rfl) (hle.heap _ _ rfl) rfl rfl (hle.d rfl)⟩) ?_
             exact trivial
            case hk3x => rfl
            case hf3x => rfl
            case hr3x =>
             refine s_st [_, _, _, _, _, _, _, _, _, _, _, _, _, _, _, _] ?_
             refine s_st [_, _, _] ?_
             refine s_sa ?_
             refine aops_nil ?_
             exact wk
            case hl3x =>
             refine s_st [_, _, _, _, _, _, _, _, _, _, _, _, _, _, _, _] ?_
             refine s_ls [_, _, _] ?_
             refine s_st [_, _, _] ?_
             refine s_sa ?_
             refine aops_nil ?_
             exact wk
          cases Option.some.inj h
          exact aw_ret ⟨rfl, rv (rn (.cons (va [_, _, _, _, _, _, _, _, _, _, _, _, _, _, _, _]) (.cons (va [_, _, _]) (.cons o1 .nil))))⟩
        replace h := Md.cond_f h c12
        refine aw_skip ?_
        refine aw_seq_mid (⟨114, [], [(4, .one (.ptr 2 0)), (5, .one (.ptr 3 0)), (6, vI 0)], [(2, some (.box (c_Store x9_0.2.2.1))), (3, some (.box (c_StoreContents x9_0.2.2.2)))]⟩ : ASt) ?_ ?_
        ·
          apply aw_late 2 1 ((⟨[], .agg (c_Store x9_0.2.2.1)⟩ : Add) :: ⟨[], .agg (c_StoreContents x9_0.2.2.2)⟩ :: []) (by decide) (by decide) rfl rfl rfl ?hk4x ?hf4x ?ho4x ?hr4x ?hl4x
          case ho4x =>
           refine ob [] (fun S hle hfr => .inl ⟨w0, ev_loads (ds := [_, _, _, _, _, _, _, _, _, _, _, _, _, _, _, _]) (hle.e rfl) (hle.heap _ _ rfl) rfl rfl (hle.d rfl)⟩) ?_
           refine ob [] (fun S hle hfr => .inl ⟨w0, ev_loads (ds := [_, _, _]) (hle.e rfl) (hle.heap _ _ rfl) rfl rfl (hle.d rfl)⟩) ?_
           exact trivial
          case hk4x => rfl
          case hf4x => rfl
          case hr4x =>
           refine s_st [_, _, _, _, _, _, _, _, _, _, _, _, _, _, _, _] ?_
           refine s_st [_, _, _] ?_
           refine s_sa ?_
           refine aops_nil ?_
           exact wk
          case hl4x =>
           refine s_st [_, _, _, _, _, _, _, _, _, _, _, _, _, _, _, _] ?_
           refine s_ls [_, _, _] ?_
           refine s_st [_, _, _] ?_
           refine s_sa ?_
           refine aops_nil ?_
           exact wk
        cases Option.some.inj h
        exact aw_ret ⟨rfl, rv (rn (.cons (va [_, _, _, _, _, _, _, _, _, _, _, _, _, _, _, _]) (.cons (va [_, _, _]) (.cons o1 .nil))))⟩
      replace h := Md.cond_f h q11
      obtain ⟨g15, h⟩ := Md.ifp_s h
      refine aops_step1 rfl (ev_index_arr (j := 1) rfl rfl g15 rfl rfl) (s_fd ?_)
      refine s_ld ?_
      refine s_ln ?_
      refine s_cm ?_
      refine aops_nil ?_
      refine aw_cond rfl (fun c16 => ?_) (fun c16 => ?_)
      · replace h := Md.cond_t h c16
        refine aw_seq (aw_region (s_fd ?_))
        refine s_ld ?_
        refine s_fd ?_
        obtain ⟨g17, h⟩ := Md.ifp_s h
        refine aops_step1 rfl (ev_index_arr (j := 1) rfl rfl g17 rfl rfl) (s_ls [_, _, _, _, _, _] ?_)
        refine s_mv ?_
        obtain ⟨x18, hx18, h⟩ := Md.bind_s h
        refine aops_step1 rfl (ev_call_v (disk_Truncate_fn k x9_0.2.2.1.Disks.x1 x9_0.1 x18 hx18) rfl [] ai rfl rfl rfl (.inl rfl) rfl) (s_mt ?_)
        iterate 2 refine s_ex ?_
        refine aops_step1 rfl (st_alloc (cs := [.val (.slice none 0 0), cI 0, cB false, cI 0, cI 0, cB false]) 6 rfl rfl rfl rfl rfl) (s_st [_, _, _, _, _, _] ?_)
        refine s_sa ?_
        refine aops_nil (aw_seq (aw_seq (aw_region (s_mv ?_))))
        refine s_cm ?_
        refine aops_nil ?_
        refine aw_cond rfl (fun c19 => ?_) (fun c19 => ?_)
        · replace h := Md.cond_t h c19
          refine aw_seq (aw_region (aops_step1 rfl (ev_build' (out := [_, _, _, _, _, _, _, _, _, _, _, _, _, _, _, _]) rfl rfl rfl rfl rfl) ?_))
          refine aops_step1 rfl (ev_build' (out := [_, _, _]) rfl rfl rfl rfl rfl) (s_mv ?_)
          refine s_st [_, _, _, _, _, _, _, _, _, _, _, _, _, _, _, _] ?_
          refine s_st [_, _, _] ?_
          refine s_sa ?_
          refine aops_nil ?_
          cases Option.some.inj h
          exact aw_ret ⟨rfl, rv (rn (.cons (va [_, _, _, _, _, _, _, _, _, _, _, _, _, _, _, _]) (.cons (va [_, _, _]) (.cons o1 .nil))))⟩
        replace h := Md.cond_f h c19
        refine aw_skip (aw_region (s_fd ?_))
        refine s_ld ?_
        refine s_ls [_, _, _, _, _, _] ?_
        refine s_fd ?_
        obtain ⟨g20, h⟩ := Md.ifp_s h
        refine aops_step1 rfl (ev_index_arr (j := 1) rfl rfl g20 rfl rfl) (s_st [_, _, _, _, _, _, _, _, _, _, _, _, _, _, _, _] ?_)
        refine aops_nil ?_
        refine aw_seq_mid (⟨114, [], [(4, .one (.ptr 2 0)), (5, .one (.ptr 3 0)), (6, vI 0)], [(2, some (.box (c_Disk x9_0.2.2.1.Disks.x0 ++ c_Disk x18.1 ++ [cI x9_0.2.2.1.Current, cI x9_0.2.2.1.Number, cI x9_0.2.2.1.Base, cI x9_0.2.2.1.Count]))), (3, some (.box (c_StoreContents x9_0.2.2.2)))]⟩ : ASt) ?_ ?_
        ·
          apply aw_late 2 1 ((⟨[], .agg (c_Disk x9_0.2.2.1.Disks.x0 ++ c_Disk x18.1 ++ [cI x9_0.2.2.1.Current, cI x9_0.2.2.1.Number, cI x9_0.2.2.1.Base, cI x9_0.2.2.1.Count])⟩ : Add) :: ⟨[], .agg (c_StoreContents x9_0.2.2.2)⟩ :: []) (by decide) (by decide) rfl rfl rfl ?hk5x ?hf5x ?ho5x ?hr5x ?hl5x
          case ho5x =>
           refine ob [] (fun S hle hfr => .inl ⟨w0, ev_loads (ds := [_, _, _, _, _, _, _, _, _, _, _, _, _, _, _, _]) (hle.e rfl) (hle.heap _ _ rfl) rfl rfl (hle.d rfl)⟩) ?_
           refine ob [] (fun S hle hfr => .inl ⟨w0, ev_loads (ds := [_, _, _]) (hle.e rfl) (hle.heap _ _ rfl) rfl rfl (hle.d rfl)⟩) ?_
           exact trivial
          case hk5x => rfl
          case hf5x => rfl
          case hr5x =>
           refine s_st [_, _, _, _, _, _, _, _, _, _, _, _, _, _, _, _] ?_
           refine s_st [_, _, _] ?_
           refine s_sa ?_
           refine aops_nil ?_
           exact wk
          case hl5x =>
           refine s_st [_, _, _, _, _, _, _, _, _, _, _, _, _, _, _, _] ?_
           refine s_ls [_, _, _] ?_
           refine s_st [_, _, _] ?_
           refine s_sa ?_
           refine aops_nil ?_
           exact wk
        cases Option.some.inj h
        exact aw_ret ⟨rfl, rv (rn (.cons (va [_, _, _, _, _, _, _, _, _, _, _, _, _, _, _, _]) (.cons (va [_, _, _]) (.cons o1 .nil))))⟩
      replace h := Md.cond_f h c16
      refine aw_skip ?_
      refine aw_seq_mid (⟨114, [], [(4, .one (.ptr 2 0)), (5, .one (.ptr 3 0)), (6, vI 0)], [(2, some (.box (c_Store x9_0.2.2.1))), (3, some (.box (c_StoreContents x9_0.2.2.2)))]⟩ : ASt) ?_ ?_
      ·
        apply aw_late 2 1 ((⟨[], .agg (c_Store x9_0.2.2.1)⟩ : Add) :: ⟨[], .agg (c_StoreContents x9_0.2.2.2)⟩ :: []) (by decide) (by decide) rfl rfl rfl ?hk6x ?hf6x ?ho6x ?hr6x ?hl6x
        case ho6x =>
         refine ob [] (fun S hle hfr => .inl ⟨w0, ev_loads (ds := [_, _, _, _, _, _, _, _, _, _, _, _, _, _, _, _]) (hle.e rfl) (hle.heap _ _ rfl) rfl rfl (hle.d rfl)⟩) ?_
         refine ob [] (fun S hle hfr => .inl ⟨w0, ev_loads (ds := [_, _, _]) (hle.e rfl) (hle.heap _ _ rfl) rfl rfl (hle.d rfl)⟩) ?_
         exact trivial
        case hk6x => rfl
        case hf6x => rfl
        case hr6x =>
         refine s_st [_, _, _, _, _, _, _, _, _, _, _, _, _, _, _, _] ?_
         refine s_st [_, _, _] ?_
         refine s_sa ?_
         refine aops_nil ?_
         exact wk
        case hl6x =>
         refine s_st [_, _, _, _, _, _, _, _, _, _, _, _, _, _, _, _] ?_
         refine s_ls [_, _, _] ?_
         refine s_st [_, _, _] ?_
         refine s_sa ?_
         refine aops_nil ?_
         exact wk
      cases Option.some.inj h
      exact aw_ret ⟨rfl, rv (rn (.cons (va [_, _, _, _, _, _, _, _, _, _, _, _, _, _, _, _]) (.cons (va [_, _, _]) (.cons o1 .nil))))⟩
    refine aw_block (aw_seq (aw_region (s_mv ?_)))
    refine aops_step1 rfl (ev_index_agg (j := 1) (ds := [_, _, _, _, _, _]) rfl rfl rfl rfl rfl rfl rfl) ?_
    refine aops_step1 rfl (st_alloc (cs := [.val (.slice none 0 0), cI 0, cB false, cI 0, cI 0, cB false]) 6 rfl rfl rfl rfl rfl) (s_sa ?_)
    refine s_st [_, _, _, _, _, _] ?_
    refine aops_nil (aw_seq (aw_region (s_ls [_, _, _, _, _, _] ?_)))
    obtain ⟨x21, hx21, j9⟩ := Md.bind_s j9
    refine aops_step1 rfl (ev_call_v (store_read_fn k x7.Disks.x1 x21 hx21) rfl [] ai rfl rfl rfl (.inl rfl) rfl) (s_mt ?_)
    iterate 4 refine s_ex ?_
    refine aops_step1 rfl (st_alloc (cs := [cI 0, .val (.slice none 0 0), .val (.slice none 0 0)]) 7 rfl rfl rfl rfl rfl) (s_sa ?_)
    refine s_st [_, _, _] ?_
    iterate 2 refine s_sa ?_
    refine aops_nil (aw_seq (aw_region ?_))
    iterate 2 refine s_mv ?_
    refine aops_mid 9 (⟨114, [], [(4, .one (.ptr 2 0)), (5, .one (.ptr 3 0)), (7, .one (.ptr 4 0)), (8, .one (.ptr 5 0)), (9, vI x8_0.1), (10, vB x8_0.2.1), (11, vI 1), (13, vI x21.1), (14, .one (.ptr 7 0)), (15, vI x21.2.2.1), (42, .agg (c_Arr2Disk x7.Disks)), (43, vI 1), (64, vB (x21.2.2.2 && ((!x8_0.2.1) || (decide (x21.1 > x8_0.2.2.1.Number)))))], [(2, some (.box [.val (.slice none 0 0), cI 0, cB false, cI 0, cI 0, cB false, .val (.slice none 0 0), cI 0, cB false, cI 0, cI 0, cB false, cI 0, cI 0, cI 0, cI 0])), (3, some (.box [cI 0, .val (.slice none 0 0), .val (.slice none 0 0)])), (4, some (.box (c_Store x8_0.2.2.1))), (5, some (.box (c_StoreContents x8_0.2.2.2))), (7, some (.box (c_StoreContents x21.2.1)))]⟩ : ASt) ?_ ?_
    · rcases Md.bool_or (x21.2.2.2) with q22 | q22
      · skip
        refine y_mv q22 ?_
        refine y_nt q22 ?_
        refine y_mv q22 ?_
        refine aops_mid 5 (⟨114, [], [(4, .one (.ptr 2 0)), (5, .one (.ptr 3 0)), (7, .one (.ptr 4 0)), (8, .one (.ptr 5 0)), (9, vI x8_0.1), (10, vB x8_0.2.1), (11, vI 1), (13, vI x21.1), (14, .one (.ptr 7 0)), (15, vI x21.2.2.1), (42, .agg (c_Arr2Disk x7.Disks)), (43, vI 1), (55, vB x21.2.2.2), (63, vB ((!x8_0.2.1) || (decide (x21.1 > x8_0.2.2.1.Number))))], [(2, some (.box [.val (.slice none 0 0), cI 0, cB false, cI 0, cI 0, cB false, .val (.slice none 0 0), cI 0, cB false, cI 0, cI 0, cB false, cI 0, cI 0, cI 0, cI 0])), (3, some (.box [cI 0, .val (.slice none 0 0), .val (.slice none 0 0)])), (4, some (.box (c_Store x8_0.2.2.1))), (5, some (.box (c_StoreContents x8_0.2.2.2))), (7, some (.box (c_StoreContents x21.2.1)))]⟩ : ASt) ?_ ?_
        · rcases Md.bool_or ((!x8_0.2.1)) with q23 | q23
          · skip
            iterate 4 refine np q23 ?_
            refine aops_yes rfl rfl rfl rfl q22 (st_pick_yes rfl (by first | rfl | exact q23) rfl rfl) (aops_nil ?_)
            exact wq q23
          refine y_mv q23 ?_
          refine y_fd q23 ?_
          refine y_ld q23 ?_
          refine y_cm q23 ?_
          refine aops_yes rfl rfl rfl rfl q22 (st_pick_no rfl (by first | rfl | exact q23) rfl rfl) (aops_nil ?_)
          exact wq q23
        change AOps _ _ _ (⟨114, [], [(4, .one (.ptr 2 0)), (5, .one (.ptr 3 0)), (7, .one (.ptr 4 0)), (8, .one (.ptr 5 0)), (9, vI x8_0.1), (10, vB x8_0.2.1), (11, vI 1), (13, vI x21.1), (14, .one (.ptr 7 0)), (15, vI x21.2.2.1), (42, .agg (c_Arr2Disk x7.Disks)), (43, vI 1), (55, vB x21.2.2.2), (63, vB ((!x8_0.2.1) || (decide (x21.1 > x8_0.2.2.1.Number))))], [(2, some (.box [.val (.slice none 0 0), cI 0, cB false, cI 0, cI 0, cB false, .val (.slice none 0 0), cI 0, cB false, cI 0, cI 0, cB false, cI 0, cI 0, cI 0, cI 0])), (3, some (.box [cI 0, .val (.slice none 0 0), .val (.slice none 0 0)])), (4, some (.box (c_Store x8_0.2.2.1))), (5, some (.box (c_StoreContents x8_0.2.2.2))), (7, some (.box (c_StoreContents x21.2.1)))]⟩ : ASt) _
        refine s_py q22 ?_
        refine aops_nil ?_
        exact wq q22
      iterate 3 refine np q22 ?_
      iterate 4 refine aops_und rfl rfl rfl rfl rfl ?_
      refine np q22 ?_
      refine s_pn q22 ?_
      refine aops_nil ?_
      exact wq q22
    refine aops_nil ?_
    refine aw_cond rfl (fun c24 => ?_) (fun c24 => ?_)
    · replace j9 := Md.cond_t j9 c24
      refine aw_seq ?_
      apply aw_draw_stores 13 [(8, [7, 0], 4, (c_Arr2Disk x8_0.2.2.1.Disks ++ [cI 1, cI x8_0.2.2.1.Number, cI x8_0.2.2.1.Base, cI x8_0.2.2.1.Count])), (10, [9, 1, 8, 0, 7], 4, (c_Arr2Disk x8_0.2.2.1.Disks ++ [cI 1, cI x21.1, cI x8_0.2.2.1.Base, cI x8_0.2.2.1.Count])), (12, [11, 3, 10, 0, 1, 2, 7, 8, 9], 4, (c_Arr2Disk x8_0.2.2.1.Disks ++ [cI 1, cI x21.1, cI x21.2.1.Base, cI x8_0.2.2.1.Count]))] ((⟨[], vI 1⟩ : Add) :: ⟨[], vI x21.1⟩ :: ⟨[], .one (.ptr 7 _)⟩ :: ⟨[], vI x21.2.1.Base⟩ :: ⟨[], .one (.ptr 7 _)⟩ :: ⟨[], .one (CV.ls c_LU8 x21.2.1.Entries)⟩ :: ⟨[], vI ((x21.2.1.Entries.length : Nat) : Int)⟩ :: ⟨[], .one (.ptr 4 _)⟩ :: ⟨[], .one .any⟩ :: ⟨[], .one (.ptr 4 _)⟩ :: ⟨[], .one .any⟩ :: ⟨[], .one (.ptr 4 _)⟩ :: ⟨[], .one .any⟩ :: []) (by decide) rfl ?hk7x ?hf7x ?ho7x ?hv7x ?hr7x
      case ho7x =>
       refine ⟨.inr ⟨[], [], (by decide +kernel), (by decide +kernel), ⟨?_, .inr (.inl rfl), .inr (.inl rfl), .inl rfl⟩⟩, ?_⟩
       · refine .inr (.inr fun S hle hfr => ?_)
         exact .inl ⟨w0, st_move (hle.e rfl) (hle.d rfl)⟩
       refine ⟨.inr ⟨[], [], (by decide +kernel), (by decide +kernel), ⟨?_, ?_, .inr (.inl rfl), .inl rfl⟩⟩, ?_⟩
       · refine .inr (.inr fun S hle hfr => ?_)
         exact .inl ⟨w0, st_move (hle.e rfl) (hle.d rfl)⟩
       · refine .inr (.inr fun S hle hfr => ?_)
         exact .inl ⟨w0, st_move (hle.e rfl) (hle.d rfl)⟩
       refine ⟨.inr ⟨[], [], (by decide +kernel), (by decide +kernel), ⟨?_, ?_, ?_, .inl rfl⟩⟩, ?_⟩
       · refine .inr (.inr fun S hle hfr => ?_)
         exact .inl ⟨w0, ev_field (hle.e rfl) rfl (hle.d rfl)⟩
       · refine .inr (.inr fun S hle hfr => ?_)
         exact .inl ⟨w0, ev_field (hle.e rfl) rfl (hle.d rfl)⟩
       · refine .inr (.inr fun S hle hfr => ?_)
         exact .inl ⟨w0, ev_field (hle.e rfl) rfl (hle.d rfl)⟩
       refine ⟨.inr ⟨2 :: [], [], (by decide +kernel), (by decide +kernel), ⟨?_, ?_, ?_, .inl rfl⟩⟩, ?_⟩
       · refine .inr (.inr fun S hle hfr => ?_)
         exact .inl ⟨w0, ev_load (hle.e rfl) (hle.heap _ _ rfl) rfl (hle.d rfl)⟩
       · refine .inr (.inr fun S hle hfr => ?_)
         exact .inl ⟨w0, ev_load (hle.e rfl) (hle.heap _ _ rfl) rfl (hle.d rfl)⟩
       · refine .inr (.inr fun S hle hfr => ?_)
         exact .inl ⟨w0, ev_load (hle.e rfl) (hle.heap _ _ rfl) rfl (hle.d rfl)⟩
       refine ⟨.inr ⟨[], [], (by decide +kernel), (by decide +kernel), ⟨?_, ?_, ?_, ?_⟩⟩, ?_⟩
       · refine .inr (.inr fun S hle hfr => ?_)
         exact .inl ⟨w0, ev_field (hle.e rfl) rfl (hle.d rfl)⟩
       · refine .inr (.inr fun S hle hfr => ?_)
         exact .inl ⟨w0, ev_field (hle.e rfl) rfl (hle.d rfl)⟩
       · refine .inr (.inr fun S hle hfr => ?_)
         exact .inl ⟨w0, ev_field (hle.e rfl) rfl (hle.d rfl)⟩
       · refine .inr fun S hle hfr => ?_
         exact .inl ⟨w0, ev_field (hle.e rfl) rfl (hle.d rfl)⟩
       refine ⟨.inr ⟨4 :: [], [], (by decide +kernel), (by decide +kernel), ⟨?_, ?_, ?_, ?_⟩⟩, ?_⟩
       · refine .inr (.inr fun S hle hfr => ?_)
         exact .inl ⟨w0, ev_load (hle.e rfl) (hle.heap _ _ rfl) rfl (hle.d rfl)⟩
       · refine .inr (.inr fun S hle hfr => ?_)
         exact .inl ⟨w0, ev_load (hle.e rfl) (hle.heap _ _ rfl) rfl (hle.d rfl)⟩
       · refine .inr (.inr fun S hle hfr => ?_)
         exact .inl ⟨w0, ev_load (hle.e rfl) (hle.heap _ _ rfl) rfl (hle.d rfl)⟩
       · refine .inr fun S hle hfr => ?_
         exact .inl ⟨w0, ev_load (hle.e rfl) (hle.heap _ _ rfl) rfl (hle.d rfl)⟩
       refine ⟨.inr ⟨5 :: 4 :: [], [], (by decide +kernel), (by decide +kernel), ⟨?_, ?_, ?_, ?_⟩⟩, ?_⟩
       · refine .inr (.inr fun S hle hfr => ?_)
         exact .inl ⟨w0, ev_len_slc (hle.e rfl) (hle.d rfl)⟩
       · refine .inr (.inr fun S hle hfr => ?_)
         exact .inl ⟨w0, ev_len_slc (hle.e rfl) (hle.d rfl)⟩
       · refine .inr (.inr fun S hle hfr => ?_)
         exact .inl ⟨w0, ev_len_slc (hle.e rfl) (hle.d rfl)⟩
       · refine .inr fun S hle hfr => ?_
         exact .inl ⟨w0, ev_len_slc (hle.e rfl) (hle.d rfl)⟩
       refine ⟨.inr ⟨0 :: [], [], (by decide +kernel), (by decide +kernel), ⟨?_, .inr (.inl rfl), .inr (.inl rfl), .inl rfl⟩⟩, ?_⟩
       · refine .inr (.inr fun S hle hfr => ?_)
         exact .inl ⟨w0, ev_field (hle.e rfl) rfl (hle.d rfl)⟩
       refine ⟨.inl rfl, ?_⟩
       refine ⟨.inr ⟨0 :: 1 :: 7 :: 8 :: [], [], (by decide +kernel), (by decide +kernel), ⟨.inl rfl, ?_, .inr (.inl rfl), .inl rfl⟩⟩, ?_⟩
       · refine .inr (.inr fun S hle hfr => ?_)
         exact .inl ⟨w0, ev_field (hle.e rfl) rfl (hle.d rfl)⟩
       refine ⟨.inl rfl, ?_⟩
       refine ⟨.inr ⟨0 :: 1 :: 2 :: 3 :: 7 :: 8 :: 9 :: 10 :: [], [], (by decide +kernel), (by decide +kernel), ⟨.inl rfl, .inl rfl, ?_, .inl rfl⟩⟩, ?_⟩
       · refine .inr (.inr fun S hle hfr => ?_)
         exact .inl ⟨w0, ev_field (hle.e rfl) rfl (hle.d rfl)⟩
       refine ⟨.inl rfl, ?_⟩
       exact trivial
      case hv7x =>
       refine ⟨⟨rfl, rfl, (by decide +kernel), rfl, rfl, _, _, rfl, rfl, rfl, fun S hle => st_store (cs' := [_, _, _, _, _, _, _, _, _, _, _, _, _, _, _, _]) (hle.e rfl) (hle.heap _ _ rfl) (hle.e rfl) rfl rfl rfl rfl (hle.d rfl) rfl⟩, ?_⟩
       refine ⟨⟨rfl, rfl, (by decide +kernel), rfl, rfl, _, _, rfl, rfl, rfl, fun S hle => st_store (cs' := [_, _, _, _, _, _, _, _, _, _, _, _, _, _, _, _]) (hle.e rfl) (hle.heap _ _ rfl) (hle.e rfl) rfl rfl rfl rfl (hle.d rfl) rfl⟩, ?_⟩
       refine ⟨⟨rfl, rfl, (by decide +kernel), rfl, rfl, _, _, rfl, rfl, rfl, fun S hle => st_store (cs' := [_, _, _, _, _, _, _, _, _, _, _, _, _, _, _, _]) (hle.e rfl) (hle.heap _ _ rfl) (hle.e rfl) rfl rfl rfl rfl (hle.d rfl) rfl⟩, ?_⟩
       exact trivial
      case hk7x => rfl
      case hf7x => rfl
      refine s_fd ?_
      refine s_st [_, _, _, _, _, _, _, _, _, _, _, _, _, _, _, _] ?_
      refine aops_nil (aw_region (s_ls [_, _, _] ?_))
      refine s_mv ?_
      refine s_st [_, _, _] ?_
      iterate 2 refine s_sa ?_
      refine aops_nil ?_
      show ∃ _x : Int × Bool × Store × StoreContents, _ = _ ∧ Weak _ _
      exact ⟨(x21.2.2.1, true, (⟨x8_0.2.2.1.Disks, 1, x21.1, x21.2.1.Base, ((x21.2.1.Entries.length : Nat) : Int)⟩ : Store), x21.2.1), Option.some.inj j9, wk⟩
    replace j9 := Md.cond_f j9 c24
    refine aw_skip ?_
    show ∃ _x : Int × Bool × Store × StoreContents, _ = _ ∧ Weak _ _
    exact ⟨(x8_0.1, x8_0.2.1, x8_0.2.2.1, x8_0.2.2.2), Option.some.inj j9, wk⟩
  refine aw_block (aw_seq (aw_region (s_mv ?_)))
  refine aops_step1 rfl (ev_index_agg (j := 0) (ds := [_, _, _, _, _, _]) rfl rfl rfl rfl rfl rfl rfl) ?_
  refine aops_step1 rfl (st_alloc (cs := [.val (.slice none 0 0), cI 0, cB false, cI 0, cI 0, cB false]) 6 rfl rfl rfl rfl rfl) (s_sa ?_)
  refine s_st [_, _, _, _, _, _] ?_
  refine aops_nil (aw_seq (aw_region (s_ls [_, _, _, _, _, _] ?_)))
  obtain ⟨x25, hx25, j8⟩ := Md.bind_s j8
  refine aops_step1 rfl (ev_call_v (store_read_fn k x7.Disks.x0 x25 hx25) rfl [] ai rfl rfl rfl (.inl rfl) rfl) (s_mt ?_)
  iterate 4 refine s_ex ?_
  refine aops_step1 rfl (st_alloc (cs := [cI 0, .val (.slice none 0 0), .val (.slice none 0 0)]) 7 rfl rfl rfl rfl rfl) (s_sa ?_)
  refine s_st [_, _, _] ?_
  iterate 2 refine s_sa ?_
  refine aops_nil (aw_seq (aw_region ?_))
  iterate 2 refine s_mv ?_
  refine aops_mid 9 (⟨114, [], [(4, .one (.ptr 2 0)), (5, .one (.ptr 3 0)), (7, .one (.ptr 4 0)), (8, .one (.ptr 5 0)), (9, vI 0), (10, vB false), (11, vI 0), (13, vI x25.1), (14, .one (.ptr 7 0)), (15, vI x25.2.2.1), (42, .agg (c_Arr2Disk x7.Disks)), (43, vI 0), (64, vB (x25.2.2.2 && true))], [(2, some (.box [.val (.slice none 0 0), cI 0, cB false, cI 0, cI 0, cB false, .val (.slice none 0 0), cI 0, cB false, cI 0, cI 0, cB false, cI 0, cI 0, cI 0, cI 0])), (3, some (.box [cI 0, .val (.slice none 0 0), .val (.slice none 0 0)])), (4, some (.box (c_Store x7))), (5, some (.box [cI 0, .val (.slice none 0 0), .val (.slice none 0 0)])), (7, some (.box (c_StoreContents x25.2.1)))]⟩ : ASt) ?_ ?_
  · rcases Md.bool_or (x25.2.2.2) with q26 | q26
    · skip
      refine y_mv q26 ?_
      refine y_nt q26 ?_
      refine y_mv q26 ?_
      iterate 4 refine aops_no rfl rfl rfl rfl rfl (by decide) ?_
      refine aops_yes rfl rfl rfl rfl q26 (st_pick_yes rfl (by first | rfl | exact rfl) rfl rfl) (s_py q26 ?_)
      refine aops_nil ?_
      exact wq q26
    iterate 3 refine np q26 ?_
    iterate 4 refine aops_und rfl rfl rfl rfl rfl ?_
    refine np q26 ?_
    refine s_pn q26 ?_
    refine aops_nil ?_
    exact wq q26
  refine aops_nil ?_
  refine aw_cond rfl (fun c27 => ?_) (fun c27 => ?_)
  · replace j8 := Md.cond_t j8 c27
    refine aw_seq ?_
    apply aw_draw_stores 13 [(8, [7, 0], 4, (c_Arr2Disk x7.Disks ++ [cI 0, cI x7.Number, cI x7.Base, cI x7.Count])), (10, [9, 1, 8, 0, 7], 4, (c_Arr2Disk x7.Disks ++ [cI 0, cI x25.1, cI x7.Base, cI x7.Count])), (12, [11, 3, 10, 0, 1, 2, 7, 8, 9], 4, (c_Arr2Disk x7.Disks ++ [cI 0, cI x25.1, cI x25.2.1.Base, cI x7.Count]))] ((⟨[], vI 0⟩ : Add) :: ⟨[], vI x25.1⟩ :: ⟨[], .one (.ptr 7 _)⟩ :: ⟨[], vI x25.2.1.Base⟩ :: ⟨[], .one (.ptr 7 _)⟩ :: ⟨[], .one (CV.ls c_LU8 x25.2.1.Entries)⟩ :: ⟨[], vI ((x25.2.1.Entries.length : Nat) : Int)⟩ :: ⟨[], .one (.ptr 4 _)⟩ :: ⟨[], .one .any⟩ :: ⟨[], .one (.ptr 4 _)⟩ :: ⟨[], .one .any⟩ :: ⟨[], .one (.ptr 4 _)⟩ :: ⟨[], .one .any⟩ :: []) (by decide) rfl ?hk8x ?hf8x ?ho8x ?hv8x ?hr8x
    case ho8x =>
     refine ⟨.inr ⟨[], [], (by decide +kernel), (by decide +kernel), ⟨?_, .inr (.inl rfl), .inr (.inl rfl), .inl rfl⟩⟩, ?_⟩
     · refine .inr (.inr fun S hle hfr => ?_)
       exact .inl ⟨w0, st_move (hle.e rfl) (hle.d rfl)⟩
     refine ⟨.inr ⟨[], [], (by decide +kernel), (by decide +kernel), ⟨?_, ?_, .inr (.inl rfl), .inl rfl⟩⟩, ?_⟩
     · refine .inr (.inr fun S hle hfr => ?_)
       exact .inl ⟨w0, st_move (hle.e rfl) (hle.d rfl)⟩
     · refine .inr (.inr fun S hle hfr => ?_)
       exact .inl ⟨w0, st_move (hle.e rfl) (hle.d rfl)⟩
     refine ⟨.inr ⟨[], [], (by decide +kernel), (by decide +kernel), ⟨?_, ?_, ?_, .inl rfl⟩⟩, ?_⟩
     · refine .inr (.inr fun S hle hfr => ?_)
       exact .inl ⟨w0, ev_field (hle.e rfl) rfl (hle.d rfl)⟩
     · refine .inr (.inr fun S hle hfr => ?_)
       exact .inl ⟨w0, ev_field (hle.e rfl) rfl (hle.d rfl)⟩
     · refine .inr (.inr fun S hle hfr => ?_)
       exact .inl ⟨w0, ev_field (hle.e rfl) rfl (hle.d rfl)⟩
     refine ⟨.inr ⟨2 :: [], [], (by decide +kernel), (by decide +kernel), ⟨?_, ?_, ?_, .inl rfl⟩⟩, ?_⟩
     · refine .inr (.inr fun S hle hfr => ?_)
       exact .inl ⟨w0, ev_load (hle.e rfl) (hle.heap _ _ rfl) rfl (hle.d rfl)⟩
     · refine .inr (.inr fun S hle hfr => ?_)
       exact .inl ⟨w0, ev_load (hle.e rfl) (hle.heap _ _ rfl) rfl (hle.d rfl)⟩
     · refine .inr (.inr fun S hle hfr => ?_)
       exact .inl ⟨w0, ev_load (hle.e rfl) (hle.heap _ _ rfl) rfl (hle.d rfl)⟩
     refine ⟨.inr ⟨[], [], (by decide +kernel), (by decide +kernel), ⟨?_, ?_, ?_, ?_⟩⟩, ?_⟩
     · refine .inr (.inr fun S hle hfr => ?_)
       exact .inl ⟨w0, ev_field (hle.e rfl) rfl (hle.d rfl)⟩
     · refine .inr (.inr fun S hle hfr => ?_)
       exact .inl ⟨w0, ev_field (hle.e rfl) rfl (hle.d rfl)⟩
     · refine .inr (.inr fun S hle hfr => ?_)
       exact .inl ⟨w0, ev_field (hle.e rfl) rfl (hle.d rfl)⟩
     · refine .inr fun S hle hfr => ?_
       exact .inl ⟨w0, ev_field (hle.e rfl) rfl (hle.d rfl)⟩
     refine ⟨.inr ⟨4 :: [], [], (by decide +kernel), (by decide +kernel), ⟨?_, ?_, ?_, ?_⟩⟩, ?_⟩
     · refine .inr (.inr fun S hle hfr => ?_)
       exact .inl ⟨w0, ev_load (hle.e rfl) (hle.heap _ _ rfl) rfl (hle.d rfl)⟩
     · refine .inr (.inr fun S hle hfr => ?_)
       exact .inl ⟨w0, ev_load (hle.e rfl) (hle.heap _ _ rfl) rfl (hle.d rfl)⟩
     · refine .inr (.inr fun S hle hfr => ?_)
       exact .inl ⟨w0, ev_load (hle.e rfl) (hle.heap _ _ rfl) rfl (hle.d rfl)⟩
     · refine .inr fun S hle hfr => ?_
       exact .inl ⟨w0, ev_load (hle.e rfl) (hle.heap _ _ rfl) rfl (hle.d rfl)⟩
     refine ⟨.inr ⟨5 :: 4 :: [], [], (by decide +kernel), (by decide +kernel), ⟨?_, ?_, ?_, ?_⟩⟩, ?_⟩
     · refine .inr (.inr fun S hle hfr => ?_)
       exact .inl ⟨w0, ev_len_slc (hle.e rfl) (hle.d rfl)⟩
     · refine .inr (.inr fun S hle hfr => ?_)
       exact .inl ⟨w0, ev_len_slc (hle.e rfl) (hle.d rfl)⟩
     · refine .inr (.inr fun S hle hfr => ?_)
       exact .inl ⟨w0, ev_len_slc (hle.e rfl) (hle.d rfl)⟩
     · refine .inr fun S hle hfr => ?_
       exact .inl ⟨w0, ev_len_slc (hle.e rfl) (hle.d rfl)⟩
     refine ⟨.inr ⟨0 :: [], [], (by decide +kernel), (by decide +kernel), ⟨?_, .inr (.inl rfl), .inr (.inl rfl), .inl rfl⟩⟩, ?_⟩
     · refine .inr (.inr fun S hle hfr => ?_)
       exact .inl ⟨w0, ev_field (hle.e rfl) rfl (hle.d rfl)⟩
     refine ⟨.inl rfl, ?_⟩
     refine ⟨.inr ⟨0 :: 1 :: 7 :: 8 :: [], [], (by decide +kernel), (by decide +kernel), ⟨.inl rfl, ?_, .inr (.inl rfl), .inl rfl⟩⟩, ?_⟩
     · refine .inr (.inr fun S hle hfr => ?_)
       exact .inl ⟨w0, ev_field (hle.e rfl) rfl (hle.d rfl)⟩
     refine ⟨.inl rfl, ?_⟩
     refine ⟨.inr ⟨0 :: 1 :: 2 :: 3 :: 7 :: 8 :: 9 :: 10 :: [], [], (by decide +kernel), (by decide +kernel), ⟨.inl rfl, .inl rfl, ?_, .inl rfl⟩⟩, ?_⟩
     · refine .inr (.inr fun S hle hfr => ?_)
       exact .inl ⟨w0, ev_field (hle.e rfl) rfl (hle.d rfl)⟩
     refine ⟨.inl rfl, ?_⟩
     exact trivial
    case hv8x =>
     refine ⟨⟨rfl, rfl, (by decide +kernel), rfl, rfl, _, _, rfl, rfl, rfl, fun S hle => st_store (cs' := [_, _, _, _, _, _, _, _, _, _, _, _, _, _, _, _]) (hle.e rfl) (hle.heap _ _ rfl) (hle.e rfl) rfl rfl rfl rfl (hle.d rfl) rfl⟩, ?_⟩
     refine ⟨⟨rfl, rfl, (by decide +kernel), rfl, rfl, _, _, rfl, rfl, rfl, fun S hle => st_store (cs' := [_, _, _, _, _, _, _, _, _, _, _, _, _, _, _, _]) (hle.e rfl) (hle.heap _ _ rfl) (hle.e rfl) rfl rfl rfl rfl (hle.d rfl) rfl⟩, ?_⟩
     refine ⟨⟨rfl, rfl, (by decide +kernel), rfl, rfl, _, _, rfl, rfl, rfl, fun S hle => st_store (cs' := [_, _, _, _, _, _, _, _, _, _, _, _, _, _, _, _]) (hle.e rfl) (hle.heap _ _ rfl) (hle.e rfl) rfl rfl rfl rfl (hle.d rfl) rfl⟩, ?_⟩
     exact trivial
    case hk8x => rfl
    case hf8x => rfl
    refine s_fd ?_
    refine s_st [_, _, _, _, _, _, _, _, _, _, _, _, _, _, _, _] ?_
    refine aops_nil (aw_region (s_ls [_, _, _] ?_))
    refine s_mv ?_
    refine s_st [_, _, _] ?_
    iterate 2 refine s_sa ?_
    refine aops_nil ?_
    show ∃ _x : Int × Bool × Store × StoreContents, _ = _ ∧ Weak _ _
    exact ⟨(x25.2.2.1, true, (⟨x7.Disks, 0, x25.1, x25.2.1.Base, ((x25.2.1.Entries.length : Nat) : Int)⟩ : Store), x25.2.1), Option.some.inj j8, wk⟩
  replace j8 := Md.cond_f j8 c27
  refine aw_skip ?_
  show ∃ _x : Int × Bool × Store × StoreContents, _ = _ ∧ Weak _ _
  exact ⟨(0, false, x7, (⟨0, ([] : List UInt8), ([] : List (List UInt8))⟩ : StoreContents)), Option.some.inj j8, wk⟩
end Md
end Go.Proofs.Ytkcfkcgclljncaa
