/-
  StorL: where a function's model gives a value, the function returns what reads as it (printed by wip/tools/auto.py). Condition of each: the model gives a value.
-/
import Derived.Test.YtkcfkcgclljncaaStorLM
import Derived.Test.YtkcfkcgclljncaaTy
import Derived.Test.YtkcfkcgclljncaaAbsS
import Derived.Test.YtkcfkcgclljncaaStorB
import Derived.Test.YtkcfkcgclljncaaStorK
namespace Go.Proofs.Ytkcfkcgclljncaa
open Go.ChangeShapes Go.WideShapes Go.RowKit
open Abs
set_option linter.unusedVariables false
set_option linter.unusedSimpArgs false
set_option maxRecDepth 10000
namespace Md
set_option maxHeartbeats 2000000 in
theorem actorgridlaw28_StoreAny_fn (k : Nat) (a0 : Store) (a1 : List UInt8) (a2 : Int) (r : Bool) (h : actorgridlaw28_StoreAny k a0 a1 a2 = some r) : FnC Try.prog 11 [.agg (c_Store a0), .one (CV.ls byC a1), vI a2] [] (Det (vB r) []) := by
  unfold actorgridlaw28_StoreAny at h
  refine fn_intro' 140 Try.func11 rfl rfl rfl (aw_seq (aw_region (aops_step1 rfl (st_box 0 rfl rfl rfl rfl) (s_sa ?_))))
  refine aops_nil (aw_seq (aw_seq (aw_region ?_)))
  obtain ⟨x1, hx1, h⟩ := Md.bind_s h
  refine aops_step1 rfl (ev_call_v (actorgridlaw28_awake_fn k x1 hx1) rfl [] ai rfl rfl rfl (.inl rfl) rfl) (s_nt ?_)
  refine aops_nil ?_
  refine aw_cond rfl (fun c2 => ?_) (fun c2 => ?_)
  · replace h := Md.cond_t h c2
    refine aw_seq (aw_region (s_sa ?_))
    refine aops_nil ?_
    cases Option.some.inj h
    exact aw_ret ⟨rfl, rv r1⟩
  replace h := Md.cond_f h c2
  refine aw_skip (aw_seq (aw_seq (aw_region (s_fd ?_))))
  refine aops_step1 rfl (ev_index_arr rfl rfl rfl rfl rfl) (s_fd ?_)
  refine s_ld ?_
  refine s_ln ?_
  refine s_cm ?_
  refine s_mv ?_
  refine aops_mid 7 (⟨140, [], [(1, .one (CV.ls byC a1)), (2, vI a2), (3, .one (.ptr 0 0)), (40, vB ((decide (((a0.Disks.x0.Data.length : Nat) : Int) > 2000)) || (decide (((a0.Disks.x1.Data.length : Nat) : Int) > 2000))))], [(0, some (.box (c_Store a0)))]⟩ : ASt) ?_ ?_
  · rcases Md.bool_or ((decide (((a0.Disks.x0.Data.length : Nat) : Int) > 2000))) with q3 | q3
    · skip
      iterate 6 refine np q3 ?_
      refine s_py q3 ?_
      refine aops_nil ?_
      exact wq q3
    refine y_fd q3 ?_
    refine aops_yes rfl rfl rfl rfl q3 (ev_index_arr rfl rfl rfl rfl rfl) (y_fd q3 ?_)
    refine y_ld q3 ?_
    refine y_ln q3 ?_
    refine y_cm q3 ?_
    refine s_pn q3 ?_
    refine aops_nil ?_
    exact wq q3
  refine s_mv ?_
  refine aops_mid 4 (⟨140, [], [(1, .one (CV.ls byC a1)), (2, vI a2), (3, .one (.ptr 0 0)), (45, vB (((decide (((a0.Disks.x0.Data.length : Nat) : Int) > 2000)) || (decide (((a0.Disks.x1.Data.length : Nat) : Int) > 2000))) || (decide (((a1.length : Nat) : Int) > 2000))))], [(0, some (.box (c_Store a0)))]⟩ : ASt) ?_ ?_
  · rcases Md.bool_or (((decide (((a0.Disks.x0.Data.length : Nat) : Int) > 2000)) || (decide (((a0.Disks.x1.Data.length : Nat) : Int) > 2000)))) with q4 | q4
    · skip
      iterate 3 refine np q4 ?_
      refine s_py q4 ?_
      refine aops_nil ?_
      exact wq q4
    refine y_mv q4 ?_
    refine y_ln q4 ?_
    refine y_cm q4 ?_
    refine s_pn q4 ?_
    refine aops_nil ?_
    exact wq q4
  refine aops_nil ?_
  refine aw_cond rfl (fun c5 => ?_) (fun c5 => ?_)
  · replace h := Md.cond_t h c5
    refine aw_seq (aw_region (s_sa ?_))
    refine aops_nil ?_
    cases Option.some.inj h
    exact aw_ret ⟨rfl, rv r1⟩
  replace h := Md.cond_f h c5
  refine aw_skip (aw_seq (aw_region (s_ls [_, _, _, _, _, _, _, _, _, _, _, _, _, _, _, _] ?_)))
  refine s_mv ?_
  obtain ⟨x6, hx6, h⟩ := Md.bind_s h
  refine aops_step1 rfl (ev_call_v (store_Put_fn k a0 a1 x6 hx6) rfl [] ai rfl rfl rfl (.inl rfl) rfl) (s_mt ?_)
  iterate 2 refine s_ex ?_
  refine aops_step1 rfl (st_alloc (cs := [.val (.slice none 0 0), cI 0, cB false, cI 0, cI 0, cB false, .val (.slice none 0 0), cI 0, cB false, cI 0, cI 0, cB false, cI 0, cI 0, cI 0, cI 0]) 1 rfl rfl rfl rfl rfl) (s_st [_, _, _, _, _, _, _, _, _, _, _, _, _, _, _, _] ?_)
  refine s_sa ?_
  refine aops_nil (aw_seq (aw_region (s_ls [_, _, _, _, _, _, _, _, _, _, _, _, _, _, _, _] ?_)))
  refine s_mv ?_
  obtain ⟨x7, hx7, h⟩ := Md.bind_s h
  refine aops_step1 rfl (ev_call_v (actorgridref26_Put_fn k a0 a1 x7 hx7) rfl [] ai rfl rfl rfl (.inl rfl) rfl) (s_mt ?_)
  iterate 2 refine s_ex ?_
  refine aops_step1 rfl (st_alloc (cs := [.val (.slice none 0 0), cI 0, cB false, cI 0, cI 0, cB false, .val (.slice none 0 0), cI 0, cB false, cI 0, cI 0, cB false, cI 0, cI 0, cI 0, cI 0]) 2 rfl rfl rfl rfl rfl) (s_st [_, _, _, _, _, _, _, _, _, _, _, _, _, _, _, _] ?_)
  refine s_sa ?_
  refine aops_nil (aw_seq (aw_region (s_ls [_, _, _, _, _, _, _, _, _, _, _, _, _, _, _, _] ?_)))
  refine s_mv ?_
  obtain ⟨x8, hx8, h⟩ := Md.bind_s h
  refine aops_step1 rfl (ev_call_v (store_Checkpoint_fn k a0 a1 x8 hx8) rfl [] ai rfl rfl rfl (.inl rfl) rfl) (s_mt ?_)
  iterate 2 refine s_ex ?_
  refine aops_step1 rfl (st_alloc (cs := [.val (.slice none 0 0), cI 0, cB false, cI 0, cI 0, cB false, .val (.slice none 0 0), cI 0, cB false, cI 0, cI 0, cB false, cI 0, cI 0, cI 0, cI 0]) 3 rfl rfl rfl rfl rfl) (s_st [_, _, _, _, _, _, _, _, _, _, _, _, _, _, _, _] ?_)
  refine s_sa ?_
  refine aops_nil (aw_seq (aw_region (s_ls [_, _, _, _, _, _, _, _, _, _, _, _, _, _, _, _] ?_)))
  refine s_mv ?_
  obtain ⟨x9, hx9, h⟩ := Md.bind_s h
  refine aops_step1 rfl (ev_call_v (actorgridref26_Checkpoint_fn k a0 a1 x9 hx9) rfl [] ai rfl rfl rfl (.inl rfl) rfl) (s_mt ?_)
  iterate 2 refine s_ex ?_
  refine aops_step1 rfl (st_alloc (cs := [.val (.slice none 0 0), cI 0, cB false, cI 0, cI 0, cB false, .val (.slice none 0 0), cI 0, cB false, cI 0, cI 0, cB false, cI 0, cI 0, cI 0, cI 0]) 4 rfl rfl rfl rfl rfl) (s_st [_, _, _, _, _, _, _, _, _, _, _, _, _, _, _, _] ?_)
  refine s_sa ?_
  refine aops_nil (aw_seq (aw_region (s_fd ?_)))
  refine aops_step1 rfl (ev_index_arr rfl rfl rfl rfl rfl) (s_ls [_, _, _, _, _, _] ?_)
  refine s_fd ?_
  refine aops_step1 rfl (ev_index_arr rfl rfl rfl rfl rfl) (s_ls [_, _, _, _, _, _] ?_)
  obtain ⟨x10, hx10, h⟩ := Md.bind_s h
  refine aops_step1 rfl (ev_call_v (store_Recover_fn k a0.Disks.x0 a0.Disks.x1 x10 hx10) rfl [] ai rfl rfl rfl (.inl rfl) rfl) (s_mt ?_)
  iterate 3 refine s_ex ?_
  refine aops_step1 rfl (st_alloc (cs := [.val (.slice none 0 0), cI 0, cB false, cI 0, cI 0, cB false, .val (.slice none 0 0), cI 0, cB false, cI 0, cI 0, cB false, cI 0, cI 0, cI 0, cI 0]) 5 rfl rfl rfl rfl rfl) ?_
  refine aops_step1 rfl (st_alloc (cs := [cI 0, .val (.slice none 0 0), .val (.slice none 0 0)]) 6 rfl rfl rfl rfl rfl) (s_st [_, _, _, _, _, _, _, _, _, _, _, _, _, _, _, _] ?_)
  refine s_st [_, _, _] ?_
  refine s_sa ?_
  refine aops_nil (aw_seq (aw_region (s_fd ?_)))
  refine aops_step1 rfl (ev_index_arr rfl rfl rfl rfl rfl) (s_ls [_, _, _, _, _, _] ?_)
  refine s_fd ?_
  refine aops_step1 rfl (ev_index_arr rfl rfl rfl rfl rfl) (s_ls [_, _, _, _, _, _] ?_)
  obtain ⟨x11, hx11, h⟩ := Md.bind_s h
  refine aops_step1 rfl (ev_call_v (actorgridref26_RecoverStore_fn k a0.Disks.x0 a0.Disks.x1 x11 hx11) rfl [] ai rfl rfl rfl (.inl rfl) rfl) (s_mt ?_)
  iterate 3 refine s_ex ?_
  refine aops_step1 rfl (st_alloc (cs := [.val (.slice none 0 0), cI 0, cB false, cI 0, cI 0, cB false, .val (.slice none 0 0), cI 0, cB false, cI 0, cI 0, cB false, cI 0, cI 0, cI 0, cI 0]) 7 rfl rfl rfl rfl rfl) ?_
  refine aops_step1 rfl (st_alloc (cs := [cI 0, .val (.slice none 0 0), .val (.slice none 0 0)]) 8 rfl rfl rfl rfl rfl) (s_st [_, _, _, _, _, _, _, _, _, _, _, _, _, _, _, _] ?_)
  refine s_st [_, _, _] ?_
  refine s_sa ?_
  refine aops_nil (aw_seq (aw_region (s_mv ?_)))
  obtain ⟨x12, hx12, h⟩ := Md.bind_s h
  refine aops_step1 rfl (ev_call_v (store_New_fn k a2 x12 hx12) rfl [] ai rfl rfl rfl (.inl rfl) rfl) (s_mt ?_)
  iterate 2 refine s_ex ?_
  refine aops_step1 rfl (st_alloc (cs := [.val (.slice none 0 0), cI 0, cB false, cI 0, cI 0, cB false, .val (.slice none 0 0), cI 0, cB false, cI 0, cI 0, cB false, cI 0, cI 0, cI 0, cI 0]) 9 rfl rfl rfl rfl rfl) (s_st [_, _, _, _, _, _, _, _, _, _, _, _, _, _, _, _] ?_)
  refine s_sa ?_
  refine aops_nil (aw_seq (aw_region (s_mv ?_)))
  obtain ⟨x13, hx13, h⟩ := Md.bind_s h
  refine aops_step1 rfl (ev_call_v (actorgridref26_NewStore_fn k a2 x13 hx13) rfl [] ai rfl rfl rfl (.inl rfl) rfl) (s_mt ?_)
  iterate 2 refine s_ex ?_
  refine aops_step1 rfl (st_alloc (cs := [.val (.slice none 0 0), cI 0, cB false, cI 0, cI 0, cB false, .val (.slice none 0 0), cI 0, cB false, cI 0, cI 0, cB false, cI 0, cI 0, cI 0, cI 0]) 10 rfl rfl rfl rfl rfl) (s_st [_, _, _, _, _, _, _, _, _, _, _, _, _, _, _, _] ?_)
  refine s_sa ?_
  refine aops_nil ?_
  obtain ⟨x14, hx14, h⟩ := Md.bind_s h
  rcases Md.bool_or (x14) with q15 | q15
  · replace h := Md.cond_t h q15
    obtain ⟨x16, hx16, h⟩ := Md.bind_s h
    rcases Md.bool_or (x16) with q17 | q17
    · replace h := Md.cond_t h q17
      obtain ⟨x18, hx18, h⟩ := Md.bind_s h
      rcases Md.bool_or (x18) with q19 | q19
      · replace h := Md.cond_t h q19
        obtain ⟨x20, hx20, h⟩ := Md.bind_s h
        rcases Md.bool_or (x20) with q21 | q21
        · replace h := Md.cond_t h q21
          obtain ⟨x22, hx22, h⟩ := Md.bind_s h
          rcases Md.bool_or (x22) with q23 | q23
          · replace h := Md.cond_t h q23
            obtain ⟨x24, hx24, h⟩ := Md.bind_s h
            obtain ⟨x25, hx25, h⟩ := Md.bind_s h
            refine aw_seq ?_
            apply aw_draw 35 ((⟨[], .agg (c_Store x6.1)⟩ : Add) :: ⟨[], vI x6.2⟩ :: ⟨[], .agg (c_Store x7.1)⟩ :: ⟨[], vI x7.2⟩ :: ⟨[], vB x14⟩ :: ⟨[], vB x14⟩ :: ⟨[], .agg (c_Store x8.1)⟩ :: ⟨[], vI x8.2⟩ :: ⟨[], .agg (c_Store x9.1)⟩ :: ⟨[], vI x9.2⟩ :: ⟨[], vB x16⟩ :: ⟨[], vB x16⟩ :: ⟨[], vB x16⟩ :: ⟨[], .agg (c_Store x10.1)⟩ :: ⟨[], vI x10.2.2⟩ :: ⟨[], .agg (c_Store x11.1)⟩ :: ⟨[], vI x11.2.2⟩ :: ⟨[], vB x18⟩ :: ⟨[], vB x18⟩ :: ⟨[], vB x18⟩ :: ⟨[], .agg (c_StoreContents x10.2.1)⟩ :: ⟨[], .agg (c_StoreContents x11.2.1)⟩ :: ⟨[], vB x20⟩ :: ⟨[], vB x20⟩ :: ⟨[], vB x20⟩ :: ⟨[], .agg (c_Store x12.1)⟩ :: ⟨[], vI x12.2⟩ :: ⟨[], .agg (c_Store x13.1)⟩ :: ⟨[], vI x13.2⟩ :: ⟨[], vB x22⟩ :: ⟨[], vB x22⟩ :: ⟨[], vB x22⟩ :: ⟨[], .agg (c_Store a0)⟩ :: ⟨[], vB x24⟩ :: ⟨[], .agg (c_Store a0)⟩ :: []) (by decide) rfl ?hk1x ?hf1x ?ho1x ?hr1x
            case ho1x =>
             refine ob [] (fun S hle hfr => .inl ⟨w0, ev_loads (ds := [_, _, _, _, _, _, _, _, _, _, _, _, _, _, _, _]) (hle.e rfl) (hle.heap _ _ rfl) rfl rfl (hle.d rfl)⟩) ?_
             refine ob [] (fun S hle hfr => .inl ⟨w0, st_move (hle.e rfl) (hle.d rfl)⟩) ?_
             refine ob [] (fun S hle hfr => .inl ⟨w0, ev_loads (ds := [_, _, _, _, _, _, _, _, _, _, _, _, _, _, _, _]) (hle.e rfl) (hle.heap _ _ rfl) rfl rfl (hle.d rfl)⟩) ?_
             refine ob [] (fun S hle hfr => .inl ⟨w0, st_move (hle.e rfl) (hle.d rfl)⟩) ?_
             refine ob [0, 1, 2, 3] (fun S hle hfr => .inl ⟨w0, ev_call_v (actorgridlaw28_same_fn k x6.1 x6.2 x7.1 x7.2 x14 hx14) (map_ev (.cons (hle.e rfl) (.cons (hle.e rfl) (.cons (hle.e rfl) (.cons (hle.e rfl) (.nil)))))) [] (by repeat' (first | exact .nil | refine .cons ?_ ?_ | refine .one ?_ | refine .agg ?_ | exact .mk rfl | exact .lend (hle.heap _ _ rfl) (by simp) | exact .le (.nil _) rfl | exact .le (.emp _) rfl | exact .le (.any _) rfl | fail)) rfl rfl rfl (.inl rfl) (hle.d rfl)⟩) ?_
             refine ob [4, 0, 1, 2, 3] (fun S hle hfr => .inl ⟨w0, st_move (hle.e rfl) (hle.d rfl)⟩) ?_
             refine ob [5, 4, 0, 1, 2, 3] (fun S hle hfr => .inl ⟨wy hle q15, ev_loads (ds := [_, _, _, _, _, _, _, _, _, _, _, _, _, _, _, _]) (hle.e rfl) (hle.heap _ _ rfl) rfl rfl (hle.d rfl)⟩) ?_
             refine ob [5, 4, 0, 1, 2, 3] (fun S hle hfr => .inl ⟨wy hle q15, st_move (hle.e rfl) (hle.d rfl)⟩) ?_
             refine ob [5, 4, 0, 1, 2, 3] (fun S hle hfr => .inl ⟨wy hle q15, ev_loads (ds := [_, _, _, _, _, _, _, _, _, _, _, _, _, _, _, _]) (hle.e rfl) (hle.heap _ _ rfl) rfl rfl (hle.d rfl)⟩) ?_
             refine ob [5, 4, 0, 1, 2, 3] (fun S hle hfr => .inl ⟨wy hle q15, st_move (hle.e rfl) (hle.d rfl)⟩) ?_
             refine ob [6, 7, 8, 9, 5, 4, 0, 1, 2, 3] (fun S hle hfr => .inl ⟨wy hle q15, ev_call_v (actorgridlaw28_same_fn k x8.1 x8.2 x9.1 x9.2 x16 hx16) (map_ev (.cons (hle.e rfl) (.cons (hle.e rfl) (.cons (hle.e rfl) (.cons (hle.e rfl) (.nil)))))) [] (by repeat' (first | exact .nil | refine .cons ?_ ?_ | refine .one ?_ | refine .agg ?_ | exact .mk rfl | exact .lend (hle.heap _ _ rfl) (by simp) | exact .le (.nil _) rfl | exact .le (.emp _) rfl | exact .le (.any _) rfl | fail)) rfl rfl rfl (.inl rfl) (hle.d rfl)⟩) ?_
             refine ob [5, 10, 4, 6, 7, 8, 9, 0, 1, 2, 3] (fun S hle hfr => .inl ⟨w0, st_pick_yes (hle.e rfl) (by first | rfl | exact q15) (hle.e rfl) (hle.d rfl)⟩) ?_
             refine ob [11, 10, 5, 6, 7, 8, 9, 4, 0, 1, 2, 3] (fun S hle hfr => .inl ⟨w0, st_move (hle.e rfl) (hle.d rfl)⟩) ?_
             refine ob [12, 11, 10, 5, 6, 7, 8, 9, 4, 0, 1, 2, 3] (fun S hle hfr => .inl ⟨wy hle q17, ev_loads (ds := [_, _, _, _, _, _, _, _, _, _, _, _, _, _, _, _]) (hle.e rfl) (hle.heap _ _ rfl) rfl rfl (hle.d rfl)⟩) ?_
             refine ob [12, 11, 10, 5, 6, 7, 8, 9, 4, 0, 1, 2, 3] (fun S hle hfr => .inl ⟨wy hle q17, st_move (hle.e rfl) (hle.d rfl)⟩) ?_
             refine ob [12, 11, 10, 5, 6, 7, 8, 9, 4, 0, 1, 2, 3] (fun S hle hfr => .inl ⟨wy hle q17, ev_loads (ds := [_, _, _, _, _, _, _, _, _, _, _, _, _, _, _, _]) (hle.e rfl) (hle.heap _ _ rfl) rfl rfl (hle.d rfl)⟩) ?_
             refine ob [12, 11, 10, 5, 6, 7, 8, 9, 4, 0, 1, 2, 3] (fun S hle hfr => .inl ⟨wy hle q17, st_move (hle.e rfl) (hle.d rfl)⟩) ?_
             refine ob [13, 14, 15, 16, 12, 11, 10, 5, 6, 7, 8, 9, 4, 0, 1, 2, 3] (fun S hle hfr => .inl ⟨wy hle q17, ev_call_v (actorgridlaw28_same_fn k x10.1 x10.2.2 x11.1 x11.2.2 x18 hx18) (map_ev (.cons (hle.e rfl) (.cons (hle.e rfl) (.cons (hle.e rfl) (.cons (hle.e rfl) (.nil)))))) [] (by repeat' (first | exact .nil | refine .cons ?_ ?_ | refine .one ?_ | refine .agg ?_ | exact .mk rfl | exact .lend (hle.heap _ _ rfl) (by simp) | exact .le (.nil _) rfl | exact .le (.emp _) rfl | exact .le (.any _) rfl | fail)) rfl rfl rfl (.inl rfl) (hle.d rfl)⟩) ?_
             refine ob [12, 17, 11, 10, 13, 14, 15, 16, 5, 6, 7, 8, 9, 4, 0, 1, 2, 3] (fun S hle hfr => .inl ⟨w0, st_pick_yes (hle.e rfl) (by first | rfl | exact q17) (hle.e rfl) (hle.d rfl)⟩) ?_
             refine ob [18, 17, 12, 13, 14, 15, 16, 11, 10, 5, 6, 7, 8, 9, 4, 0, 1, 2, 3] (fun S hle hfr => .inl ⟨w0, st_move (hle.e rfl) (hle.d rfl)⟩) ?_
             refine ob [19, 18, 17, 12, 13, 14, 15, 16, 11, 10, 5, 6, 7, 8, 9, 4, 0, 1, 2, 3] (fun S hle hfr => .inl ⟨wy hle q19, ev_loads (ds := [_, _, _]) (hle.e rfl) (hle.heap _ _ rfl) rfl rfl (hle.d rfl)⟩) ?_
             refine ob [19, 18, 17, 12, 13, 14, 15, 16, 11, 10, 5, 6, 7, 8, 9, 4, 0, 1, 2, 3] (fun S hle hfr => .inl ⟨wy hle q19, ev_loads (ds := [_, _, _]) (hle.e rfl) (hle.heap _ _ rfl) rfl rfl (hle.d rfl)⟩) ?_
             refine ob [20, 21, 19, 18, 17, 12, 13, 14, 15, 16, 11, 10, 5, 6, 7, 8, 9, 4, 0, 1, 2, 3] (fun S hle hfr => .inl ⟨wy hle q19, ev_call_v (actorgridref26_SameContents_fn k x10.2.1 x11.2.1 x20 hx20) (map_ev (.cons (hle.e rfl) (.cons (hle.e rfl) (.nil)))) [] (by repeat' (first | exact .nil | refine .cons ?_ ?_ | refine .one ?_ | refine .agg ?_ | exact .mk rfl | exact .lend (hle.heap _ _ rfl) (by simp) | exact .le (.nil _) rfl | exact .le (.emp _) rfl | exact .le (.any _) rfl | fail)) rfl rfl rfl (.inl rfl) (hle.d rfl)⟩) ?_
             refine ob [19, 22, 18, 17, 20, 21, 12, 13, 14, 15, 16, 11, 10, 5, 6, 7, 8, 9, 4, 0, 1, 2, 3] (fun S hle hfr => .inl ⟨w0, st_pick_yes (hle.e rfl) (by first | rfl | exact q19) (hle.e rfl) (hle.d rfl)⟩) ?_
             refine ob [23, 22, 19, 20, 21, 18, 17, 12, 13, 14, 15, 16, 11, 10, 5, 6, 7, 8, 9, 4, 0, 1, 2, 3] (fun S hle hfr => .inl ⟨w0, st_move (hle.e rfl) (hle.d rfl)⟩) ?_
             refine ob [24, 23, 22, 19, 20, 21, 18, 17, 12, 13, 14, 15, 16, 11, 10, 5, 6, 7, 8, 9, 4, 0, 1, 2, 3] (fun S hle hfr => .inl ⟨wy hle q21, ev_loads (ds := [_, _, _, _, _, _, _, _, _, _, _, _, _, _, _, _]) (hle.e rfl) (hle.heap _ _ rfl) rfl rfl (hle.d rfl)⟩) ?_
             refine ob [24, 23, 22, 19, 20, 21, 18, 17, 12, 13, 14, 15, 16, 11, 10, 5, 6, 7, 8, 9, 4, 0, 1, 2, 3] (fun S hle hfr => .inl ⟨wy hle q21, st_move (hle.e rfl) (hle.d rfl)⟩) ?_
             refine ob [24, 23, 22, 19, 20, 21, 18, 17, 12, 13, 14, 15, 16, 11, 10, 5, 6, 7, 8, 9, 4, 0, 1, 2, 3] (fun S hle hfr => .inl ⟨wy hle q21, ev_loads (ds := [_, _, _, _, _, _, _, _, _, _, _, _, _, _, _, _]) (hle.e rfl) (hle.heap _ _ rfl) rfl rfl (hle.d rfl)⟩) ?_
             refine ob [24, 23, 22, 19, 20, 21, 18, 17, 12, 13, 14, 15, 16, 11, 10, 5, 6, 7, 8, 9, 4, 0, 1, 2, 3] (fun S hle hfr => .inl ⟨wy hle q21, st_move (hle.e rfl) (hle.d rfl)⟩) ?_
             refine ob [25, 26, 27, 28, 24, 23, 22, 19, 20, 21, 18, 17, 12, 13, 14, 15, 16, 11, 10, 5, 6, 7, 8, 9, 4, 0, 1, 2, 3] (fun S hle hfr => .inl ⟨wy hle q21, ev_call_v (actorgridlaw28_same_fn k x12.1 x12.2 x13.1 x13.2 x22 hx22) (map_ev (.cons (hle.e rfl) (.cons (hle.e rfl) (.cons (hle.e rfl) (.cons (hle.e rfl) (.nil)))))) [] (by repeat' (first | exact .nil | refine .cons ?_ ?_ | refine .one ?_ | refine .agg ?_ | exact .mk rfl | exact .lend (hle.heap _ _ rfl) (by simp) | exact .le (.nil _) rfl | exact .le (.emp _) rfl | exact .le (.any _) rfl | fail)) rfl rfl rfl (.inl rfl) (hle.d rfl)⟩) ?_
             refine ob [24, 29, 23, 22, 25, 26, 27, 28, 19, 20, 21, 18, 17, 12, 13, 14, 15, 16, 11, 10, 5, 6, 7, 8, 9, 4, 0, 1, 2, 3] (fun S hle hfr => .inl ⟨w0, st_pick_yes (hle.e rfl) (by first | rfl | exact q21) (hle.e rfl) (hle.d rfl)⟩) ?_
             refine ob [30, 29, 24, 25, 26, 27, 28, 23, 22, 19, 20, 21, 18, 17, 12, 13, 14, 15, 16, 11, 10, 5, 6, 7, 8, 9, 4, 0, 1, 2, 3] (fun S hle hfr => .inl ⟨w0, st_move (hle.e rfl) (hle.d rfl)⟩) ?_
             refine ob [31, 30, 29, 24, 25, 26, 27, 28, 23, 22, 19, 20, 21, 18, 17, 12, 13, 14, 15, 16, 11, 10, 5, 6, 7, 8, 9, 4, 0, 1, 2, 3] (fun S hle hfr => .inl ⟨wy hle q23, ev_loads (ds := [_, _, _, _, _, _, _, _, _, _, _, _, _, _, _, _]) (hle.e rfl) (hle.heap _ _ rfl) rfl rfl (hle.d rfl)⟩) ?_
             refine ob [32, 31, 30, 29, 24, 25, 26, 27, 28, 23, 22, 19, 20, 21, 18, 17, 12, 13, 14, 15, 16, 11, 10, 5, 6, 7, 8, 9, 4, 0, 1, 2, 3] (fun S hle hfr => .inl ⟨wy hle q23, ev_call_v (store_Valid_fn k a0 x24 hx24) (map_ev (.cons (hle.e rfl) (.nil))) [] (by repeat' (first | exact .nil | refine .cons ?_ ?_ | refine .one ?_ | refine .agg ?_ | exact .mk rfl | exact .lend (hle.heap _ _ rfl) (by simp) | exact .le (.nil _) rfl | exact .le (.emp _) rfl | exact .le (.any _) rfl | fail)) rfl rfl rfl (.inl rfl) (hle.d rfl)⟩) ?_
             refine ob [31, 30, 29, 24, 25, 26, 27, 28, 23, 22, 19, 20, 21, 18, 17, 12, 13, 14, 15, 16, 11, 10, 5, 6, 7, 8, 9, 4, 0, 1, 2, 3] (fun S hle hfr => .inl ⟨wy hle q23, ev_loads (ds := [_, _, _, _, _, _, _, _, _, _, _, _, _, _, _, _]) (hle.e rfl) (hle.heap _ _ rfl) rfl rfl (hle.d rfl)⟩) ?_
             exact trivial
            case hk1x => rfl
            case hf1x => rfl
            refine aops_yes rfl rfl rfl rfl q23 (ev_call_v (actorgridref26_ValidStore_fn k a0 x25 hx25) rfl [] ai rfl rfl rfl (.inl rfl) rfl) ?_
            refine aops_yes rfl rfl rfl rfl q23 (ev_bool_eq rfl rfl rfl Try.underlying4 rfl) (s_py q23 ?_)
            refine s_sa ?_
            refine aops_nil ?_
            cases Option.some.inj h
            exact aw_ret ⟨rfl, rv r1⟩
          replace h := Md.cond_f h q23
          refine aw_seq ?_
          apply aw_draw 35 ((⟨[], .agg (c_Store x6.1)⟩ : Add) :: ⟨[], vI x6.2⟩ :: ⟨[], .agg (c_Store x7.1)⟩ :: ⟨[], vI x7.2⟩ :: ⟨[], vB x14⟩ :: ⟨[], vB x14⟩ :: ⟨[], .agg (c_Store x8.1)⟩ :: ⟨[], vI x8.2⟩ :: ⟨[], .agg (c_Store x9.1)⟩ :: ⟨[], vI x9.2⟩ :: ⟨[], vB x16⟩ :: ⟨[], vB x16⟩ :: ⟨[], vB x16⟩ :: ⟨[], .agg (c_Store x10.1)⟩ :: ⟨[], vI x10.2.2⟩ :: ⟨[], .agg (c_Store x11.1)⟩ :: ⟨[], vI x11.2.2⟩ :: ⟨[], vB x18⟩ :: ⟨[], vB x18⟩ :: ⟨[], vB x18⟩ :: ⟨[], .agg (c_StoreContents x10.2.1)⟩ :: ⟨[], .agg (c_StoreContents x11.2.1)⟩ :: ⟨[], vB x20⟩ :: ⟨[], vB x20⟩ :: ⟨[], vB x20⟩ :: ⟨[], .agg (c_Store x12.1)⟩ :: ⟨[], vI x12.2⟩ :: ⟨[], .agg (c_Store x13.1)⟩ :: ⟨[], vI x13.2⟩ :: ⟨[], vB x22⟩ :: ⟨[], vB x22⟩ :: ⟨[], vB x22⟩ :: ⟨[], .tup []⟩ :: ⟨[], .tup []⟩ :: ⟨[], .tup []⟩ :: []) (by decide) rfl ?hk2x ?hf2x ?ho2x ?hr2x
          case ho2x =>
           refine ob [] (fun S hle hfr => .inl ⟨w0, ev_loads (ds := [_, _, _, _, _, _, _, _, _, _, _, _, _, _, _, _]) (hle.e rfl) (hle.heap _ _ rfl) rfl rfl (hle.d rfl)⟩) ?_
           refine ob [] (fun S hle hfr => .inl ⟨w0, st_move (hle.e rfl) (hle.d rfl)⟩) ?_
           refine ob [] (fun S hle hfr => .inl ⟨w0, ev_loads (ds := [_, _, _, _, _, _, _, _, _, _, _, _, _, _, _, _]) (hle.e rfl) (hle.heap _ _ rfl) rfl rfl (hle.d rfl)⟩) ?_
           refine ob [] (fun S hle hfr => .inl ⟨w0, st_move (hle.e rfl) (hle.d rfl)⟩) ?_
           refine ob [0, 1, 2, 3] (fun S hle hfr => .inl ⟨w0, ev_call_v (actorgridlaw28_same_fn k x6.1 x6.2 x7.1 x7.2 x14 hx14) (map_ev (.cons (hle.e rfl) (.cons (hle.e rfl) (.cons (hle.e rfl) (.cons (hle.e rfl) (.nil)))))) [] (by repeat' (first | exact .nil | refine .cons ?_ ?_ | refine .one ?_ | refine .agg ?_ | exact .mk rfl | exact .lend (hle.heap _ _ rfl) (by simp) | exact .le (.nil _) rfl | exact .le (.emp _) rfl | exact .le (.any _) rfl | fail)) rfl rfl rfl (.inl rfl) (hle.d rfl)⟩) ?_
           refine ob [4, 0, 1, 2, 3] (fun S hle hfr => .inl ⟨w0, st_move (hle.e rfl) (hle.d rfl)⟩) ?_
           refine ob [5, 4, 0, 1, 2, 3] (fun S hle hfr => .inl ⟨wy hle q15, ev_loads (ds := [_, _, _, _, _, _, _, _, _, _, _, _, _, _, _, _]) (hle.e rfl) (hle.heap _ _ rfl) rfl rfl (hle.d rfl)⟩) ?_
           refine ob [5, 4, 0, 1, 2, 3] (fun S hle hfr => .inl ⟨wy hle q15, st_move (hle.e rfl) (hle.d rfl)⟩) ?_
           refine ob [5, 4, 0, 1, 2, 3] (fun S hle hfr => .inl ⟨wy hle q15, ev_loads (ds := [_, _, _, _, _, _, _, _, _, _, _, _, _, _, _, _]) (hle.e rfl) (hle.heap _ _ rfl) rfl rfl (hle.d rfl)⟩) ?_
           refine ob [5, 4, 0, 1, 2, 3] (fun S hle hfr => .inl ⟨wy hle q15, st_move (hle.e rfl) (hle.d rfl)⟩) ?_
           refine ob [6, 7, 8, 9, 5, 4, 0, 1, 2, 3] (fun S hle hfr => .inl ⟨wy hle q15, ev_call_v (actorgridlaw28_same_fn k x8.1 x8.2 x9.1 x9.2 x16 hx16) (map_ev (.cons (hle.e rfl) (.cons (hle.e rfl) (.cons (hle.e rfl) (.cons (hle.e rfl) (.nil)))))) [] (by repeat' (first | exact .nil | refine .cons ?_ ?_ | refine .one ?_ | refine .agg ?_ | exact .mk rfl | exact .lend (hle.heap _ _ rfl) (by simp) | exact .le (.nil _) rfl | exact .le (.emp _) rfl | exact .le (.any _) rfl | fail)) rfl rfl rfl (.inl rfl) (hle.d rfl)⟩) ?_
           refine ob [5, 10, 4, 6, 7, 8, 9, 0, 1, 2, 3] (fun S hle hfr => .inl ⟨w0, st_pick_yes (hle.e rfl) (by first | rfl | exact q15) (hle.e rfl) (hle.d rfl)⟩) ?_
           refine ob [11, 10, 5, 6, 7, 8, 9, 4, 0, 1, 2, 3] (fun S hle hfr => .inl ⟨w0, st_move (hle.e rfl) (hle.d rfl)⟩) ?_
           refine ob [12, 11, 10, 5, 6, 7, 8, 9, 4, 0, 1, 2, 3] (fun S hle hfr => .inl ⟨wy hle q17, ev_loads (ds := [_, _, _, _, _, _, _, _, _, _, _, _, _, _, _, _]) (hle.e rfl) (hle.heap _ _ rfl) rfl rfl (hle.d rfl)⟩) ?_
           refine ob [12, 11, 10, 5, 6, 7, 8, 9, 4, 0, 1, 2, 3] (fun S hle hfr => .inl ⟨wy hle q17, st_move (hle.e rfl) (hle.d rfl)⟩) ?_
           refine ob [12, 11, 10, 5, 6, 7, 8, 9, 4, 0, 1, 2, 3] (fun S hle hfr => .inl ⟨wy hle q17, ev_loads (ds := [_, _, _, _, _, _, _, _, _, _, _, _, _, _, _, _]) (hle.e rfl) (hle.heap _ _ rfl) rfl rfl (hle.d rfl)⟩) ?_
           refine ob [12, 11, 10, 5, 6, 7, 8, 9, 4, 0, 1, 2, 3] (fun S hle hfr => .inl ⟨wy hle q17, st_move (hle.e rfl) (hle.d rfl)⟩) ?_
           refine ob [13, 14, 15, 16, 12, 11, 10, 5, 6, 7, 8, 9, 4, 0, 1, 2, 3] (fun S hle hfr => .inl ⟨wy hle q17, ev_call_v (actorgridlaw28_same_fn k x10.1 x10.2.2 x11.1 x11.2.2 x18 hx18) (map_ev (.cons (hle.e rfl) (.cons (hle.e rfl) (.cons (hle.e rfl) (.cons (hle.e rfl) (.nil)))))) [] (by repeat' (first | exact .nil | refine .cons ?_ ?_ | refine .one ?_ | refine .agg ?_ | exact .mk rfl | exact .lend (hle.heap _ _ rfl) (by simp) | exact .le (.nil _) rfl | exact .le (.emp _) rfl | exact .le (.any _) rfl | fail)) rfl rfl rfl (.inl rfl) (hle.d rfl)⟩) ?_
           refine ob [12, 17, 11, 10, 13, 14, 15, 16, 5, 6, 7, 8, 9, 4, 0, 1, 2, 3] (fun S hle hfr => .inl ⟨w0, st_pick_yes (hle.e rfl) (by first | rfl | exact q17) (hle.e rfl) (hle.d rfl)⟩) ?_
           refine ob [18, 17, 12, 13, 14, 15, 16, 11, 10, 5, 6, 7, 8, 9, 4, 0, 1, 2, 3] (fun S hle hfr => .inl ⟨w0, st_move (hle.e rfl) (hle.d rfl)⟩) ?_
           refine ob [19, 18, 17, 12, 13, 14, 15, 16, 11, 10, 5, 6, 7, 8, 9, 4, 0, 1, 2, 3] (fun S hle hfr => .inl ⟨wy hle q19, ev_loads (ds := [_, _, _]) (hle.e rfl) (hle.heap _ _ rfl) rfl rfl (hle.d rfl)⟩) ?_
           refine ob [19, 18, 17, 12, 13, 14, 15, 16, 11, 10, 5, 6, 7, 8, 9, 4, 0, 1, 2, 3] (fun S hle hfr => .inl ⟨wy hle q19, ev_loads (ds := [_, _, _]) (hle.e rfl) (hle.heap _ _ rfl) rfl rfl (hle.d rfl)⟩) ?_
           refine ob [20, 21, 19, 18, 17, 12, 13, 14, 15, 16, 11, 10, 5, 6, 7, 8, 9, 4, 0, 1, 2, 3] (fun S hle hfr => .inl ⟨wy hle q19, ev_call_v (actorgridref26_SameContents_fn k x10.2.1 x11.2.1 x20 hx20) (map_ev (.cons (hle.e rfl) (.cons (hle.e rfl) (.nil)))) [] (by repeat' (first | exact .nil | refine .cons ?_ ?_ | refine .one ?_ | refine .agg ?_ | exact .mk rfl | exact .lend (hle.heap _ _ rfl) (by simp) | exact .le (.nil _) rfl | exact .le (.emp _) rfl | exact .le (.any _) rfl | fail)) rfl rfl rfl (.inl rfl) (hle.d rfl)⟩) ?_
           refine ob [19, 22, 18, 17, 20, 21, 12, 13, 14, 15, 16, 11, 10, 5, 6, 7, 8, 9, 4, 0, 1, 2, 3] (fun S hle hfr => .inl ⟨w0, st_pick_yes (hle.e rfl) (by first | rfl | exact q19) (hle.e rfl) (hle.d rfl)⟩) ?_
           refine ob [23, 22, 19, 20, 21, 18, 17, 12, 13, 14, 15, 16, 11, 10, 5, 6, 7, 8, 9, 4, 0, 1, 2, 3] (fun S hle hfr => .inl ⟨w0, st_move (hle.e rfl) (hle.d rfl)⟩) ?_
           refine ob [24, 23, 22, 19, 20, 21, 18, 17, 12, 13, 14, 15, 16, 11, 10, 5, 6, 7, 8, 9, 4, 0, 1, 2, 3] (fun S hle hfr => .inl ⟨wy hle q21, ev_loads (ds := [_, _, _, _, _, _, _, _, _, _, _, _, _, _, _, _]) (hle.e rfl) (hle.heap _ _ rfl) rfl rfl (hle.d rfl)⟩) ?_
           refine ob [24, 23, 22, 19, 20, 21, 18, 17, 12, 13, 14, 15, 16, 11, 10, 5, 6, 7, 8, 9, 4, 0, 1, 2, 3] (fun S hle hfr => .inl ⟨wy hle q21, st_move (hle.e rfl) (hle.d rfl)⟩) ?_
           refine ob [24, 23, 22, 19, 20, 21, 18, 17, 12, 13, 14, 15, 16, 11, 10, 5, 6, 7, 8, 9, 4, 0, 1, 2, 3] (fun S hle hfr => .inl ⟨wy hle q21, ev_loads (ds := [_, _, _, _, _, _, _, _, _, _, _, _, _, _, _, _]) (hle.e rfl) (hle.heap _ _ rfl) rfl rfl (hle.d rfl)⟩) ?_
           refine ob [24, 23, 22, 19, 20, 21, 18, 17, 12, 13, 14, 15, 16, 11, 10, 5, 6, 7, 8, 9, 4, 0, 1, 2, 3] (fun S hle hfr => .inl ⟨wy hle q21, st_move (hle.e rfl) (hle.d rfl)⟩) ?_
           refine ob [25, 26, 27, 28, 24, 23, 22, 19, 20, 21, 18, 17, 12, 13, 14, 15, 16, 11, 10, 5, 6, 7, 8, 9, 4, 0, 1, 2, 3] (fun S hle hfr => .inl ⟨wy hle q21, ev_call_v (actorgridlaw28_same_fn k x12.1 x12.2 x13.1 x13.2 x22 hx22) (map_ev (.cons (hle.e rfl) (.cons (hle.e rfl) (.cons (hle.e rfl) (.cons (hle.e rfl) (.nil)))))) [] (by repeat' (first | exact .nil | refine .cons ?_ ?_ | refine .one ?_ | refine .agg ?_ | exact .mk rfl | exact .lend (hle.heap _ _ rfl) (by simp) | exact .le (.nil _) rfl | exact .le (.emp _) rfl | exact .le (.any _) rfl | fail)) rfl rfl rfl (.inl rfl) (hle.d rfl)⟩) ?_
           refine ob [24, 29, 23, 22, 25, 26, 27, 28, 19, 20, 21, 18, 17, 12, 13, 14, 15, 16, 11, 10, 5, 6, 7, 8, 9, 4, 0, 1, 2, 3] (fun S hle hfr => .inl ⟨w0, st_pick_yes (hle.e rfl) (by first | rfl | exact q21) (hle.e rfl) (hle.d rfl)⟩) ?_
           refine ob [30, 29, 24, 25, 26, 27, 28, 23, 22, 19, 20, 21, 18, 17, 12, 13, 14, 15, 16, 11, 10, 5, 6, 7, 8, 9, 4, 0, 1, 2, 3] (fun S hle hfr => .inl ⟨w0, st_move (hle.e rfl) (hle.d rfl)⟩) ?_
           refine ob [31, 30, 29, 24, 25, 26, 27, 28, 23, 22, 19, 20, 21, 18, 17, 12, 13, 14, 15, 16, 11, 10, 5, 6, 7, 8, 9, 4, 0, 1, 2, 3] (fun S hle hfr => nw hle q23) ?_
           refine ob [32, 31, 30, 29, 24, 25, 26, 27, 28, 23, 22, 19, 20, 21, 18, 17, 12, 13, 14, 15, 16, 11, 10, 5, 6, 7, 8, 9, 4, 0, 1, 2, 3] (fun S hle hfr => nw hle q23) ?_
           refine ob [31, 30, 29, 24, 25, 26, 27, 28, 23, 22, 19, 20, 21, 18, 17, 12, 13, 14, 15, 16, 11, 10, 5, 6, 7, 8, 9, 4, 0, 1, 2, 3] (fun S hle hfr => nw hle q23) ?_
           exact trivial
          case hk2x => rfl
          case hf2x => rfl
          iterate 2 refine np q23 ?_
          refine s_pn q23 ?_
          refine s_sa ?_
          refine aops_nil ?_
          cases Option.some.inj h
          exact aw_ret ⟨rfl, rv r1⟩
        replace h := Md.cond_f h q21
        refine aw_seq ?_
        apply aw_draw 35 ((⟨[], .agg (c_Store x6.1)⟩ : Add) :: ⟨[], vI x6.2⟩ :: ⟨[], .agg (c_Store x7.1)⟩ :: ⟨[], vI x7.2⟩ :: ⟨[], vB x14⟩ :: ⟨[], vB x14⟩ :: ⟨[], .agg (c_Store x8.1)⟩ :: ⟨[], vI x8.2⟩ :: ⟨[], .agg (c_Store x9.1)⟩ :: ⟨[], vI x9.2⟩ :: ⟨[], vB x16⟩ :: ⟨[], vB x16⟩ :: ⟨[], vB x16⟩ :: ⟨[], .agg (c_Store x10.1)⟩ :: ⟨[], vI x10.2.2⟩ :: ⟨[], .agg (c_Store x11.1)⟩ :: ⟨[], vI x11.2.2⟩ :: ⟨[], vB x18⟩ :: ⟨[], vB x18⟩ :: ⟨[], vB x18⟩ :: ⟨[], .agg (c_StoreContents x10.2.1)⟩ :: ⟨[], .agg (c_StoreContents x11.2.1)⟩ :: ⟨[], vB x20⟩ :: ⟨[], vB x20⟩ :: ⟨[], vB x20⟩ :: ⟨[], .tup []⟩ :: ⟨[], .tup []⟩ :: ⟨[], .tup []⟩ :: ⟨[], .tup []⟩ :: ⟨[], .tup []⟩ :: ⟨[], vB false⟩ :: ⟨[], vB false⟩ :: ⟨[], .tup []⟩ :: ⟨[], .tup []⟩ :: ⟨[], .tup []⟩ :: []) (by decide) rfl ?hk3x ?hf3x ?ho3x ?hr3x
        case ho3x =>
         refine ob [] (fun S hle hfr => .inl ⟨w0, ev_loads (ds := [_, _, _, _, _, _, _, _, _, _, _, _, _, _, _, _]) (hle.e rfl) (hle.heap _ _ rfl) rfl rfl (hle.d rfl)⟩) ?_
         refine ob [] (fun S hle hfr => .inl ⟨w0, st_move (hle.e rfl) (hle.d rfl)⟩) ?_
         refine ob [] (fun S hle hfr => .inl ⟨w0, ev_loads (ds := [_, _, _, _, _, _, _, _, _, _, _, _, _, _, _, _]) (hle.e rfl) (hle.heap _ _ rfl) rfl rfl (hle.d rfl)⟩) ?_
         refine ob [] (fun S hle hfr => .inl ⟨w0, st_move (hle.e rfl) (hle.d rfl)⟩) ?_
         refine ob [0, 1, 2, 3] (fun S hle hfr => .inl ⟨w0, ev_call_v (actorgridlaw28_same_fn k x6.1 x6.2 x7.1 x7.2 x14 hx14) (map_ev (.cons (hle.e rfl) (.cons (hle.e rfl) (.cons (hle.e rfl) (.cons (hle.e rfl) (.nil)))))) [] (by repeat' (first | exact .nil | refine .cons ?_ ?_ | refine .one ?_ | refine .agg ?_ | exact .mk rfl | exact .lend (hle.heap _ _ rfl) (by simp) | exact .le (.nil _) rfl | exact .le (.emp _) rfl | exact .le (.any _) rfl | fail)) rfl rfl rfl (.inl rfl) (hle.d rfl)⟩) ?_
         refine ob [4, 0, 1, 2, 3] (fun S hle hfr => .inl ⟨w0, st_move (hle.e rfl) (hle.d rfl)⟩) ?_
         refine ob [5, 4, 0, 1, 2, 3] (fun S hle hfr => .inl ⟨wy hle q15, ev_loads (ds := [_, _, _, _, _, _, _, _, _, _, _, _, _, _, _, _]) (hle.e rfl) (hle.heap _ _ rfl) rfl rfl (hle.d rfl)⟩) ?_
         refine ob [5, 4, 0, 1, 2, 3] (fun S hle hfr => .inl ⟨wy hle q15, st_move (hle.e rfl) (hle.d rfl)⟩) ?_
         refine ob [5, 4, 0, 1, 2, 3] (fun S hle hfr => .inl ⟨wy hle q15, ev_loads (ds := [_, _, _, _, _, _, _, _, _, _, _, _, _, _, _, _]) (hle.e rfl) (hle.heap _ _ rfl) rfl rfl (hle.d rfl)⟩) ?_
         refine ob [5, 4, 0, 1, 2, 3] (fun S hle hfr => .inl ⟨wy hle q15, st_move (hle.e rfl) (hle.d rfl)⟩) ?_
         refine ob [6, 7, 8, 9, 5, 4, 0, 1, 2, 3] (fun S hle hfr => .inl ⟨wy hle q15, ev_call_v (actorgridlaw28_same_fn k x8.1 x8.2 x9.1 x9.2 x16 hx16) (map_ev (.cons (hle.e rfl) (.cons (hle.e rfl) (.cons (hle.e rfl) (.cons (hle.e rfl) (.nil)))))) [] (by repeat' (first | exact .nil | refine .cons ?_ ?_ | refine .one ?_ | refine .agg ?_ | exact .mk rfl | exact .lend (hle.heap _ _ rfl) (by simp) | exact .le (.nil _) rfl | exact .le (.emp _) rfl | exact .le (.any _) rfl | fail)) rfl rfl rfl (.inl rfl) (hle.d rfl)⟩) ?_
         refine ob [5, 10, 4, 6, 7, 8, 9, 0, 1, 2, 3] (fun S hle hfr => .inl ⟨w0, st_pick_yes (hle.e rfl) (by first | rfl | exact q15) (hle.e rfl) (hle.d rfl)⟩) ?_
         refine ob [11, 10, 5, 6, 7, 8, 9, 4, 0, 1, 2, 3] (fun S hle hfr => .inl ⟨w0, st_move (hle.e rfl) (hle.d rfl)⟩) ?_
         refine ob [12, 11, 10, 5, 6, 7, 8, 9, 4, 0, 1, 2, 3] (fun S hle hfr => .inl ⟨wy hle q17, ev_loads (ds := [_, _, _, _, _, _, _, _, _, _, _, _, _, _, _, _]) (hle.e rfl) (hle.heap _ _ rfl) rfl rfl (hle.d rfl)⟩) ?_
         refine ob [12, 11, 10, 5, 6, 7, 8, 9, 4, 0, 1, 2, 3] (fun S hle hfr => .inl ⟨wy hle q17, st_move (hle.e rfl) (hle.d rfl)⟩) ?_
         refine ob [12, 11, 10, 5, 6, 7, 8, 9, 4, 0, 1, 2, 3] (fun S hle hfr => .inl ⟨wy hle q17, ev_loads (ds := [_, _, _, _, _, _, _, _, _, _, _, _, _, _, _, _]) (hle.e rfl) (hle.heap _ _ rfl) rfl rfl (hle.d rfl)⟩) ?_
         refine ob [12, 11, 10, 5, 6, 7, 8, 9, 4, 0, 1, 2, 3] (fun S hle hfr => .inl ⟨wy hle q17, st_move (hle.e rfl) (hle.d rfl)⟩) ?_
         refine ob [13, 14, 15, 16, 12, 11, 10, 5, 6, 7, 8, 9, 4, 0, 1, 2, 3] (fun S hle hfr => .inl ⟨wy hle q17, ev_call_v (actorgridlaw28_same_fn k x10.1 x10.2.2 x11.1 x11.2.2 x18 hx18) (map_ev (.cons (hle.e rfl) (.cons (hle.e rfl) (.cons (hle.e rfl) (.cons (hle.e rfl) (.nil)))))) [] (by repeat' (first | exact .nil | refine .cons ?_ ?_ | refine .one ?_ | refine .agg ?_ | exact .mk rfl | exact .lend (hle.heap _ _ rfl) (by simp) | exact .le (.nil _) rfl | exact .le (.emp _) rfl | exact .le (.any _) rfl | fail)) rfl rfl rfl (.inl rfl) (hle.d rfl)⟩) ?_
         refine ob [12, 17, 11, 10, 13, 14, 15, 16, 5, 6, 7, 8, 9, 4, 0, 1, 2, 3] (fun S hle hfr => .inl ⟨w0, st_pick_yes (hle.e rfl) (by first | rfl | exact q17) (hle.e rfl) (hle.d rfl)⟩) ?_
         refine ob [18, 17, 12, 13, 14, 15, 16, 11, 10, 5, 6, 7, 8, 9, 4, 0, 1, 2, 3] (fun S hle hfr => .inl ⟨w0, st_move (hle.e rfl) (hle.d rfl)⟩) ?_
         refine ob [19, 18, 17, 12, 13, 14, 15, 16, 11, 10, 5, 6, 7, 8, 9, 4, 0, 1, 2, 3] (fun S hle hfr => .inl ⟨wy hle q19, ev_loads (ds := [_, _, _]) (hle.e rfl) (hle.heap _ _ rfl) rfl rfl (hle.d rfl)⟩) ?_
         refine ob [19, 18, 17, 12, 13, 14, 15, 16, 11, 10, 5, 6, 7, 8, 9, 4, 0, 1, 2, 3] (fun S hle hfr => .inl ⟨wy hle q19, ev_loads (ds := [_, _, _]) (hle.e rfl) (hle.heap _ _ rfl) rfl rfl (hle.d rfl)⟩) ?_
         refine ob [20, 21, 19, 18, 17, 12, 13, 14, 15, 16, 11, 10, 5, 6, 7, 8, 9, 4, 0, 1, 2, 3] (fun S hle hfr => .inl ⟨wy hle q19, ev_call_v (actorgridref26_SameContents_fn k x10.2.1 x11.2.1 x20 hx20) (map_ev (.cons (hle.e rfl) (.cons (hle.e rfl) (.nil)))) [] (by repeat' (first | exact .nil | refine .cons ?_ ?_ | refine .one ?_ | refine .agg ?_ | exact .mk rfl | exact .lend (hle.heap _ _ rfl) (by simp) | exact .le (.nil _) rfl | exact .le (.emp _) rfl | exact .le (.any _) rfl | fail)) rfl rfl rfl (.inl rfl) (hle.d rfl)⟩) ?_
         refine ob [19, 22, 18, 17, 20, 21, 12, 13, 14, 15, 16, 11, 10, 5, 6, 7, 8, 9, 4, 0, 1, 2, 3] (fun S hle hfr => .inl ⟨w0, st_pick_yes (hle.e rfl) (by first | rfl | exact q19) (hle.e rfl) (hle.d rfl)⟩) ?_
         refine ob [23, 22, 19, 20, 21, 18, 17, 12, 13, 14, 15, 16, 11, 10, 5, 6, 7, 8, 9, 4, 0, 1, 2, 3] (fun S hle hfr => .inl ⟨w0, st_move (hle.e rfl) (hle.d rfl)⟩) ?_
         iterate 4 refine ob [24, 23, 22, 19, 20, 21, 18, 17, 12, 13, 14, 15, 16, 11, 10, 5, 6, 7, 8, 9, 4, 0, 1, 2, 3] (fun S hle hfr => nw hle q21) ?_
         refine ob [25, 26, 27, 28, 24, 23, 22, 19, 20, 21, 18, 17, 12, 13, 14, 15, 16, 11, 10, 5, 6, 7, 8, 9, 4, 0, 1, 2, 3] (fun S hle hfr => nw hle q21) ?_
         refine ob [24, 29, 23, 22, 25, 26, 27, 28, 19, 20, 21, 18, 17, 12, 13, 14, 15, 16, 11, 10, 5, 6, 7, 8, 9, 4, 0, 1, 2, 3] (fun S hle hfr => .inl ⟨w0, st_pick_no (hle.e rfl) (by first | rfl | exact q21) (hle.e rfl) (hle.d rfl)⟩) ?_
         refine ob [30, 29, 24, 25, 26, 27, 28, 23, 22, 19, 20, 21, 18, 17, 12, 13, 14, 15, 16, 11, 10, 5, 6, 7, 8, 9, 4, 0, 1, 2, 3] (fun S hle hfr => .inl ⟨w0, st_move (hle.e rfl) (hle.d rfl)⟩) ?_
         refine ob [31, 30, 29, 24, 25, 26, 27, 28, 23, 22, 19, 20, 21, 18, 17, 12, 13, 14, 15, 16, 11, 10, 5, 6, 7, 8, 9, 4, 0, 1, 2, 3] (fun S hle hfr => .inr ⟨.inr (.inl ⟨_, _, _, _, rfl, rfl, (hle.ev (x := .tmp _) rfl (by nofun)), (by rw [hle.nt]; rfl), (by first | rfl | (rw [rfl]; rfl))⟩), rfl, hle.d rfl⟩) ?_
         refine ob [32, 31, 30, 29, 24, 25, 26, 27, 28, 23, 22, 19, 20, 21, 18, 17, 12, 13, 14, 15, 16, 11, 10, 5, 6, 7, 8, 9, 4, 0, 1, 2, 3] (fun S hle hfr => .inr ⟨.inr (.inl ⟨_, _, _, _, rfl, rfl, (hle.ev (x := .tmp _) rfl (by nofun)), (by rw [hle.nt]; rfl), (by first | rfl | (rw [rfl]; rfl))⟩), rfl, hle.d rfl⟩) ?_
         refine ob [31, 30, 29, 24, 25, 26, 27, 28, 23, 22, 19, 20, 21, 18, 17, 12, 13, 14, 15, 16, 11, 10, 5, 6, 7, 8, 9, 4, 0, 1, 2, 3] (fun S hle hfr => .inr ⟨.inr (.inl ⟨_, _, _, _, rfl, rfl, (hle.ev (x := .tmp _) rfl (by nofun)), (by rw [hle.nt]; rfl), (by first | rfl | (rw [rfl]; rfl))⟩), rfl, hle.d rfl⟩) ?_
         exact trivial
        case hk3x => rfl
        case hf3x => rfl
        refine aops_no rfl rfl rfl rfl rfl (by decide) (aops_no rfl rfl rfl rfl rfl (by decide) (aops_step1 rfl (st_pick_no rfl (by first | rfl | exact rfl) rfl rfl) (s_sa ?_)))
        refine aops_nil ?_
        cases Option.some.inj h
        exact aw_ret ⟨rfl, rv r1⟩
      replace h := Md.cond_f h q19
      refine aw_seq ?_
      apply aw_draw 35 ((⟨[], .agg (c_Store x6.1)⟩ : Add) :: ⟨[], vI x6.2⟩ :: ⟨[], .agg (c_Store x7.1)⟩ :: ⟨[], vI x7.2⟩ :: ⟨[], vB x14⟩ :: ⟨[], vB x14⟩ :: ⟨[], .agg (c_Store x8.1)⟩ :: ⟨[], vI x8.2⟩ :: ⟨[], .agg (c_Store x9.1)⟩ :: ⟨[], vI x9.2⟩ :: ⟨[], vB x16⟩ :: ⟨[], vB x16⟩ :: ⟨[], vB x16⟩ :: ⟨[], .agg (c_Store x10.1)⟩ :: ⟨[], vI x10.2.2⟩ :: ⟨[], .agg (c_Store x11.1)⟩ :: ⟨[], vI x11.2.2⟩ :: ⟨[], vB x18⟩ :: ⟨[], vB x18⟩ :: ⟨[], vB x18⟩ :: ⟨[], .tup []⟩ :: ⟨[], .tup []⟩ :: ⟨[], .tup []⟩ :: ⟨[], vB false⟩ :: ⟨[], vB false⟩ :: ⟨[], .tup []⟩ :: ⟨[], .tup []⟩ :: ⟨[], .tup []⟩ :: ⟨[], .tup []⟩ :: ⟨[], .tup []⟩ :: ⟨[], vB false⟩ :: ⟨[], vB false⟩ :: ⟨[], .tup []⟩ :: ⟨[], .tup []⟩ :: ⟨[], .tup []⟩ :: []) (by decide) rfl ?hk4x ?hf4x ?ho4x ?hr4x
      case ho4x =>
       refine ob [] (fun S hle hfr => .inl ⟨w0, ev_loads (ds := [_, _, _, _, _, _, _, _, _, _, _, _, _, _, _, _]) (hle.e rfl) (hle.heap _ _ rfl) rfl rfl (hle.d rfl)⟩) ?_
       refine ob [] (fun S hle hfr => .inl ⟨w0, st_move (hle.e rfl) (hle.d rfl)⟩) ?_
       refine ob [] (fun S hle hfr => .inl ⟨w0, ev_loads (ds := [_, _, _, _, _, _, _, _, _, _, _, _, _, _, _, _]) (hle.e rfl) (hle.heap _ _ rfl) rfl rfl (hle.d rfl)⟩) ?_
       refine ob [] (fun S hle hfr => .inl ⟨w0, st_move (hle.e rfl) (hle.d rfl)⟩) ?_
       refine ob [0, 1, 2, 3] (fun S hle hfr => .inl ⟨w0, ev_call_v (actorgridlaw28_same_fn k x6.1 x6.2 x7.1 x7.2 x14 hx14) (map_ev (.cons (hle.e rfl) (.cons (hle.e rfl) (.cons (hle.e rfl) (.cons (hle.e rfl) (.nil)))))) [] (by repeat' (first | exact .nil | refine .cons ?_ ?_ | refine .one ?_ | refine .agg ?_ | exact .mk rfl | exact .lend (hle.heap _ _ rfl) (by simp) | exact .le (.nil _) rfl | exact .le (.emp _) rfl | exact .le (.any _) rfl | fail)) rfl rfl rfl (.inl rfl) (hle.d rfl)⟩) ?_
       refine ob [4, 0, 1, 2, 3] (fun S hle hfr => .inl ⟨w0, st_move (hle.e rfl) (hle.d rfl)⟩) ?_
       refine ob [5, 4, 0, 1, 2, 3] (fun S hle hfr => .inl ⟨wy hle q15, ev_loads (ds := [_, _, _, _, _, _, _, _, _, _, _, _, _, _, _, _]) (hle.e rfl) (hle.heap _ _ rfl) rfl rfl (hle.d rfl)⟩) ?_
       refine ob [5, 4, 0, 1, 2, 3] (fun S hle hfr => .inl ⟨wy hle q15, st_move (hle.e rfl) (hle.d rfl)⟩) ?_
       refine ob [5, 4, 0, 1, 2, 3] (fun S hle hfr => .inl ⟨wy hle q15, ev_loads (ds := [_, _, _, _, _, _, _, _, _, _, _, _, _, _, _, _]) (hle.e rfl) (hle.heap _ _ rfl) rfl rfl (hle.d rfl)⟩) ?_
       refine ob [5, 4, 0, 1, 2, 3] (fun S hle hfr => .inl ⟨wy hle q15, st_move (hle.e rfl) (hle.d rfl)⟩) ?_
       refine ob [6, 7, 8, 9, 5, 4, 0, 1, 2, 3] (fun S hle hfr => .inl ⟨wy hle q15, ev_call_v (actorgridlaw28_same_fn k x8.1 x8.2 x9.1 x9.2 x16 hx16) (map_ev (.cons (hle.e rfl) (.cons (hle.e rfl) (.cons (hle.e rfl) (.cons (hle.e rfl) (.nil)))))) [] (by repeat' (first | exact .nil | refine .cons ?_ ?_ | refine .one ?_ | refine .agg ?_ | exact .mk rfl | exact .lend (hle.heap _ _ rfl) (by simp) | exact .le (.nil _) rfl | exact .le (.emp _) rfl | exact .le (.any _) rfl | fail)) rfl rfl rfl (.inl rfl) (hle.d rfl)⟩) ?_
       refine ob [5, 10, 4, 6, 7, 8, 9, 0, 1, 2, 3] (fun S hle hfr => .inl ⟨w0, st_pick_yes (hle.e rfl) (by first | rfl | exact q15) (hle.e rfl) (hle.d rfl)⟩) ?_
       refine ob [11, 10, 5, 6, 7, 8, 9, 4, 0, 1, 2, 3] (fun S hle hfr => .inl ⟨w0, st_move (hle.e rfl) (hle.d rfl)⟩) ?_
       refine ob [12, 11, 10, 5, 6, 7, 8, 9, 4, 0, 1, 2, 3] (fun S hle hfr => .inl ⟨wy hle q17, ev_loads (ds := [_, _, _, _, _, _, _, _, _, _, _, _, _, _, _, _]) (hle.e rfl) (hle.heap _ _ rfl) rfl rfl (hle.d rfl)⟩) ?_
       refine ob [12, 11, 10, 5, 6, 7, 8, 9, 4, 0, 1, 2, 3] (fun S hle hfr => .inl ⟨wy hle q17, st_move (hle.e rfl) (hle.d rfl)⟩) ?_
       refine ob [12, 11, 10, 5, 6, 7, 8, 9, 4, 0, 1, 2, 3] (fun S hle hfr => .inl ⟨wy hle q17, ev_loads (ds := [_, _, _, _, _, _, _, _, _, _, _, _, _, _, _, _]) (hle.e rfl) (hle.heap _ _ rfl) rfl rfl (hle.d rfl)⟩) ?_
       refine ob [12, 11, 10, 5, 6, 7, 8, 9, 4, 0, 1, 2, 3] (fun S hle hfr => .inl ⟨wy hle q17, st_move (hle.e rfl) (hle.d rfl)⟩) ?_
       refine ob [13, 14, 15, 16, 12, 11, 10, 5, 6, 7, 8, 9, 4, 0, 1, 2, 3] (fun S hle hfr => .inl ⟨wy hle q17, ev_call_v (actorgridlaw28_same_fn k x10.1 x10.2.2 x11.1 x11.2.2 x18 hx18) (map_ev (.cons (hle.e rfl) (.cons (hle.e rfl) (.cons (hle.e rfl) (.cons (hle.e rfl) (.nil)))))) [] (by repeat' (first | exact .nil | refine .cons ?_ ?_ | refine .one ?_ | refine .agg ?_ | exact .mk rfl | exact .lend (hle.heap _ _ rfl) (by simp) | exact .le (.nil _) rfl | exact .le (.emp _) rfl | exact .le (.any _) rfl | fail)) rfl rfl rfl (.inl rfl) (hle.d rfl)⟩) ?_
       refine ob [12, 17, 11, 10, 13, 14, 15, 16, 5, 6, 7, 8, 9, 4, 0, 1, 2, 3] (fun S hle hfr => .inl ⟨w0, st_pick_yes (hle.e rfl) (by first | rfl | exact q17) (hle.e rfl) (hle.d rfl)⟩) ?_
       refine ob [18, 17, 12, 13, 14, 15, 16, 11, 10, 5, 6, 7, 8, 9, 4, 0, 1, 2, 3] (fun S hle hfr => .inl ⟨w0, st_move (hle.e rfl) (hle.d rfl)⟩) ?_
       refine ob [19, 18, 17, 12, 13, 14, 15, 16, 11, 10, 5, 6, 7, 8, 9, 4, 0, 1, 2, 3] (fun S hle hfr => nw hle q19) ?_
       refine ob [19, 18, 17, 12, 13, 14, 15, 16, 11, 10, 5, 6, 7, 8, 9, 4, 0, 1, 2, 3] (fun S hle hfr => nw hle q19) ?_
       refine ob [20, 21, 19, 18, 17, 12, 13, 14, 15, 16, 11, 10, 5, 6, 7, 8, 9, 4, 0, 1, 2, 3] (fun S hle hfr => nw hle q19) ?_
       refine ob [19, 22, 18, 17, 20, 21, 12, 13, 14, 15, 16, 11, 10, 5, 6, 7, 8, 9, 4, 0, 1, 2, 3] (fun S hle hfr => .inl ⟨w0, st_pick_no (hle.e rfl) (by first | rfl | exact q19) (hle.e rfl) (hle.d rfl)⟩) ?_
       refine ob [23, 22, 19, 20, 21, 18, 17, 12, 13, 14, 15, 16, 11, 10, 5, 6, 7, 8, 9, 4, 0, 1, 2, 3] (fun S hle hfr => .inl ⟨w0, st_move (hle.e rfl) (hle.d rfl)⟩) ?_
       iterate 4 refine ob [24, 23, 22, 19, 20, 21, 18, 17, 12, 13, 14, 15, 16, 11, 10, 5, 6, 7, 8, 9, 4, 0, 1, 2, 3] (fun S hle hfr => .inr ⟨.inr (.inl ⟨_, _, _, _, rfl, rfl, (hle.ev (x := .tmp _) rfl (by nofun)), (by rw [hle.nt]; rfl), (by first | rfl | (rw [rfl]; rfl))⟩), rfl, hle.d rfl⟩) ?_
       refine ob [25, 26, 27, 28, 24, 23, 22, 19, 20, 21, 18, 17, 12, 13, 14, 15, 16, 11, 10, 5, 6, 7, 8, 9, 4, 0, 1, 2, 3] (fun S hle hfr => .inr ⟨.inr (.inl ⟨_, _, _, _, rfl, rfl, (hle.ev (x := .tmp _) rfl (by nofun)), (by rw [hle.nt]; rfl), (by first | rfl | (rw [rfl]; rfl))⟩), rfl, hle.d rfl⟩) ?_
       refine ob [24, 29, 23, 22, 25, 26, 27, 28, 19, 20, 21, 18, 17, 12, 13, 14, 15, 16, 11, 10, 5, 6, 7, 8, 9, 4, 0, 1, 2, 3] (fun S hle hfr => .inl ⟨w0, st_pick_no (hle.e rfl) (by first | rfl | exact rfl) (hle.e rfl) (hle.d rfl)⟩) ?_
       refine ob [30, 29, 24, 25, 26, 27, 28, 23, 22, 19, 20, 21, 18, 17, 12, 13, 14, 15, 16, 11, 10, 5, 6, 7, 8, 9, 4, 0, 1, 2, 3] (fun S hle hfr => .inl ⟨w0, st_move (hle.e rfl) (hle.d rfl)⟩) ?_
       refine ob [31, 30, 29, 24, 25, 26, 27, 28, 23, 22, 19, 20, 21, 18, 17, 12, 13, 14, 15, 16, 11, 10, 5, 6, 7, 8, 9, 4, 0, 1, 2, 3] (fun S hle hfr => .inr ⟨.inr (.inl ⟨_, _, _, _, rfl, rfl, (hle.ev (x := .tmp _) rfl (by nofun)), (by rw [hle.nt]; rfl), (by first | rfl | (rw [rfl]; rfl))⟩), rfl, hle.d rfl⟩) ?_
       refine ob [32, 31, 30, 29, 24, 25, 26, 27, 28, 23, 22, 19, 20, 21, 18, 17, 12, 13, 14, 15, 16, 11, 10, 5, 6, 7, 8, 9, 4, 0, 1, 2, 3] (fun S hle hfr => .inr ⟨.inr (.inl ⟨_, _, _, _, rfl, rfl, (hle.ev (x := .tmp _) rfl (by nofun)), (by rw [hle.nt]; rfl), (by first | rfl | (rw [rfl]; rfl))⟩), rfl, hle.d rfl⟩) ?_
       refine ob [31, 30, 29, 24, 25, 26, 27, 28, 23, 22, 19, 20, 21, 18, 17, 12, 13, 14, 15, 16, 11, 10, 5, 6, 7, 8, 9, 4, 0, 1, 2, 3] (fun S hle hfr => .inr ⟨.inr (.inl ⟨_, _, _, _, rfl, rfl, (hle.ev (x := .tmp _) rfl (by nofun)), (by rw [hle.nt]; rfl), (by first | rfl | (rw [rfl]; rfl))⟩), rfl, hle.d rfl⟩) ?_
       exact trivial
      case hk4x => rfl
      case hf4x => rfl
      refine aops_no rfl rfl rfl rfl rfl (by decide) (aops_no rfl rfl rfl rfl rfl (by decide) (aops_step1 rfl (st_pick_no rfl (by first | rfl | exact rfl) rfl rfl) (s_sa ?_)))
      refine aops_nil ?_
      cases Option.some.inj h
      exact aw_ret ⟨rfl, rv r1⟩
    replace h := Md.cond_f h q17
    refine aw_seq ?_
    apply aw_draw 35 ((⟨[], .agg (c_Store x6.1)⟩ : Add) :: ⟨[], vI x6.2⟩ :: ⟨[], .agg (c_Store x7.1)⟩ :: ⟨[], vI x7.2⟩ :: ⟨[], vB x14⟩ :: ⟨[], vB x14⟩ :: ⟨[], .agg (c_Store x8.1)⟩ :: ⟨[], vI x8.2⟩ :: ⟨[], .agg (c_Store x9.1)⟩ :: ⟨[], vI x9.2⟩ :: ⟨[], vB x16⟩ :: ⟨[], vB x16⟩ :: ⟨[], vB x16⟩ :: ⟨[], .tup []⟩ :: ⟨[], .tup []⟩ :: ⟨[], .tup []⟩ :: ⟨[], .tup []⟩ :: ⟨[], .tup []⟩ :: ⟨[], vB false⟩ :: ⟨[], vB false⟩ :: ⟨[], .tup []⟩ :: ⟨[], .tup []⟩ :: ⟨[], .tup []⟩ :: ⟨[], vB false⟩ :: ⟨[], vB false⟩ :: ⟨[], .tup []⟩ :: ⟨[], .tup []⟩ :: ⟨[], .tup []⟩ :: ⟨[], .tup []⟩ :: ⟨[], .tup []⟩ :: ⟨[], vB false⟩ :: ⟨[], vB false⟩ :: ⟨[], .tup []⟩ :: ⟨[], .tup []⟩ :: ⟨[], .tup []⟩ :: []) (by decide) rfl ?hk5x ?hf5x ?ho5x ?hr5x
    case ho5x =>
     refine ob [] (fun S hle hfr => .inl ⟨w0, ev_loads (ds := [_, _, _, _, _, _, _, _, _, _, _, _, _, _, _, _]) (hle.e rfl) (hle.heap _ _ rfl) rfl rfl (hle.d rfl)⟩) ?_
     refine ob [] (fun S hle hfr => .inl ⟨w0, st_move (hle.e rfl) (hle.d rfl)⟩) ?_
     refine ob [] (fun S hle hfr => .inl ⟨w0, ev_loads (ds := [_, _, _, _, _, _, _, _, _, _, _, _, _, _, _, _]) (hle.e rfl) (hle.heap _ _ rfl) rfl rfl (hle.d rfl)⟩) ?_
     refine ob [] (fun S hle hfr => .inl ⟨w0, st_move (hle.e rfl) (hle.d rfl)⟩) ?_
     refine ob [0, 1, 2, 3] (fun S hle hfr => .inl ⟨w0, ev_call_v (actorgridlaw28_same_fn k x6.1 x6.2 x7.1 x7.2 x14 hx14) (map_ev (.cons (hle.e rfl) (.cons (hle.e rfl) (.cons (hle.e rfl) (.cons (hle.e rfl) (.nil)))))) [] (by repeat' (first | exact .nil | refine .cons ?_ ?_ | refine .one ?_ | refine .agg ?_ | exact .mk rfl | exact .lend (hle.heap _ _ rfl) (by simp) | exact .le (.nil _) rfl | exact .le (.emp _) rfl | exact .le (.any _) rfl | fail)) rfl rfl rfl (.inl rfl) (hle.d rfl)⟩) ?_
     refine ob [4, 0, 1, 2, 3] (fun S hle hfr => .inl ⟨w0, st_move (hle.e rfl) (hle.d rfl)⟩) ?_
     refine ob [5, 4, 0, 1, 2, 3] (fun S hle hfr => .inl ⟨wy hle q15, ev_loads (ds := [_, _, _, _, _, _, _, _, _, _, _, _, _, _, _, _]) (hle.e rfl) (hle.heap _ _ rfl) rfl rfl (hle.d rfl)⟩) ?_
     refine ob [5, 4, 0, 1, 2, 3] (fun S hle hfr => .inl ⟨wy hle q15, st_move (hle.e rfl) (hle.d rfl)⟩) ?_
     refine ob [5, 4, 0, 1, 2, 3] (fun S hle hfr => .inl ⟨wy hle q15, ev_loads (ds := [_, _, _, _, _, _, _, _, _, _, _, _, _, _, _, _]) (hle.e rfl) (hle.heap _ _ rfl) rfl rfl (hle.d rfl)⟩) ?_
     refine ob [5, 4, 0, 1, 2, 3] (fun S hle hfr => .inl ⟨wy hle q15, st_move (hle.e rfl) (hle.d rfl)⟩) ?_
     refine ob [6, 7, 8, 9, 5, 4, 0, 1, 2, 3] (fun S hle hfr => .inl ⟨wy hle q15, ev_call_v (actorgridlaw28_same_fn k x8.1 x8.2 x9.1 x9.2 x16 hx16) (map_ev (.cons (hle.e rfl) (.cons (hle.e rfl) (.cons (hle.e rfl) (.cons (hle.e rfl) (.nil)))))) [] (by repeat' (first | exact .nil | refine .cons ?_ ?_ | refine .one ?_ | refine .agg ?_ | exact .mk rfl | exact .lend (hle.heap _ _ rfl) (by simp) | exact .le (.nil _) rfl | exact .le (.emp _) rfl | exact .le (.any _) rfl | fail)) rfl rfl rfl (.inl rfl) (hle.d rfl)⟩) ?_
     refine ob [5, 10, 4, 6, 7, 8, 9, 0, 1, 2, 3] (fun S hle hfr => .inl ⟨w0, st_pick_yes (hle.e rfl) (by first | rfl | exact q15) (hle.e rfl) (hle.d rfl)⟩) ?_
     refine ob [11, 10, 5, 6, 7, 8, 9, 4, 0, 1, 2, 3] (fun S hle hfr => .inl ⟨w0, st_move (hle.e rfl) (hle.d rfl)⟩) ?_
     iterate 4 refine ob [12, 11, 10, 5, 6, 7, 8, 9, 4, 0, 1, 2, 3] (fun S hle hfr => nw hle q17) ?_
     refine ob [13, 14, 15, 16, 12, 11, 10, 5, 6, 7, 8, 9, 4, 0, 1, 2, 3] (fun S hle hfr => nw hle q17) ?_
     refine ob [12, 17, 11, 10, 13, 14, 15, 16, 5, 6, 7, 8, 9, 4, 0, 1, 2, 3] (fun S hle hfr => .inl ⟨w0, st_pick_no (hle.e rfl) (by first | rfl | exact q17) (hle.e rfl) (hle.d rfl)⟩) ?_
     refine ob [18, 17, 12, 13, 14, 15, 16, 11, 10, 5, 6, 7, 8, 9, 4, 0, 1, 2, 3] (fun S hle hfr => .inl ⟨w0, st_move (hle.e rfl) (hle.d rfl)⟩) ?_
     refine ob [19, 18, 17, 12, 13, 14, 15, 16, 11, 10, 5, 6, 7, 8, 9, 4, 0, 1, 2, 3] (fun S hle hfr => .inr ⟨.inr (.inl ⟨_, _, _, _, rfl, rfl, (hle.ev (x := .tmp _) rfl (by nofun)), (by rw [hle.nt]; rfl), (by first | rfl | (rw [rfl]; rfl))⟩), rfl, hle.d rfl⟩) ?_
     refine ob [19, 18, 17, 12, 13, 14, 15, 16, 11, 10, 5, 6, 7, 8, 9, 4, 0, 1, 2, 3] (fun S hle hfr => .inr ⟨.inr (.inl ⟨_, _, _, _, rfl, rfl, (hle.ev (x := .tmp _) rfl (by nofun)), (by rw [hle.nt]; rfl), (by first | rfl | (rw [rfl]; rfl))⟩), rfl, hle.d rfl⟩) ?_
     refine ob [20, 21, 19, 18, 17, 12, 13, 14, 15, 16, 11, 10, 5, 6, 7, 8, 9, 4, 0, 1, 2, 3] (fun S hle hfr => .inr ⟨.inr (.inl ⟨_, _, _, _, rfl, rfl, (hle.ev (x := .tmp _) rfl (by nofun)), (by rw [hle.nt]; rfl), (by first | rfl | (rw [rfl]; rfl))⟩), rfl, hle.d rfl⟩) ?_
     refine ob [19, 22, 18, 17, 20, 21, 12, 13, 14, 15, 16, 11, 10, 5, 6, 7, 8, 9, 4, 0, 1, 2, 3] (fun S hle hfr => .inl ⟨w0, st_pick_no (hle.e rfl) (by first | rfl | exact rfl) (hle.e rfl) (hle.d rfl)⟩) ?_
     refine ob [23, 22, 19, 20, 21, 18, 17, 12, 13, 14, 15, 16, 11, 10, 5, 6, 7, 8, 9, 4, 0, 1, 2, 3] (fun S hle hfr => .inl ⟨w0, st_move (hle.e rfl) (hle.d rfl)⟩) ?_
     iterate 4 refine ob [24, 23, 22, 19, 20, 21, 18, 17, 12, 13, 14, 15, 16, 11, 10, 5, 6, 7, 8, 9, 4, 0, 1, 2, 3] (fun S hle hfr => .inr ⟨.inr (.inl ⟨_, _, _, _, rfl, rfl, (hle.ev (x := .tmp _) rfl (by nofun)), (by rw [hle.nt]; rfl), (by first | rfl | (rw [rfl]; rfl))⟩), rfl, hle.d rfl⟩) ?_
     refine ob [25, 26, 27, 28, 24, 23, 22, 19, 20, 21, 18, 17, 12, 13, 14, 15, 16, 11, 10, 5, 6, 7, 8, 9, 4, 0, 1, 2, 3] (fun S hle hfr => .inr ⟨.inr (.inl ⟨_, _, _, _, rfl, rfl, (hle.ev (x := .tmp _) rfl (by nofun)), (by rw [hle.nt]; rfl), (by first | rfl | (rw [rfl]; rfl))⟩), rfl, hle.d rfl⟩) ?_
     refine ob [24, 29, 23, 22, 25, 26, 27, 28, 19, 20, 21, 18, 17, 12, 13, 14, 15, 16, 11, 10, 5, 6, 7, 8, 9, 4, 0, 1, 2, 3] (fun S hle hfr => .inl ⟨w0, st_pick_no (hle.e rfl) (by first | rfl | exact rfl) (hle.e rfl) (hle.d rfl)⟩) ?_
     refine ob [30, 29, 24, 25, 26, 27, 28, 23, 22, 19, 20, 21, 18, 17, 12, 13, 14, 15, 16, 11, 10, 5, 6, 7, 8, 9, 4, 0, 1, 2, 3] (fun S hle hfr => .inl ⟨w0, st_move (hle.e rfl) (hle.d rfl)⟩) ?_
     refine ob [31, 30, 29, 24, 25, 26, 27, 28, 23, 22, 19, 20, 21, 18, 17, 12, 13, 14, 15, 16, 11, 10, 5, 6, 7, 8, 9, 4, 0, 1, 2, 3] (fun S hle hfr => .inr ⟨.inr (.inl ⟨_, _, _, _, rfl, rfl, (hle.ev (x := .tmp _) rfl (by nofun)), (by rw [hle.nt]; rfl), (by first | rfl | (rw [rfl]; rfl))⟩), rfl, hle.d rfl⟩) ?_
     refine ob [32, 31, 30, 29, 24, 25, 26, 27, 28, 23, 22, 19, 20, 21, 18, 17, 12, 13, 14, 15, 16, 11, 10, 5, 6, 7, 8, 9, 4, 0, 1, 2, 3] (fun S hle hfr => .inr ⟨.inr (.inl ⟨_, _, _, _, rfl, rfl, (hle.ev (x := .tmp _) rfl (by nofun)), (by rw [hle.nt]; rfl), (by first | rfl | (rw [rfl]; rfl))⟩), rfl, hle.d rfl⟩) ?_
     refine ob [31, 30, 29, 24, 25, 26, 27, 28, 23, 22, 19, 20, 21, 18, 17, 12, 13, 14, 15, 16, 11, 10, 5, 6, 7, 8, 9, 4, 0, 1, 2, 3] (fun S hle hfr => .inr ⟨.inr (.inl ⟨_, _, _, _, rfl, rfl, (hle.ev (x := .tmp _) rfl (by nofun)), (by rw [hle.nt]; rfl), (by first | rfl | (rw [rfl]; rfl))⟩), rfl, hle.d rfl⟩) ?_
     exact trivial
    case hk5x => rfl
    case hf5x => rfl
    refine aops_no rfl rfl rfl rfl rfl (by decide) (aops_no rfl rfl rfl rfl rfl (by decide) (aops_step1 rfl (st_pick_no rfl (by first | rfl | exact rfl) rfl rfl) (s_sa ?_)))
    refine aops_nil ?_
    cases Option.some.inj h
    exact aw_ret ⟨rfl, rv r1⟩
  replace h := Md.cond_f h q15
  refine aw_seq ?_
  apply aw_draw 35 ((⟨[], .agg (c_Store x6.1)⟩ : Add) :: ⟨[], vI x6.2⟩ :: ⟨[], .agg (c_Store x7.1)⟩ :: ⟨[], vI x7.2⟩ :: ⟨[], vB x14⟩ :: ⟨[], vB x14⟩ :: ⟨[], .tup []⟩ :: ⟨[], .tup []⟩ :: ⟨[], .tup []⟩ :: ⟨[], .tup []⟩ :: ⟨[], .tup []⟩ :: ⟨[], vB false⟩ :: ⟨[], vB false⟩ :: ⟨[], .tup []⟩ :: ⟨[], .tup []⟩ :: ⟨[], .tup []⟩ :: ⟨[], .tup []⟩ :: ⟨[], .tup []⟩ :: ⟨[], vB false⟩ :: ⟨[], vB false⟩ :: ⟨[], .tup []⟩ :: ⟨[], .tup []⟩ :: ⟨[], .tup []⟩ :: ⟨[], vB false⟩ :: ⟨[], vB false⟩ :: ⟨[], .tup []⟩ :: ⟨[], .tup []⟩ :: ⟨[], .tup []⟩ :: ⟨[], .tup []⟩ :: ⟨[], .tup []⟩ :: ⟨[], vB false⟩ :: ⟨[], vB false⟩ :: ⟨[], .tup []⟩ :: ⟨[], .tup []⟩ :: ⟨[], .tup []⟩ :: []) (by decide) rfl ?hk6x ?hf6x ?ho6x ?hr6x
  case ho6x =>
   refine ob [] (fun S hle hfr => .inl ⟨w0, ev_loads (ds := [_, _, _, _, _, _, _, _, _, _, _, _, _, _, _, _]) (hle.e rfl) (hle.heap _ _ rfl) rfl rfl (hle.d rfl)⟩) ?_
   refine ob [] (fun S hle hfr => .inl ⟨w0, st_move (hle.e rfl) (hle.d rfl)⟩) ?_
   refine ob [] (fun S hle hfr => .inl ⟨w0, ev_loads (ds := [_, _, _, _, _, _, _, _, _, _, _, _, _, _, _, _]) (hle.e rfl) (hle.heap _ _ rfl) rfl rfl (hle.d rfl)⟩) ?_
   refine ob [] (fun S hle hfr => .inl ⟨w0, st_move (hle.e rfl) (hle.d rfl)⟩) ?_
   refine ob [0, 1, 2, 3] (fun S hle hfr => .inl ⟨w0, ev_call_v (actorgridlaw28_same_fn k x6.1 x6.2 x7.1 x7.2 x14 hx14) (map_ev (.cons (hle.e rfl) (.cons (hle.e rfl) (.cons (hle.e rfl) (.cons (hle.e rfl) (.nil)))))) [] (by repeat' (first | exact .nil | refine .cons ?_ ?_ | refine .one ?_ | refine .agg ?_ | exact .mk rfl | exact .lend (hle.heap _ _ rfl) (by simp) | exact .le (.nil _) rfl | exact .le (.emp _) rfl | exact .le (.any _) rfl | fail)) rfl rfl rfl (.inl rfl) (hle.d rfl)⟩) ?_
   refine ob [4, 0, 1, 2, 3] (fun S hle hfr => .inl ⟨w0, st_move (hle.e rfl) (hle.d rfl)⟩) ?_
   iterate 4 refine ob [5, 4, 0, 1, 2, 3] (fun S hle hfr => nw hle q15) ?_
   refine ob [6, 7, 8, 9, 5, 4, 0, 1, 2, 3] (fun S hle hfr => nw hle q15) ?_
   refine ob [5, 10, 4, 6, 7, 8, 9, 0, 1, 2, 3] (fun S hle hfr => .inl ⟨w0, st_pick_no (hle.e rfl) (by first | rfl | exact q15) (hle.e rfl) (hle.d rfl)⟩) ?_
   refine ob [11, 10, 5, 6, 7, 8, 9, 4, 0, 1, 2, 3] (fun S hle hfr => .inl ⟨w0, st_move (hle.e rfl) (hle.d rfl)⟩) ?_
   iterate 4 refine ob [12, 11, 10, 5, 6, 7, 8, 9, 4, 0, 1, 2, 3] (fun S hle hfr => .inr ⟨.inr (.inl ⟨_, _, _, _, rfl, rfl, (hle.ev (x := .tmp _) rfl (by nofun)), (by rw [hle.nt]; rfl), (by first | rfl | (rw [rfl]; rfl))⟩), rfl, hle.d rfl⟩) ?_
   refine ob [13, 14, 15, 16, 12, 11, 10, 5, 6, 7, 8, 9, 4, 0, 1, 2, 3] (fun S hle hfr => .inr ⟨.inr (.inl ⟨_, _, _, _, rfl, rfl, (hle.ev (x := .tmp _) rfl (by nofun)), (by rw [hle.nt]; rfl), (by first | rfl | (rw [rfl]; rfl))⟩), rfl, hle.d rfl⟩) ?_
   refine ob [12, 17, 11, 10, 13, 14, 15, 16, 5, 6, 7, 8, 9, 4, 0, 1, 2, 3] (fun S hle hfr => .inl ⟨w0, st_pick_no (hle.e rfl) (by first | rfl | exact rfl) (hle.e rfl) (hle.d rfl)⟩) ?_
   refine ob [18, 17, 12, 13, 14, 15, 16, 11, 10, 5, 6, 7, 8, 9, 4, 0, 1, 2, 3] (fun S hle hfr => .inl ⟨w0, st_move (hle.e rfl) (hle.d rfl)⟩) ?_
   refine ob [19, 18, 17, 12, 13, 14, 15, 16, 11, 10, 5, 6, 7, 8, 9, 4, 0, 1, 2, 3] (fun S hle hfr => .inr ⟨.inr (.inl ⟨_, _, _, _, rfl, rfl, (hle.ev (x := .tmp _) rfl (by nofun)), (by rw [hle.nt]; rfl), (by first | rfl | (rw [rfl]; rfl))⟩), rfl, hle.d rfl⟩) ?_
   refine ob [19, 18, 17, 12, 13, 14, 15, 16, 11, 10, 5, 6, 7, 8, 9, 4, 0, 1, 2, 3] (fun S hle hfr => .inr ⟨.inr (.inl ⟨_, _, _, _, rfl, rfl, (hle.ev (x := .tmp _) rfl (by nofun)), (by rw [hle.nt]; rfl), (by first | rfl | (rw [rfl]; rfl))⟩), rfl, hle.d rfl⟩) ?_
   refine ob [20, 21, 19, 18, 17, 12, 13, 14, 15, 16, 11, 10, 5, 6, 7, 8, 9, 4, 0, 1, 2, 3] (fun S hle hfr => .inr ⟨.inr (.inl ⟨_, _, _, _, rfl, rfl, (hle.ev (x := .tmp _) rfl (by nofun)), (by rw [hle.nt]; rfl), (by first | rfl | (rw [rfl]; rfl))⟩), rfl, hle.d rfl⟩) ?_
   refine ob [19, 22, 18, 17, 20, 21, 12, 13, 14, 15, 16, 11, 10, 5, 6, 7, 8, 9, 4, 0, 1, 2, 3] (fun S hle hfr => .inl ⟨w0, st_pick_no (hle.e rfl) (by first | rfl | exact rfl) (hle.e rfl) (hle.d rfl)⟩) ?_
   refine ob [23, 22, 19, 20, 21, 18, 17, 12, 13, 14, 15, 16, 11, 10, 5, 6, 7, 8, 9, 4, 0, 1, 2, 3] (fun S hle hfr => .inl ⟨w0, st_move (hle.e rfl) (hle.d rfl)⟩) ?_
   iterate 4 refine ob [24, 23, 22, 19, 20, 21, 18, 17, 12, 13, 14, 15, 16, 11, 10, 5, 6, 7, 8, 9, 4, 0, 1, 2, 3] (fun S hle hfr => .inr ⟨.inr (.inl ⟨_, _, _, _, rfl, rfl, (hle.ev (x := .tmp _) rfl (by nofun)), (by rw [hle.nt]; rfl), (by first | rfl | (rw [rfl]; rfl))⟩), rfl, hle.d rfl⟩) ?_
   refine ob [25, 26, 27, 28, 24, 23, 22, 19, 20, 21, 18, 17, 12, 13, 14, 15, 16, 11, 10, 5, 6, 7, 8, 9, 4, 0, 1, 2, 3] (fun S hle hfr => .inr ⟨.inr (.inl ⟨_, _, _, _, rfl, rfl, (hle.ev (x := .tmp _) rfl (by nofun)), (by rw [hle.nt]; rfl), (by first | rfl | (rw [rfl]; rfl))⟩), rfl, hle.d rfl⟩) ?_
   refine ob [24, 29, 23, 22, 25, 26, 27, 28, 19, 20, 21, 18, 17, 12, 13, 14, 15, 16, 11, 10, 5, 6, 7, 8, 9, 4, 0, 1, 2, 3] (fun S hle hfr => .inl ⟨w0, st_pick_no (hle.e rfl) (by first | rfl | exact rfl) (hle.e rfl) (hle.d rfl)⟩) ?_
   refine ob [30, 29, 24, 25, 26, 27, 28, 23, 22, 19, 20, 21, 18, 17, 12, 13, 14, 15, 16, 11, 10, 5, 6, 7, 8, 9, 4, 0, 1, 2, 3] (fun S hle hfr => .inl ⟨w0, st_move (hle.e rfl) (hle.d rfl)⟩) ?_
   refine ob [31, 30, 29, 24, 25, 26, 27, 28, 23, 22, 19, 20, 21, 18, 17, 12, 13, 14, 15, 16, 11, 10, 5, 6, 7, 8, 9, 4, 0, 1, 2, 3] (fun S hle hfr => .inr ⟨.inr (.inl ⟨_, _, _, _, rfl, rfl, (hle.ev (x := .tmp _) rfl (by nofun)), (by rw [hle.nt]; rfl), (by first | rfl | (rw [rfl]; rfl))⟩), rfl, hle.d rfl⟩) ?_
   refine ob [32, 31, 30, 29, 24, 25, 26, 27, 28, 23, 22, 19, 20, 21, 18, 17, 12, 13, 14, 15, 16, 11, 10, 5, 6, 7, 8, 9, 4, 0, 1, 2, 3] (fun S hle hfr => .inr ⟨.inr (.inl ⟨_, _, _, _, rfl, rfl, (hle.ev (x := .tmp _) rfl (by nofun)), (by rw [hle.nt]; rfl), (by first | rfl | (rw [rfl]; rfl))⟩), rfl, hle.d rfl⟩) ?_
   refine ob [31, 30, 29, 24, 25, 26, 27, 28, 23, 22, 19, 20, 21, 18, 17, 12, 13, 14, 15, 16, 11, 10, 5, 6, 7, 8, 9, 4, 0, 1, 2, 3] (fun S hle hfr => .inr ⟨.inr (.inl ⟨_, _, _, _, rfl, rfl, (hle.ev (x := .tmp _) rfl (by nofun)), (by rw [hle.nt]; rfl), (by first | rfl | (rw [rfl]; rfl))⟩), rfl, hle.d rfl⟩) ?_
   exact trivial
  case hk6x => rfl
  case hf6x => rfl
  refine aops_no rfl rfl rfl rfl rfl (by decide) (aops_no rfl rfl rfl rfl rfl (by decide) (aops_step1 rfl (st_pick_no rfl (by first | rfl | exact rfl) rfl rfl) (s_sa ?_)))
  refine aops_nil ?_
  cases Option.some.inj h
  exact aw_ret ⟨rfl, rv r1⟩
end Md
end Go.Proofs.Ytkcfkcgclljncaa
