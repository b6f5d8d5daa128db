/-
  StorS: where a function's model gives a value, the function returns what reads as it (printed by wip/tools/auto.py). Condition of each: the model gives a value.
-/
import Derived.Test.YtkcfkcgclljncaaStorSM
import Derived.Test.YtkcfkcgclljncaaTy
import Derived.Test.YtkcfkcgclljncaaAbsS
import Derived.Test.YtkcfkcgclljncaaStorK
namespace Go.Proofs.Ytkcfkcgclljncaa
open Go.ChangeShapes Go.WideShapes Go.RowKit
open Abs
set_option linter.unusedVariables false
set_option linter.unusedSimpArgs false
set_option maxRecDepth 10000
namespace Md
def c_Actorgridlaw28Act (x : Actorgridlaw28Act) : List CV := [.val (.int .u8 (x.Kind.toNat : Int)), CV.ls byC x.B, .val (.int .u8 (x.Writes.toNat : Int)), .val (.int .u8 (x.Keep.toNat : Int))]
set_option maxHeartbeats 2000000 in
theorem actorgridlaw28_StoreSurvives_fn (k : Nat) (a0 : List Actorgridlaw28Act) (r : Bool) (h : actorgridlaw28_StoreSurvives k a0 = some r) : FnC Try.prog 14 [.one (CV.ls c_Actorgridlaw28Act a0)] [] (Det (vB r) []) := by
  unfold actorgridlaw28_StoreSurvives at h
  refine fn_intro' 179 Try.func14 rfl rfl rfl (aw_seq (aw_region (s_sa ?_)))
  refine aops_nil (aw_seq (aw_seq (aw_region ?_)))
  obtain ⟨x1, hx1, h⟩ := Md.bind_s h
  refine aops_step1 rfl (ev_call_v (actorgridlaw28_awake_fn k x1 hx1) rfl [] ai rfl rfl rfl (.inl rfl) rfl) (s_nt ?_)
  refine aops_nil ?_
  refine aw_cond rfl (fun c2 => ?_) (fun c2 => ?_)
  · replace h := Md.cond_t h c2
    refine aw_seq (aw_region (s_sa ?_))
    refine aops_nil ?_
    cases Option.some.inj h
    exact aw_ret ⟨rfl, rv r1⟩
  replace h := Md.cond_f h c2
  refine aw_skip (aw_seq (aw_seq (aw_region (s_mv ?_))))
  refine s_ln ?_
  refine s_cm ?_
  refine aops_nil ?_
  refine aw_cond rfl (fun c3 => ?_) (fun c3 => ?_)
  · replace h := Md.cond_t h c3
    refine aw_seq (aw_region (s_sa ?_))
    refine aops_nil ?_
    cases Option.some.inj h
    exact aw_ret ⟨rfl, rv r1⟩
  replace h := Md.cond_f h c3
  refine aw_skip (aw_seq (aw_region ?_))
  obtain ⟨x4, hx4, h⟩ := Md.bind_s h
  refine aops_step1 rfl (ev_call_v (store_New_fn k 1048576 x4 hx4) rfl [] ai rfl rfl rfl (.inl rfl) rfl) (s_mt ?_)
  iterate 2 refine s_ex ?_
  refine aops_step1 rfl (st_alloc (cs := [.val (.slice none 0 0), cI 0, cB false, cI 0, cI 0, cB false, .val (.slice none 0 0), cI 0, cB false, cI 0, cI 0, cB false, cI 0, cI 0, cI 0, cI 0]) 0 rfl rfl rfl rfl rfl) (s_st [_, _, _, _, _, _, _, _, _, _, _, _, _, _, _, _] ?_)
  refine s_sa ?_
  refine aops_nil (aw_seq (aw_seq (aw_region (s_mv ?_))))
  refine s_cm ?_
  refine aops_nil ?_
  refine aw_cond rfl (fun c5 => ?_) (fun c5 => ?_)
  · replace h := Md.cond_t h c5
    refine aw_seq (aw_region (s_sa ?_))
    refine aops_nil ?_
    cases Option.some.inj h
    exact aw_ret ⟨rfl, rv r1⟩
  replace h := Md.cond_f h c5
  refine aw_skip (aw_seq (aw_region ?_))
  iterate 2 refine s_sa ?_
  refine aops_nil (aw_seq (aw_seq (aw_region (s_sa ?_))))
  refine aops_nil (aw_block ?_)
  obtain ⟨o6, ho6, h⟩ := Md.bind_s h
  refine aw_loop_x (ι := {p : Nat × (List UInt8) × Nat × Store // actorgridlaw28_StoreSurvives_loop1 k a0 p.1 p.2.1 p.2.2.1 p.2.2.2 = some o6}) (fun p => (⟨179, [], [(0, .one (CV.ls c_Actorgridlaw28Act a0)), (3, .one (.ptr 0 0)), (5, .one (.val (Sv p.1.2.1))), (6, .one (.val (Sv []))), (7, vI ((p.1.2.2.1 : Nat) : Int))], [(0, some (.box (c_Store p.1.2.2.2)))]⟩ : ASt)) (fun p => p.1.1) ⟨(k, ([] : List UInt8), 0, x4.1), ho6⟩ wk 0 (ε := Unit) (fun x => (⟨179, [], [], []⟩ : ASt)) (fun x => Sum.inl x = o6) (fun _ _ w h => aw_weak w h) ?_ ?_
  · intro x6_0 hI6
    subst hI6
    replace h := Md.onS_l h
    change AW _ _ (⟨179, [], [], []⟩ : ASt) _
    refine aw_seq (aw_region (s_sa ?_))
    refine aops_nil ?_
    cases Option.some.inj h
    exact aw_ret ⟨rfl, rv r1⟩
  intro p6
  obtain ⟨⟨n6, s6_0, s6_1, s6_2⟩, l6⟩ := p6
  change AW _ _ (⟨179, [], [(0, .one (CV.ls c_Actorgridlaw28Act a0)), (3, .one (.ptr 0 0)), (5, .one (.val (Sv s6_0))), (6, .one (.val (Sv []))), (7, vI ((s6_1 : Nat) : Int))], [(0, some (.box (c_Store s6_2)))]⟩ : ASt) _
  replace l6 : actorgridlaw28_StoreSurvives_loop1 k a0 n6 s6_0 s6_1 s6_2 = some o6 := l6
  rcases n6 with _ | n6
  · exact absurd (show none = some o6 from l6) nofun
  rw [actorgridlaw28_StoreSurvives_loop1] at l6
  refine aw_seq (aw_seq (aw_region ?_))
  iterate 2 refine s_mv ?_
  refine s_ln ?_
  refine s_cm ?_
  refine aops_nil ?_
  refine aw_cond rfl (fun c7 => ?_) (fun c7 => ?_)
  · replace l6 := Md.cond_t l6 c7
    refine aw_skip ?_
    obtain ⟨o8, j8, l6⟩ := Md.bind_s l6
    refine aw_cut (ε := ((List UInt8) × Store)) (fun x => (⟨179, [], [(0, .one (CV.ls c_Actorgridlaw28Act a0)), (3, .one (.ptr 0 0)), (5, .one (.val (Sv x.1))), (6, .one (.val (Sv []))), (7, vI ((s6_1 : Nat) : Int))], [(0, some (.box (c_Store x.2)))]⟩ : ASt)) (fun x => Sum.inl x = o8) ?_ ?_
    · intro x8_0 hI8
      subst hI8
      replace l6 := Md.onS_l l6
      change AW _ _ (⟨179, [], [(0, .one (CV.ls c_Actorgridlaw28Act a0)), (3, .one (.ptr 0 0)), (5, .one (.val (Sv x8_0.1))), (6, .one (.val (Sv []))), (7, vI ((s6_1 : Nat) : Int))], [(0, some (.box (c_Store x8_0.2)))]⟩ : ASt) _
      refine aw_region (s_mv ?_)
      obtain ⟨g9, l6⟩ := Md.ifp_s l6
      refine aops_step1 rfl (ev_add rfl rfl rfl (Md.nat_add g9)) (s_sa ?_)
      refine aops_nil ?_
      exact ⟨⟨(n6, x8_0.1, (s6_1 + 1), x8_0.2), l6⟩, Nat.lt_succ_self _, wk⟩
    refine aw_block (aw_seq (aw_region ?_))
    iterate 2 refine s_mv ?_
    obtain ⟨g10, j8⟩ := Md.ifp_s j8
    refine aops_step1 rfl (ev_index_in rfl rfl rfl g10 rfl rfl) (aops_step1 rfl (ev_loads_in (ds := [_, _, _, _]) rfl rfl rfl rfl) ?_)
    refine aops_step1 rfl (st_alloc (cs := [.val (.int .u8 0), .val (.slice none 0 0), .val (.int .u8 0), .val (.int .u8 0)]) 1 rfl rfl rfl rfl rfl) (s_st [_, _, _, _] ?_)
    refine aops_nil (aw_seq (aw_seq (aw_region (s_fd ?_))))
    refine s_ld ?_
    refine s_ln ?_
    refine s_cm ?_
    refine aops_nil ?_
    refine aw_cond rfl (fun c11 => ?_) (fun c11 => ?_)
    · replace j8 := Md.cond_t j8 c11
      refine aw_seq (aw_region (s_sa ?_))
      refine aops_nil ?_
      cases Option.some.inj j8
      replace l6 := Md.onS_r l6
      cases Option.some.inj l6
      replace h := Md.onS_r h
      cases Option.some.inj h
      exact aw_ret ⟨rfl, rv r1⟩
    replace j8 := Md.cond_f j8 c11
    refine aw_skip (aw_seq (aw_region (s_sa ?_)))
    refine aops_nil (aw_seq (aw_seq (aw_region (s_fd ?_))))
    refine s_ld ?_
    refine aops_step1 rfl (ev_rem rfl rfl rfl (by decide) (Md.rem_u8 ((a0.getD s6_1 default).Kind) (6 : UInt8))) (aops_nil (aw_block (aw_seq (aw_seq (aw_region (s_cm ?_))))))
    refine s_sa ?_
    refine aops_nil ?_
    refine aw_cond rfl (fun c12 => ?_) (fun c12 => ?_)
    · replace j8 := Md.cond_t j8 c12
      refine aw_skip (aw_yes rfl (c12) (aw_seq (aw_region (s_ls [_, _, _, _, _, _, _, _, _, _, _, _, _, _, _, _] ?_))))
      refine s_fd ?_
      refine s_ld ?_
      obtain ⟨x13, hx13, j8⟩ := Md.bind_s j8
      refine aops_step1 rfl (ev_call_v (store_Put_fn k s6_2 ((a0.getD s6_1 default).B) x13 hx13) rfl [] ai rfl rfl rfl (.inl rfl) rfl) (s_mt ?_)
      iterate 2 refine s_ex ?_
      refine aops_step1 rfl (st_alloc (cs := [.val (.slice none 0 0), cI 0, cB false, cI 0, cI 0, cB false, .val (.slice none 0 0), cI 0, cB false, cI 0, cI 0, cB false, cI 0, cI 0, cI 0, cI 0]) 2 rfl rfl rfl rfl rfl) (s_st [_, _, _, _, _, _, _, _, _, _, _, _, _, _, _, _] ?_)
      refine s_sa ?_
      refine aops_nil (aw_seq (aw_region (s_ls [_, _, _, _, _, _, _, _, _, _, _, _, _, _, _, _] ?_)))
      refine s_st [_, _, _, _, _, _, _, _, _, _, _, _, _, _, _, _] ?_
      refine aops_nil (aw_seq (aw_region (s_mv ?_)))
      refine s_cm ?_
      refine aops_nil ?_
      refine aw_cond rfl (fun c14 => ?_) (fun c14 => ?_)
      · replace j8 := Md.cond_t j8 c14
        refine aw_region (s_mv ?_)
        refine s_fd ?_
        refine s_ld ?_
        refine aops_step1 rfl (ev_str_bytes (.inl rfl) Try.underlying24 Try.underlying5 Try.underlying9 rfl) ?_
        obtain ⟨g15, j8⟩ := Md.ifp_s j8
        refine aops_step1 rfl (st_str_add rfl rfl rfl g15) ?_
        obtain ⟨g16, j8⟩ := Md.ifp_s j8
        refine aops_step1 rfl (st_str_add rfl rfl rfl g16) (s_sa ?_)
        refine aops_nil (aw_seq (aw_seq (aw_region (s_mv ?_))))
        refine s_nt ?_
        refine aops_nil (aw_yes rfl (rfl) (aw_exit ?_))
        show ∃ _x : (List UInt8) × Store, _ = _ ∧ Weak _ _
        exact ⟨((s6_0 ++ (((a0.getD s6_1 default).B) ++ [59])), x13.1), Option.some.inj j8, wk⟩
      replace j8 := Md.cond_f j8 c14
      refine aw_seq (aw_region (s_mv ?_))
      refine s_cm ?_
      refine aops_nil ?_
      refine aw_cond rfl (fun c17 => ?_) (fun c17 => ?_)
      · replace j8 := Md.cond_t j8 c17
        refine aw_region (s_fd ?_)
        refine s_ld ?_
        refine aops_step1 rfl (ev_str_bytes (.inl rfl) Try.underlying24 Try.underlying5 Try.underlying9 rfl) ?_
        obtain ⟨g18, j8⟩ := Md.ifp_s j8
        refine aops_step1 rfl (st_str_add rfl rfl rfl g18) ?_
        iterate 2 refine s_sa ?_
        refine aops_nil (aw_seq (aw_seq (aw_region (s_mv ?_))))
        refine s_nt ?_
        refine aops_nil (aw_no rfl (rfl) (aw_skip (aw_seq (aw_seq (aw_region (s_sa ?_))))))
        refine aops_nil (aw_block ?_)
        obtain ⟨o19, ho19, j8⟩ := Md.bind_s j8
        refine aw_loop_x (ι := {p : Nat × Nat × Store // actorgridlaw28_StoreSurvives_loop2 k p.1 p.2.1 p.2.2 = some o19}) (fun p => (⟨179, [], [(0, .one (CV.ls c_Actorgridlaw28Act a0)), (3, .one (.ptr 0 0)), (5, .one (.val (Sv s6_0))), (6, .one (.val (Sv (((a0.getD s6_1 default).B) ++ [59])))), (7, vI ((s6_1 : Nat) : Int)), (17, vI ((p.1.2.1 : Nat) : Int))], [(0, some (.box (c_Store p.1.2.2)))]⟩ : ASt)) (fun p => p.1.1) ⟨(k, 0, x13.1), ho19⟩ wk 3 (ε := Store) (fun x => (⟨179, [], [(0, .one (CV.ls c_Actorgridlaw28Act a0)), (3, .one (.ptr 0 0)), (5, .one (.val (Sv s6_0))), (6, .one (.val (Sv (((a0.getD s6_1 default).B) ++ [59])))), (7, vI ((s6_1 : Nat) : Int))], [(0, some (.box (c_Arr2Disk x.Disks ++ [cI x.Current, cI x.Number, cI x.Base, cI x.Count])))]⟩ : ASt)) (fun x => Sum.inl x = o19) (fun _ _ w h => aw_weak w h) ?_ ?_
        · intro x19_0 hI19
          subst hI19
          replace j8 := Md.onS_l j8
          change AW _ _ (⟨179, [], [(0, .one (CV.ls c_Actorgridlaw28Act a0)), (3, .one (.ptr 0 0)), (5, .one (.val (Sv s6_0))), (6, .one (.val (Sv (((a0.getD s6_1 default).B) ++ [59])))), (7, vI ((s6_1 : Nat) : Int))], [(0, some (.box (c_Store x19_0)))]⟩ : ASt) _
          refine aw_seq (aw_region (s_fd ?_))
          refine aops_step1 rfl (ev_index_arr rfl rfl rfl rfl rfl) (s_ls [_, _, _, _, _, _] ?_)
          refine s_fd ?_
          refine aops_step1 rfl (ev_index_arr rfl rfl rfl rfl rfl) (s_ls [_, _, _, _, _, _] ?_)
          obtain ⟨x20, hx20, j8⟩ := Md.bind_s j8
          refine aops_step1 rfl (ev_call_v (store_Recover_fn k x19_0.Disks.x0 x19_0.Disks.x1 x20 hx20) rfl [] ai rfl rfl rfl (.inl rfl) rfl) (s_mt ?_)
          iterate 3 refine s_ex ?_
          refine aops_step1 rfl (st_alloc (cs := [.val (.slice none 0 0), cI 0, cB false, cI 0, cI 0, cB false, .val (.slice none 0 0), cI 0, cB false, cI 0, cI 0, cB false, cI 0, cI 0, cI 0, cI 0]) 3 rfl rfl rfl rfl rfl) ?_
          refine aops_step1 rfl (st_alloc (cs := [cI 0, .val (.slice none 0 0), .val (.slice none 0 0)]) 4 rfl rfl rfl rfl rfl) (s_st [_, _, _, _, _, _, _, _, _, _, _, _, _, _, _, _] ?_)
          refine s_st [_, _, _] ?_
          refine s_sa ?_
          refine aops_nil (aw_seq (aw_seq (aw_region (s_mv ?_))))
          refine s_cm ?_
          refine s_mv ?_
          obtain ⟨o21, j21, j8⟩ := Md.bind_s j8
          refine aops_cut 4 (ε := Bool) (fun x21 => (⟨179, [], [(0, .one (CV.ls c_Actorgridlaw28Act a0)), (3, .one (.ptr 0 0)), (5, .one (.val (Sv s6_0))), (6, .one (.val (Sv (((a0.getD s6_1 default).B) ++ [59])))), (7, vI ((s6_1 : Nat) : Int)), (20, .one (.ptr 3 0)), (21, .one (.ptr 4 0)), (161, vB x21)], [(0, some (.box (c_Store x19_0))), (3, some (.box (c_Store x20.1))), (4, some (.box (c_StoreContents x20.2.1)))]⟩ : ASt)) (fun x21 => x21 = o21) ?_ ?_
          · intro x21 hI21
            subst hI21
            change AOps _ _ _ (⟨179, [], [(0, .one (CV.ls c_Actorgridlaw28Act a0)), (3, .one (.ptr 0 0)), (5, .one (.val (Sv s6_0))), (6, .one (.val (Sv (((a0.getD s6_1 default).B) ++ [59])))), (7, vI ((s6_1 : Nat) : Int)), (20, .one (.ptr 3 0)), (21, .one (.ptr 4 0)), (161, vB x21)], [(0, some (.box (c_Store x19_0))), (3, some (.box (c_Store x20.1))), (4, some (.box (c_StoreContents x20.2.1)))]⟩ : ASt) _
            refine aops_nil ?_
            refine aw_cond rfl (fun c22 => ?_) (fun c22 => ?_)
            · replace j8 := Md.cond_t j8 c22
              refine aw_seq (aw_region (s_sa ?_))
              refine aops_nil ?_
              cases Option.some.inj j8
              replace l6 := Md.onS_r l6
              cases Option.some.inj l6
              replace h := Md.onS_r h
              cases Option.some.inj h
              exact aw_ret ⟨rfl, rv r1⟩
            replace j8 := Md.cond_f j8 c22
            refine aw_skip (aw_seq (aw_region (s_fd ?_)))
            refine s_ld ?_
            refine s_fd ?_
            refine s_ld ?_
            obtain ⟨x23, hx23, j8⟩ := Md.bind_s j8
            refine aops_step1 rfl (ev_call_v (actorgridlaw28_fold_fn k x20.2.1.State x20.2.1.Entries x23 hx23) rfl [] ai rfl rfl rfl (.inl rfl) rfl) (s_sa ?_)
            refine aops_nil (aw_seq (aw_seq (aw_region ?_)))
            iterate 2 refine s_mv ?_
            refine aops_step1 rfl (st_str_ne rfl rfl rfl) (s_mv ?_)
            obtain ⟨o24, j24, j8⟩ := Md.bind_s j8
            refine aops_cut 6 (ε := Bool) (fun x24 => (⟨179, [], [(0, .one (CV.ls c_Actorgridlaw28Act a0)), (3, .one (.ptr 0 0)), (7, vI ((s6_1 : Nat) : Int)), (20, .one (.ptr 3 0)), (23, .one (.val (Sv x23))), (176, vB x24)], [(0, some (.box (c_Store x19_0))), (3, some (.box (c_Store x20.1)))]⟩ : ASt)) (fun x24 => x24 = o24) ?_ ?_
            · intro x24 hI24
              subst hI24
              change AOps _ _ _ (⟨179, [], [(0, .one (CV.ls c_Actorgridlaw28Act a0)), (3, .one (.ptr 0 0)), (7, vI ((s6_1 : Nat) : Int)), (20, .one (.ptr 3 0)), (23, .one (.val (Sv x23))), (176, vB x24)], [(0, some (.box (c_Store x19_0))), (3, some (.box (c_Store x20.1)))]⟩ : ASt) _
              refine aops_nil ?_
              refine aw_cond rfl (fun c25 => ?_) (fun c25 => ?_)
              · replace j8 := Md.cond_t j8 c25
                refine aw_seq (aw_region (s_sa ?_))
                refine aops_nil ?_
                cases Option.some.inj j8
                replace l6 := Md.onS_r l6
                cases Option.some.inj l6
                replace h := Md.onS_r h
                cases Option.some.inj h
                exact aw_ret ⟨rfl, rv r1⟩
              replace j8 := Md.cond_f j8 c25
              refine aw_skip (aw_region (s_ls [_, _, _, _, _, _, _, _, _, _, _, _, _, _, _, _] ?_))
              refine s_mv ?_
              refine s_st [_, _, _, _, _, _, _, _, _, _, _, _, _, _, _, _] ?_
              iterate 2 refine s_sa ?_
              refine aops_nil ?_
              show ∃ _x : (List UInt8) × Store, _ = _ ∧ Weak _ _
              exact ⟨(x23, x20.1), Option.some.inj j8, wk⟩
            rcases Md.bool_or ((!(decide (x23 = s6_0)))) with q24 | q24
            · replace j24 := Md.cond_t j24 q24
              iterate 3 refine y_mv q24 ?_
              obtain ⟨g26, j24⟩ := Md.ifp_s j24
              refine aops_yes rfl rfl rfl rfl q24 (st_str_add rfl rfl rfl g26) (aops_yes rfl rfl rfl rfl q24 (st_str_ne rfl rfl rfl) (s_py q24 ?_))
              refine aops_nil ?_
              show ∃ _x : Bool, _ = _ ∧ Weak _ _
              exact ⟨(!(decide (x23 = (s6_0 ++ (((a0.getD s6_1 default).B) ++ [59]))))), Option.some.inj j24, wk⟩
            replace j24 := Md.cond_f j24 q24
            iterate 5 refine np q24 ?_
            refine s_pn q24 ?_
            refine aops_nil ?_
            show ∃ _x : Bool, _ = _ ∧ Weak _ _
            exact ⟨false, Option.some.inj j24, wk⟩
          rcases Md.bool_or ((x20.2.2 != 0)) with q21 | q21
          · replace j21 := Md.cond_t j21 q21
            iterate 3 refine np q21 ?_
            refine s_py q21 ?_
            refine aops_nil ?_
            show ∃ _x : Bool, _ = _ ∧ Weak _ _
            exact ⟨true, Option.some.inj j21, wk⟩
          replace j21 := Md.cond_f j21 q21
          refine aops_yes rfl rfl rfl rfl q21 (ev_loads (ds := [_, _, _, _, _, _, _, _, _, _, _, _, _, _, _, _]) rfl rfl rfl rfl rfl) ?_
          obtain ⟨x27, hx27, j21⟩ := Md.bind_s j21
          refine aops_yes rfl rfl rfl rfl q21 (ev_call_v (store_Valid_fn k x20.1 x27 hx27) rfl [] ai rfl rfl rfl (.inl rfl) rfl) (y_nt q21 ?_)
          refine s_pn q21 ?_
          refine aops_nil ?_
          show ∃ _x : Bool, _ = _ ∧ Weak _ _
          exact ⟨(!x27), Option.some.inj j21, wk⟩
        intro p19
        obtain ⟨⟨n19, s19_0, s19_1⟩, l19⟩ := p19
        change AW _ _ (⟨179, [], [(0, .one (CV.ls c_Actorgridlaw28Act a0)), (3, .one (.ptr 0 0)), (5, .one (.val (Sv s6_0))), (6, .one (.val (Sv (((a0.getD s6_1 default).B) ++ [59])))), (7, vI ((s6_1 : Nat) : Int)), (17, vI ((s19_0 : Nat) : Int))], [(0, some (.box (c_Store s19_1)))]⟩ : ASt) _
        replace l19 : actorgridlaw28_StoreSurvives_loop2 k n19 s19_0 s19_1 = some o19 := l19
        rcases n19 with _ | n19
        · exact absurd (show none = some o19 from l19) nofun
        rw [actorgridlaw28_StoreSurvives_loop2] at l19
        refine aw_seq (aw_seq (aw_region (s_mv ?_)))
        refine s_cm ?_
        refine aops_nil ?_
        refine aw_cond rfl (fun c28 => ?_) (fun c28 => ?_)
        · replace l19 := Md.cond_t l19 c28
          refine aw_skip ?_
          obtain ⟨o29, j29, l19⟩ := Md.bind_s l19
          refine aw_cut (ε := Store) (fun x => (⟨179, [], [(0, .one (CV.ls c_Actorgridlaw28Act a0)), (3, .one (.ptr 0 0)), (5, .one (.val (Sv s6_0))), (6, .one (.val (Sv (((a0.getD s6_1 default).B) ++ [59])))), (7, vI ((s6_1 : Nat) : Int)), (17, vI ((s19_0 : Nat) : Int))], [(0, some (.box (c_Arr2Disk x.Disks ++ [cI x.Current, cI x.Number, cI x.Base, cI x.Count])))]⟩ : ASt)) (fun x => Sum.inl x = o29) ?_ ?_
          · intro x29_0 hI29
            subst hI29
            replace l19 := Md.onS_l l19
            change AW _ _ (⟨179, [], [(0, .one (CV.ls c_Actorgridlaw28Act a0)), (3, .one (.ptr 0 0)), (5, .one (.val (Sv s6_0))), (6, .one (.val (Sv (((a0.getD s6_1 default).B) ++ [59])))), (7, vI ((s6_1 : Nat) : Int)), (17, vI ((s19_0 : Nat) : Int))], [(0, some (.box (c_Store x29_0)))]⟩ : ASt) _
            refine aw_region (s_mv ?_)
            obtain ⟨g30, l19⟩ := Md.ifp_s l19
            refine aops_step1 rfl (ev_add rfl rfl rfl (Md.nat_add g30)) (s_sa ?_)
            refine aops_nil ?_
            exact ⟨⟨(n19, (s19_0 + 1), x29_0), l19⟩, Nat.lt_succ_self _, wk⟩
          refine aw_block (aw_seq (aw_region (s_mv ?_)))
          refine s_fd ?_
          rcases Md.bool_or ((decide (((s19_0 : Nat) : Int) = 0))) with q31 | q31
          · replace j29 := Md.cond_t j29 q31
            refine aops_step1 rfl (ev_index_arr (j := 0) rfl rfl (of_decide_eq_true q31) rfl rfl) (s_ls [_, _, _, _, _, _] ?_)
            obtain ⟨x32, hx32, j29⟩ := Md.bind_s j29
            refine aops_step1 rfl (ev_call_v (disk_Restart_fn k s19_1.Disks.x0 x32 hx32) rfl [] ai rfl rfl rfl (.inl rfl) rfl) (s_mt ?_)
            iterate 2 refine s_ex ?_
            refine aops_step1 rfl (st_alloc (cs := [.val (.slice none 0 0), cI 0, cB false, cI 0, cI 0, cB false]) 3 rfl rfl rfl rfl rfl) (s_st [_, _, _, _, _, _] ?_)
            refine s_sa ?_
            refine aops_nil (aw_seq (aw_seq (aw_region (s_mv ?_))))
            refine s_cm ?_
            refine aops_nil ?_
            refine aw_cond rfl (fun c33 => ?_) (fun c33 => ?_)
            · replace j29 := Md.cond_t j29 c33
              refine aw_seq (aw_region (s_sa ?_))
              refine aops_nil ?_
              cases Option.some.inj j29
              replace l19 := Md.onS_r l19
              cases Option.some.inj l19
              replace j8 := Md.onS_r j8
              cases Option.some.inj j8
              replace l6 := Md.onS_r l6
              cases Option.some.inj l6
              replace h := Md.onS_r h
              cases Option.some.inj h
              exact aw_ret ⟨rfl, rv r1⟩
            replace j29 := Md.cond_f j29 c33
            refine aw_skip (aw_region (s_mv ?_))
            refine s_ls [_, _, _, _, _, _] ?_
            refine s_fd ?_
            refine aops_step1 rfl (ev_index_arr (j := 0) rfl rfl (of_decide_eq_true q31) rfl rfl) (s_st [_, _, _, _, _, _, _, _, _, _, _, _, _, _, _, _] ?_)
            refine aops_nil ?_
            show ∃ _x : Store, _ = _ ∧ Weak _ _
            exact ⟨(⟨(⟨x32.1, s19_1.Disks.x1⟩ : Arr2Disk), s19_1.Current, s19_1.Number, s19_1.Base, s19_1.Count⟩ : Store), Option.some.inj j29, wk⟩
          replace j29 := Md.cond_f j29 q31
          obtain ⟨g34, j29⟩ := Md.ifp_s j29
          refine aops_step1 rfl (ev_index_arr (j := 1) rfl rfl g34 rfl rfl) (s_ls [_, _, _, _, _, _] ?_)
          obtain ⟨x35, hx35, j29⟩ := Md.bind_s j29
          refine aops_step1 rfl (ev_call_v (disk_Restart_fn k s19_1.Disks.x1 x35 hx35) rfl [] ai rfl rfl rfl (.inl rfl) rfl) (s_mt ?_)
          iterate 2 refine s_ex ?_
          refine aops_step1 rfl (st_alloc (cs := [.val (.slice none 0 0), cI 0, cB false, cI 0, cI 0, cB false]) 3 rfl rfl rfl rfl rfl) (s_st [_, _, _, _, _, _] ?_)
          refine s_sa ?_
          refine aops_nil (aw_seq (aw_seq (aw_region (s_mv ?_))))
          refine s_cm ?_
          refine aops_nil ?_
          refine aw_cond rfl (fun c36 => ?_) (fun c36 => ?_)
          · replace j29 := Md.cond_t j29 c36
            refine aw_seq (aw_region (s_sa ?_))
            refine aops_nil ?_
            cases Option.some.inj j29
            replace l19 := Md.onS_r l19
            cases Option.some.inj l19
            replace j8 := Md.onS_r j8
            cases Option.some.inj j8
            replace l6 := Md.onS_r l6
            cases Option.some.inj l6
            replace h := Md.onS_r h
            cases Option.some.inj h
            exact aw_ret ⟨rfl, rv r1⟩
          replace j29 := Md.cond_f j29 c36
          refine aw_skip (aw_region (s_mv ?_))
          refine s_ls [_, _, _, _, _, _] ?_
          refine s_fd ?_
          obtain ⟨g37, j29⟩ := Md.ifp_s j29
          refine aops_step1 rfl (ev_index_arr (j := 1) rfl rfl g37 rfl rfl) (s_st [_, _, _, _, _, _, _, _, _, _, _, _, _, _, _, _] ?_)
          refine aops_nil ?_
          show ∃ _x : Store, _ = _ ∧ Weak _ _
          exact ⟨(⟨(⟨s19_1.Disks.x0, x35.1⟩ : Arr2Disk), s19_1.Current, s19_1.Number, s19_1.Base, s19_1.Count⟩ : Store), Option.some.inj j29, wk⟩
        replace l19 := Md.cond_f l19 c28
        refine aw_exit ?_
        show ∃ _x : Store, _ = _ ∧ Weak _ _
        exact ⟨s19_1, Option.some.inj l19, wk⟩
      replace j8 := Md.cond_f j8 c17
      refine aw_seq (aw_region (s_sa ?_))
      refine aops_nil ?_
      cases Option.some.inj j8
      replace l6 := Md.onS_r l6
      cases Option.some.inj l6
      replace h := Md.onS_r h
      cases Option.some.inj h
      exact aw_ret ⟨rfl, rv r1⟩
    replace j8 := Md.cond_f j8 c12
    refine aw_seq (aw_region (s_cm ?_))
    refine s_sa ?_
    refine aops_nil ?_
    refine aw_cond rfl (fun c38 => ?_) (fun c38 => ?_)
    · replace j8 := Md.cond_t j8 c38
      refine aw_skip (aw_yes rfl (c38) (aw_seq (aw_region (s_ls [_, _, _, _, _, _, _, _, _, _, _, _, _, _, _, _] ?_))))
      refine s_fd ?_
      refine s_ld ?_
      obtain ⟨x39, hx39, j8⟩ := Md.bind_s j8
      refine aops_step1 rfl (ev_call_v (store_Put_fn k s6_2 ((a0.getD s6_1 default).B) x39 hx39) rfl [] ai rfl rfl rfl (.inl rfl) rfl) (s_mt ?_)
      iterate 2 refine s_ex ?_
      refine aops_step1 rfl (st_alloc (cs := [.val (.slice none 0 0), cI 0, cB false, cI 0, cI 0, cB false, .val (.slice none 0 0), cI 0, cB false, cI 0, cI 0, cB false, cI 0, cI 0, cI 0, cI 0]) 2 rfl rfl rfl rfl rfl) (s_st [_, _, _, _, _, _, _, _, _, _, _, _, _, _, _, _] ?_)
      refine s_sa ?_
      refine aops_nil (aw_seq (aw_region (s_ls [_, _, _, _, _, _, _, _, _, _, _, _, _, _, _, _] ?_)))
      refine s_st [_, _, _, _, _, _, _, _, _, _, _, _, _, _, _, _] ?_
      refine aops_nil (aw_seq (aw_region (s_mv ?_)))
      refine s_cm ?_
      refine aops_nil ?_
      refine aw_cond rfl (fun c40 => ?_) (fun c40 => ?_)
      · replace j8 := Md.cond_t j8 c40
        refine aw_region (s_mv ?_)
        refine s_fd ?_
        refine s_ld ?_
        refine aops_step1 rfl (ev_str_bytes (.inl rfl) Try.underlying24 Try.underlying5 Try.underlying9 rfl) ?_
        obtain ⟨g41, j8⟩ := Md.ifp_s j8
        refine aops_step1 rfl (st_str_add rfl rfl rfl g41) ?_
        obtain ⟨g42, j8⟩ := Md.ifp_s j8
        refine aops_step1 rfl (st_str_add rfl rfl rfl g42) (s_sa ?_)
        refine aops_nil (aw_seq (aw_seq (aw_region (s_mv ?_))))
        refine s_nt ?_
        refine aops_nil (aw_yes rfl (rfl) (aw_exit ?_))
        show ∃ _x : (List UInt8) × Store, _ = _ ∧ Weak _ _
        exact ⟨((s6_0 ++ (((a0.getD s6_1 default).B) ++ [59])), x39.1), Option.some.inj j8, wk⟩
      replace j8 := Md.cond_f j8 c40
      refine aw_seq (aw_region (s_mv ?_))
      refine s_cm ?_
      refine aops_nil ?_
      refine aw_cond rfl (fun c43 => ?_) (fun c43 => ?_)
      · replace j8 := Md.cond_t j8 c43
        refine aw_region (s_fd ?_)
        refine s_ld ?_
        refine aops_step1 rfl (ev_str_bytes (.inl rfl) Try.underlying24 Try.underlying5 Try.underlying9 rfl) ?_
        obtain ⟨g44, j8⟩ := Md.ifp_s j8
        refine aops_step1 rfl (st_str_add rfl rfl rfl g44) ?_
        iterate 2 refine s_sa ?_
        refine aops_nil (aw_seq (aw_seq (aw_region (s_mv ?_))))
        refine s_nt ?_
        refine aops_nil (aw_no rfl (rfl) (aw_skip (aw_seq (aw_seq (aw_region (s_sa ?_))))))
        refine aops_nil (aw_block ?_)
        obtain ⟨o45, ho45, j8⟩ := Md.bind_s j8
        refine aw_loop_x (ι := {p : Nat × Nat × Store // actorgridlaw28_StoreSurvives_loop3 k p.1 p.2.1 p.2.2 = some o45}) (fun p => (⟨179, [], [(0, .one (CV.ls c_Actorgridlaw28Act a0)), (3, .one (.ptr 0 0)), (5, .one (.val (Sv s6_0))), (6, .one (.val (Sv (((a0.getD s6_1 default).B) ++ [59])))), (7, vI ((s6_1 : Nat) : Int)), (17, vI ((p.1.2.1 : Nat) : Int))], [(0, some (.box (c_Store p.1.2.2)))]⟩ : ASt)) (fun p => p.1.1) ⟨(k, 0, x39.1), ho45⟩ wk 3 (ε := Store) (fun x => (⟨179, [], [(0, .one (CV.ls c_Actorgridlaw28Act a0)), (3, .one (.ptr 0 0)), (5, .one (.val (Sv s6_0))), (6, .one (.val (Sv (((a0.getD s6_1 default).B) ++ [59])))), (7, vI ((s6_1 : Nat) : Int))], [(0, some (.box (c_Arr2Disk x.Disks ++ [cI x.Current, cI x.Number, cI x.Base, cI x.Count])))]⟩ : ASt)) (fun x => Sum.inl x = o45) (fun _ _ w h => aw_weak w h) ?_ ?_
        · intro x45_0 hI45
          subst hI45
          replace j8 := Md.onS_l j8
          change AW _ _ (⟨179, [], [(0, .one (CV.ls c_Actorgridlaw28Act a0)), (3, .one (.ptr 0 0)), (5, .one (.val (Sv s6_0))), (6, .one (.val (Sv (((a0.getD s6_1 default).B) ++ [59])))), (7, vI ((s6_1 : Nat) : Int))], [(0, some (.box (c_Store x45_0)))]⟩ : ASt) _
          refine aw_seq (aw_region (s_fd ?_))
          refine aops_step1 rfl (ev_index_arr rfl rfl rfl rfl rfl) (s_ls [_, _, _, _, _, _] ?_)
          refine s_fd ?_
          refine aops_step1 rfl (ev_index_arr rfl rfl rfl rfl rfl) (s_ls [_, _, _, _, _, _] ?_)
          obtain ⟨x46, hx46, j8⟩ := Md.bind_s j8
          refine aops_step1 rfl (ev_call_v (store_Recover_fn k x45_0.Disks.x0 x45_0.Disks.x1 x46 hx46) rfl [] ai rfl rfl rfl (.inl rfl) rfl) (s_mt ?_)
          iterate 3 refine s_ex ?_
          refine aops_step1 rfl (st_alloc (cs := [.val (.slice none 0 0), cI 0, cB false, cI 0, cI 0, cB false, .val (.slice none 0 0), cI 0, cB false, cI 0, cI 0, cB false, cI 0, cI 0, cI 0, cI 0]) 3 rfl rfl rfl rfl rfl) ?_
          refine aops_step1 rfl (st_alloc (cs := [cI 0, .val (.slice none 0 0), .val (.slice none 0 0)]) 4 rfl rfl rfl rfl rfl) (s_st [_, _, _, _, _, _, _, _, _, _, _, _, _, _, _, _] ?_)
          refine s_st [_, _, _] ?_
          refine s_sa ?_
          refine aops_nil (aw_seq (aw_seq (aw_region (s_mv ?_))))
          refine s_cm ?_
          refine s_mv ?_
          obtain ⟨o47, j47, j8⟩ := Md.bind_s j8
          refine aops_cut 4 (ε := Bool) (fun x47 => (⟨179, [], [(0, .one (CV.ls c_Actorgridlaw28Act a0)), (3, .one (.ptr 0 0)), (5, .one (.val (Sv s6_0))), (6, .one (.val (Sv (((a0.getD s6_1 default).B) ++ [59])))), (7, vI ((s6_1 : Nat) : Int)), (20, .one (.ptr 3 0)), (21, .one (.ptr 4 0)), (161, vB x47)], [(0, some (.box (c_Store x45_0))), (3, some (.box (c_Store x46.1))), (4, some (.box (c_StoreContents x46.2.1)))]⟩ : ASt)) (fun x47 => x47 = o47) ?_ ?_
          · intro x47 hI47
            subst hI47
            change AOps _ _ _ (⟨179, [], [(0, .one (CV.ls c_Actorgridlaw28Act a0)), (3, .one (.ptr 0 0)), (5, .one (.val (Sv s6_0))), (6, .one (.val (Sv (((a0.getD s6_1 default).B) ++ [59])))), (7, vI ((s6_1 : Nat) : Int)), (20, .one (.ptr 3 0)), (21, .one (.ptr 4 0)), (161, vB x47)], [(0, some (.box (c_Store x45_0))), (3, some (.box (c_Store x46.1))), (4, some (.box (c_StoreContents x46.2.1)))]⟩ : ASt) _
            refine aops_nil ?_
            refine aw_cond rfl (fun c48 => ?_) (fun c48 => ?_)
            · replace j8 := Md.cond_t j8 c48
              refine aw_seq (aw_region (s_sa ?_))
              refine aops_nil ?_
              cases Option.some.inj j8
              replace l6 := Md.onS_r l6
              cases Option.some.inj l6
              replace h := Md.onS_r h
              cases Option.some.inj h
              exact aw_ret ⟨rfl, rv r1⟩
            replace j8 := Md.cond_f j8 c48
            refine aw_skip (aw_seq (aw_region (s_fd ?_)))
            refine s_ld ?_
            refine s_fd ?_
            refine s_ld ?_
            obtain ⟨x49, hx49, j8⟩ := Md.bind_s j8
            refine aops_step1 rfl (ev_call_v (actorgridlaw28_fold_fn k x46.2.1.State x46.2.1.Entries x49 hx49) rfl [] ai rfl rfl rfl (.inl rfl) rfl) (s_sa ?_)
            refine aops_nil (aw_seq (aw_seq (aw_region ?_)))
            iterate 2 refine s_mv ?_
            refine aops_step1 rfl (st_str_ne rfl rfl rfl) (s_mv ?_)
            obtain ⟨o50, j50, j8⟩ := Md.bind_s j8
            refine aops_cut 6 (ε := Bool) (fun x50 => (⟨179, [], [(0, .one (CV.ls c_Actorgridlaw28Act a0)), (3, .one (.ptr 0 0)), (7, vI ((s6_1 : Nat) : Int)), (20, .one (.ptr 3 0)), (23, .one (.val (Sv x49))), (176, vB x50)], [(0, some (.box (c_Store x45_0))), (3, some (.box (c_Store x46.1)))]⟩ : ASt)) (fun x50 => x50 = o50) ?_ ?_
            · intro x50 hI50
              subst hI50
              change AOps _ _ _ (⟨179, [], [(0, .one (CV.ls c_Actorgridlaw28Act a0)), (3, .one (.ptr 0 0)), (7, vI ((s6_1 : Nat) : Int)), (20, .one (.ptr 3 0)), (23, .one (.val (Sv x49))), (176, vB x50)], [(0, some (.box (c_Store x45_0))), (3, some (.box (c_Store x46.1)))]⟩ : ASt) _
              refine aops_nil ?_
              refine aw_cond rfl (fun c51 => ?_) (fun c51 => ?_)
              · replace j8 := Md.cond_t j8 c51
                refine aw_seq (aw_region (s_sa ?_))
                refine aops_nil ?_
                cases Option.some.inj j8
                replace l6 := Md.onS_r l6
                cases Option.some.inj l6
                replace h := Md.onS_r h
                cases Option.some.inj h
                exact aw_ret ⟨rfl, rv r1⟩
              replace j8 := Md.cond_f j8 c51
              refine aw_skip (aw_region (s_ls [_, _, _, _, _, _, _, _, _, _, _, _, _, _, _, _] ?_))
              refine s_mv ?_
              refine s_st [_, _, _, _, _, _, _, _, _, _, _, _, _, _, _, _] ?_
              iterate 2 refine s_sa ?_
              refine aops_nil ?_
              show ∃ _x : (List UInt8) × Store, _ = _ ∧ Weak _ _
              exact ⟨(x49, x46.1), Option.some.inj j8, wk⟩
            rcases Md.bool_or ((!(decide (x49 = s6_0)))) with q50 | q50
            · replace j50 := Md.cond_t j50 q50
              iterate 3 refine y_mv q50 ?_
              obtain ⟨g52, j50⟩ := Md.ifp_s j50
              refine aops_yes rfl rfl rfl rfl q50 (st_str_add rfl rfl rfl g52) (aops_yes rfl rfl rfl rfl q50 (st_str_ne rfl rfl rfl) (s_py q50 ?_))
              refine aops_nil ?_
              show ∃ _x : Bool, _ = _ ∧ Weak _ _
              exact ⟨(!(decide (x49 = (s6_0 ++ (((a0.getD s6_1 default).B) ++ [59]))))), Option.some.inj j50, wk⟩
            replace j50 := Md.cond_f j50 q50
            iterate 5 refine np q50 ?_
            refine s_pn q50 ?_
            refine aops_nil ?_
            show ∃ _x : Bool, _ = _ ∧ Weak _ _
            exact ⟨false, Option.some.inj j50, wk⟩
          rcases Md.bool_or ((x46.2.2 != 0)) with q47 | q47
          · replace j47 := Md.cond_t j47 q47
            iterate 3 refine np q47 ?_
            refine s_py q47 ?_
            refine aops_nil ?_
            show ∃ _x : Bool, _ = _ ∧ Weak _ _
            exact ⟨true, Option.some.inj j47, wk⟩
          replace j47 := Md.cond_f j47 q47
          refine aops_yes rfl rfl rfl rfl q47 (ev_loads (ds := [_, _, _, _, _, _, _, _, _, _, _, _, _, _, _, _]) rfl rfl rfl rfl rfl) ?_
          obtain ⟨x53, hx53, j47⟩ := Md.bind_s j47
          refine aops_yes rfl rfl rfl rfl q47 (ev_call_v (store_Valid_fn k x46.1 x53 hx53) rfl [] ai rfl rfl rfl (.inl rfl) rfl) (y_nt q47 ?_)
          refine s_pn q47 ?_
          refine aops_nil ?_
          show ∃ _x : Bool, _ = _ ∧ Weak _ _
          exact ⟨(!x53), Option.some.inj j47, wk⟩
        intro p45
        obtain ⟨⟨n45, s45_0, s45_1⟩, l45⟩ := p45
        change AW _ _ (⟨179, [], [(0, .one (CV.ls c_Actorgridlaw28Act a0)), (3, .one (.ptr 0 0)), (5, .one (.val (Sv s6_0))), (6, .one (.val (Sv (((a0.getD s6_1 default).B) ++ [59])))), (7, vI ((s6_1 : Nat) : Int)), (17, vI ((s45_0 : Nat) : Int))], [(0, some (.box (c_Store s45_1)))]⟩ : ASt) _
        replace l45 : actorgridlaw28_StoreSurvives_loop3 k n45 s45_0 s45_1 = some o45 := l45
        rcases n45 with _ | n45
        · exact absurd (show none = some o45 from l45) nofun
        rw [actorgridlaw28_StoreSurvives_loop3] at l45
        refine aw_seq (aw_seq (aw_region (s_mv ?_)))
        refine s_cm ?_
        refine aops_nil ?_
        refine aw_cond rfl (fun c54 => ?_) (fun c54 => ?_)
        · replace l45 := Md.cond_t l45 c54
          refine aw_skip ?_
          obtain ⟨o55, j55, l45⟩ := Md.bind_s l45
          refine aw_cut (ε := Store) (fun x => (⟨179, [], [(0, .one (CV.ls c_Actorgridlaw28Act a0)), (3, .one (.ptr 0 0)), (5, .one (.val (Sv s6_0))), (6, .one (.val (Sv (((a0.getD s6_1 default).B) ++ [59])))), (7, vI ((s6_1 : Nat) : Int)), (17, vI ((s45_0 : Nat) : Int))], [(0, some (.box (c_Arr2Disk x.Disks ++ [cI x.Current, cI x.Number, cI x.Base, cI x.Count])))]⟩ : ASt)) (fun x => Sum.inl x = o55) ?_ ?_
          · intro x55_0 hI55
            subst hI55
            replace l45 := Md.onS_l l45
            change AW _ _ (⟨179, [], [(0, .one (CV.ls c_Actorgridlaw28Act a0)), (3, .one (.ptr 0 0)), (5, .one (.val (Sv s6_0))), (6, .one (.val (Sv (((a0.getD s6_1 default).B) ++ [59])))), (7, vI ((s6_1 : Nat) : Int)), (17, vI ((s45_0 : Nat) : Int))], [(0, some (.box (c_Store x55_0)))]⟩ : ASt) _
            refine aw_region (s_mv ?_)
            obtain ⟨g56, l45⟩ := Md.ifp_s l45
            refine aops_step1 rfl (ev_add rfl rfl rfl (Md.nat_add g56)) (s_sa ?_)
            refine aops_nil ?_
            exact ⟨⟨(n45, (s45_0 + 1), x55_0), l45⟩, Nat.lt_succ_self _, wk⟩
          refine aw_block (aw_seq (aw_region (s_mv ?_)))
          refine s_fd ?_
          rcases Md.bool_or ((decide (((s45_0 : Nat) : Int) = 0))) with q57 | q57
          · replace j55 := Md.cond_t j55 q57
            refine aops_step1 rfl (ev_index_arr (j := 0) rfl rfl (of_decide_eq_true q57) rfl rfl) (s_ls [_, _, _, _, _, _] ?_)
            obtain ⟨x58, hx58, j55⟩ := Md.bind_s j55
            refine aops_step1 rfl (ev_call_v (disk_Restart_fn k s45_1.Disks.x0 x58 hx58) rfl [] ai rfl rfl rfl (.inl rfl) rfl) (s_mt ?_)
            iterate 2 refine s_ex ?_
            refine aops_step1 rfl (st_alloc (cs := [.val (.slice none 0 0), cI 0, cB false, cI 0, cI 0, cB false]) 3 rfl rfl rfl rfl rfl) (s_st [_, _, _, _, _, _] ?_)
            refine s_sa ?_
            refine aops_nil (aw_seq (aw_seq (aw_region (s_mv ?_))))
            refine s_cm ?_
            refine aops_nil ?_
            refine aw_cond rfl (fun c59 => ?_) (fun c59 => ?_)
            · replace j55 := Md.cond_t j55 c59
              refine aw_seq (aw_region (s_sa ?_))
              refine aops_nil ?_
              cases Option.some.inj j55
              replace l45 := Md.onS_r l45
              cases Option.some.inj l45
              replace j8 := Md.onS_r j8
              cases Option.some.inj j8
              replace l6 := Md.onS_r l6
              cases Option.some.inj l6
              replace h := Md.onS_r h
              cases Option.some.inj h
              exact aw_ret ⟨rfl, rv r1⟩
            replace j55 := Md.cond_f j55 c59
            refine aw_skip (aw_region (s_mv ?_))
            refine s_ls [_, _, _, _, _, _] ?_
            refine s_fd ?_
            refine aops_step1 rfl (ev_index_arr (j := 0) rfl rfl (of_decide_eq_true q57) rfl rfl) (s_st [_, _, _, _, _, _, _, _, _, _, _, _, _, _, _, _] ?_)
            refine aops_nil ?_
            show ∃ _x : Store, _ = _ ∧ Weak _ _
            exact ⟨(⟨(⟨x58.1, s45_1.Disks.x1⟩ : Arr2Disk), s45_1.Current, s45_1.Number, s45_1.Base, s45_1.Count⟩ : Store), Option.some.inj j55, wk⟩
          replace j55 := Md.cond_f j55 q57
          obtain ⟨g60, j55⟩ := Md.ifp_s j55
          refine aops_step1 rfl (ev_index_arr (j := 1) rfl rfl g60 rfl rfl) (s_ls [_, _, _, _, _, _] ?_)
          obtain ⟨x61, hx61, j55⟩ := Md.bind_s j55
          refine aops_step1 rfl (ev_call_v (disk_Restart_fn k s45_1.Disks.x1 x61 hx61) rfl [] ai rfl rfl rfl (.inl rfl) rfl) (s_mt ?_)
          iterate 2 refine s_ex ?_
          refine aops_step1 rfl (st_alloc (cs := [.val (.slice none 0 0), cI 0, cB false, cI 0, cI 0, cB false]) 3 rfl rfl rfl rfl rfl) (s_st [_, _, _, _, _, _] ?_)
          refine s_sa ?_
          refine aops_nil (aw_seq (aw_seq (aw_region (s_mv ?_))))
          refine s_cm ?_
          refine aops_nil ?_
          refine aw_cond rfl (fun c62 => ?_) (fun c62 => ?_)
          · replace j55 := Md.cond_t j55 c62
            refine aw_seq (aw_region (s_sa ?_))
            refine aops_nil ?_
            cases Option.some.inj j55
            replace l45 := Md.onS_r l45
            cases Option.some.inj l45
            replace j8 := Md.onS_r j8
            cases Option.some.inj j8
            replace l6 := Md.onS_r l6
            cases Option.some.inj l6
            replace h := Md.onS_r h
            cases Option.some.inj h
            exact aw_ret ⟨rfl, rv r1⟩
          replace j55 := Md.cond_f j55 c62
          refine aw_skip (aw_region (s_mv ?_))
          refine s_ls [_, _, _, _, _, _] ?_
          refine s_fd ?_
          obtain ⟨g63, j55⟩ := Md.ifp_s j55
          refine aops_step1 rfl (ev_index_arr (j := 1) rfl rfl g63 rfl rfl) (s_st [_, _, _, _, _, _, _, _, _, _, _, _, _, _, _, _] ?_)
          refine aops_nil ?_
          show ∃ _x : Store, _ = _ ∧ Weak _ _
          exact ⟨(⟨(⟨s45_1.Disks.x0, x61.1⟩ : Arr2Disk), s45_1.Current, s45_1.Number, s45_1.Base, s45_1.Count⟩ : Store), Option.some.inj j55, wk⟩
        replace l45 := Md.cond_f l45 c54
        refine aw_exit ?_
        show ∃ _x : Store, _ = _ ∧ Weak _ _
        exact ⟨s45_1, Option.some.inj l45, wk⟩
      replace j8 := Md.cond_f j8 c43
      refine aw_seq (aw_region (s_sa ?_))
      refine aops_nil ?_
      cases Option.some.inj j8
      replace l6 := Md.onS_r l6
      cases Option.some.inj l6
      replace h := Md.onS_r h
      cases Option.some.inj h
      exact aw_ret ⟨rfl, rv r1⟩
    replace j8 := Md.cond_f j8 c38
    refine aw_region (s_cm ?_)
    refine s_sa ?_
    refine aops_nil ?_
    refine aw_cond rfl (fun c64 => ?_) (fun c64 => ?_)
    · replace j8 := Md.cond_t j8 c64
      refine aw_seq (aw_region (s_ls [_, _, _, _, _, _, _, _, _, _, _, _, _, _, _, _] ?_))
      refine s_fd ?_
      refine s_ld ?_
      obtain ⟨x65, hx65, j8⟩ := Md.bind_s j8
      refine aops_step1 rfl (ev_call_v (store_Put_fn k s6_2 ((a0.getD s6_1 default).B) x65 hx65) rfl [] ai rfl rfl rfl (.inl rfl) rfl) (s_mt ?_)
      iterate 2 refine s_ex ?_
      refine aops_step1 rfl (st_alloc (cs := [.val (.slice none 0 0), cI 0, cB false, cI 0, cI 0, cB false, .val (.slice none 0 0), cI 0, cB false, cI 0, cI 0, cB false, cI 0, cI 0, cI 0, cI 0]) 2 rfl rfl rfl rfl rfl) (s_st [_, _, _, _, _, _, _, _, _, _, _, _, _, _, _, _] ?_)
      refine s_sa ?_
      refine aops_nil (aw_seq (aw_region (s_ls [_, _, _, _, _, _, _, _, _, _, _, _, _, _, _, _] ?_)))
      refine s_st [_, _, _, _, _, _, _, _, _, _, _, _, _, _, _, _] ?_
      refine aops_nil (aw_seq (aw_region (s_mv ?_)))
      refine s_cm ?_
      refine aops_nil ?_
      refine aw_cond rfl (fun c66 => ?_) (fun c66 => ?_)
      · replace j8 := Md.cond_t j8 c66
        refine aw_region (s_mv ?_)
        refine s_fd ?_
        refine s_ld ?_
        refine aops_step1 rfl (ev_str_bytes (.inl rfl) Try.underlying24 Try.underlying5 Try.underlying9 rfl) ?_
        obtain ⟨g67, j8⟩ := Md.ifp_s j8
        refine aops_step1 rfl (st_str_add rfl rfl rfl g67) ?_
        obtain ⟨g68, j8⟩ := Md.ifp_s j8
        refine aops_step1 rfl (st_str_add rfl rfl rfl g68) (s_sa ?_)
        refine aops_nil (aw_seq (aw_seq (aw_region (s_mv ?_))))
        refine s_nt ?_
        refine aops_nil (aw_yes rfl (rfl) (aw_exit ?_))
        show ∃ _x : (List UInt8) × Store, _ = _ ∧ Weak _ _
        exact ⟨((s6_0 ++ (((a0.getD s6_1 default).B) ++ [59])), x65.1), Option.some.inj j8, wk⟩
      replace j8 := Md.cond_f j8 c66
      refine aw_seq (aw_region (s_mv ?_))
      refine s_cm ?_
      refine aops_nil ?_
      refine aw_cond rfl (fun c69 => ?_) (fun c69 => ?_)
      · replace j8 := Md.cond_t j8 c69
        refine aw_region (s_fd ?_)
        refine s_ld ?_
        refine aops_step1 rfl (ev_str_bytes (.inl rfl) Try.underlying24 Try.underlying5 Try.underlying9 rfl) ?_
        obtain ⟨g70, j8⟩ := Md.ifp_s j8
        refine aops_step1 rfl (st_str_add rfl rfl rfl g70) ?_
        iterate 2 refine s_sa ?_
        refine aops_nil (aw_seq (aw_seq (aw_region (s_mv ?_))))
        refine s_nt ?_
        refine aops_nil (aw_no rfl (rfl) (aw_skip (aw_seq (aw_seq (aw_region (s_sa ?_))))))
        refine aops_nil (aw_block ?_)
        obtain ⟨o71, ho71, j8⟩ := Md.bind_s j8
        refine aw_loop_x (ι := {p : Nat × Nat × Store // actorgridlaw28_StoreSurvives_loop4 k p.1 p.2.1 p.2.2 = some o71}) (fun p => (⟨179, [], [(0, .one (CV.ls c_Actorgridlaw28Act a0)), (3, .one (.ptr 0 0)), (5, .one (.val (Sv s6_0))), (6, .one (.val (Sv (((a0.getD s6_1 default).B) ++ [59])))), (7, vI ((s6_1 : Nat) : Int)), (17, vI ((p.1.2.1 : Nat) : Int))], [(0, some (.box (c_Store p.1.2.2)))]⟩ : ASt)) (fun p => p.1.1) ⟨(k, 0, x65.1), ho71⟩ wk 3 (ε := Store) (fun x => (⟨179, [], [(0, .one (CV.ls c_Actorgridlaw28Act a0)), (3, .one (.ptr 0 0)), (5, .one (.val (Sv s6_0))), (6, .one (.val (Sv (((a0.getD s6_1 default).B) ++ [59])))), (7, vI ((s6_1 : Nat) : Int))], [(0, some (.box (c_Arr2Disk x.Disks ++ [cI x.Current, cI x.Number, cI x.Base, cI x.Count])))]⟩ : ASt)) (fun x => Sum.inl x = o71) (fun _ _ w h => aw_weak w h) ?_ ?_
        · intro x71_0 hI71
          subst hI71
          replace j8 := Md.onS_l j8
          change AW _ _ (⟨179, [], [(0, .one (CV.ls c_Actorgridlaw28Act a0)), (3, .one (.ptr 0 0)), (5, .one (.val (Sv s6_0))), (6, .one (.val (Sv (((a0.getD s6_1 default).B) ++ [59])))), (7, vI ((s6_1 : Nat) : Int))], [(0, some (.box (c_Store x71_0)))]⟩ : ASt) _
          refine aw_seq (aw_region (s_fd ?_))
          refine aops_step1 rfl (ev_index_arr rfl rfl rfl rfl rfl) (s_ls [_, _, _, _, _, _] ?_)
          refine s_fd ?_
          refine aops_step1 rfl (ev_index_arr rfl rfl rfl rfl rfl) (s_ls [_, _, _, _, _, _] ?_)
          obtain ⟨x72, hx72, j8⟩ := Md.bind_s j8
          refine aops_step1 rfl (ev_call_v (store_Recover_fn k x71_0.Disks.x0 x71_0.Disks.x1 x72 hx72) rfl [] ai rfl rfl rfl (.inl rfl) rfl) (s_mt ?_)
          iterate 3 refine s_ex ?_
          refine aops_step1 rfl (st_alloc (cs := [.val (.slice none 0 0), cI 0, cB false, cI 0, cI 0, cB false, .val (.slice none 0 0), cI 0, cB false, cI 0, cI 0, cB false, cI 0, cI 0, cI 0, cI 0]) 3 rfl rfl rfl rfl rfl) ?_
          refine aops_step1 rfl (st_alloc (cs := [cI 0, .val (.slice none 0 0), .val (.slice none 0 0)]) 4 rfl rfl rfl rfl rfl) (s_st [_, _, _, _, _, _, _, _, _, _, _, _, _, _, _, _] ?_)
          refine s_st [_, _, _] ?_
          refine s_sa ?_
          refine aops_nil (aw_seq (aw_seq (aw_region (s_mv ?_))))
          refine s_cm ?_
          refine s_mv ?_
          obtain ⟨o73, j73, j8⟩ := Md.bind_s j8
          refine aops_cut 4 (ε := Bool) (fun x73 => (⟨179, [], [(0, .one (CV.ls c_Actorgridlaw28Act a0)), (3, .one (.ptr 0 0)), (5, .one (.val (Sv s6_0))), (6, .one (.val (Sv (((a0.getD s6_1 default).B) ++ [59])))), (7, vI ((s6_1 : Nat) : Int)), (20, .one (.ptr 3 0)), (21, .one (.ptr 4 0)), (161, vB x73)], [(0, some (.box (c_Store x71_0))), (3, some (.box (c_Store x72.1))), (4, some (.box (c_StoreContents x72.2.1)))]⟩ : ASt)) (fun x73 => x73 = o73) ?_ ?_
          · intro x73 hI73
            subst hI73
            change AOps _ _ _ (⟨179, [], [(0, .one (CV.ls c_Actorgridlaw28Act a0)), (3, .one (.ptr 0 0)), (5, .one (.val (Sv s6_0))), (6, .one (.val (Sv (((a0.getD s6_1 default).B) ++ [59])))), (7, vI ((s6_1 : Nat) : Int)), (20, .one (.ptr 3 0)), (21, .one (.ptr 4 0)), (161, vB x73)], [(0, some (.box (c_Store x71_0))), (3, some (.box (c_Store x72.1))), (4, some (.box (c_StoreContents x72.2.1)))]⟩ : ASt) _
            refine aops_nil ?_
            refine aw_cond rfl (fun c74 => ?_) (fun c74 => ?_)
            · replace j8 := Md.cond_t j8 c74
              refine aw_seq (aw_region (s_sa ?_))
              refine aops_nil ?_
              cases Option.some.inj j8
              replace l6 := Md.onS_r l6
              cases Option.some.inj l6
              replace h := Md.onS_r h
              cases Option.some.inj h
              exact aw_ret ⟨rfl, rv r1⟩
            replace j8 := Md.cond_f j8 c74
            refine aw_skip (aw_seq (aw_region (s_fd ?_)))
            refine s_ld ?_
            refine s_fd ?_
            refine s_ld ?_
            obtain ⟨x75, hx75, j8⟩ := Md.bind_s j8
            refine aops_step1 rfl (ev_call_v (actorgridlaw28_fold_fn k x72.2.1.State x72.2.1.Entries x75 hx75) rfl [] ai rfl rfl rfl (.inl rfl) rfl) (s_sa ?_)
            refine aops_nil (aw_seq (aw_seq (aw_region ?_)))
            iterate 2 refine s_mv ?_
            refine aops_step1 rfl (st_str_ne rfl rfl rfl) (s_mv ?_)
            obtain ⟨o76, j76, j8⟩ := Md.bind_s j8
            refine aops_cut 6 (ε := Bool) (fun x76 => (⟨179, [], [(0, .one (CV.ls c_Actorgridlaw28Act a0)), (3, .one (.ptr 0 0)), (7, vI ((s6_1 : Nat) : Int)), (20, .one (.ptr 3 0)), (23, .one (.val (Sv x75))), (176, vB x76)], [(0, some (.box (c_Store x71_0))), (3, some (.box (c_Store x72.1)))]⟩ : ASt)) (fun x76 => x76 = o76) ?_ ?_
            · intro x76 hI76
              subst hI76
              change AOps _ _ _ (⟨179, [], [(0, .one (CV.ls c_Actorgridlaw28Act a0)), (3, .one (.ptr 0 0)), (7, vI ((s6_1 : Nat) : Int)), (20, .one (.ptr 3 0)), (23, .one (.val (Sv x75))), (176, vB x76)], [(0, some (.box (c_Store x71_0))), (3, some (.box (c_Store x72.1)))]⟩ : ASt) _
              refine aops_nil ?_
              refine aw_cond rfl (fun c77 => ?_) (fun c77 => ?_)
              · replace j8 := Md.cond_t j8 c77
                refine aw_seq (aw_region (s_sa ?_))
                refine aops_nil ?_
                cases Option.some.inj j8
                replace l6 := Md.onS_r l6
                cases Option.some.inj l6
                replace h := Md.onS_r h
                cases Option.some.inj h
                exact aw_ret ⟨rfl, rv r1⟩
              replace j8 := Md.cond_f j8 c77
              refine aw_skip (aw_region (s_ls [_, _, _, _, _, _, _, _, _, _, _, _, _, _, _, _] ?_))
              refine s_mv ?_
              refine s_st [_, _, _, _, _, _, _, _, _, _, _, _, _, _, _, _] ?_
              iterate 2 refine s_sa ?_
              refine aops_nil ?_
              show ∃ _x : (List UInt8) × Store, _ = _ ∧ Weak _ _
              exact ⟨(x75, x72.1), Option.some.inj j8, wk⟩
            rcases Md.bool_or ((!(decide (x75 = s6_0)))) with q76 | q76
            · replace j76 := Md.cond_t j76 q76
              iterate 3 refine y_mv q76 ?_
              obtain ⟨g78, j76⟩ := Md.ifp_s j76
              refine aops_yes rfl rfl rfl rfl q76 (st_str_add rfl rfl rfl g78) (aops_yes rfl rfl rfl rfl q76 (st_str_ne rfl rfl rfl) (s_py q76 ?_))
              refine aops_nil ?_
              show ∃ _x : Bool, _ = _ ∧ Weak _ _
              exact ⟨(!(decide (x75 = (s6_0 ++ (((a0.getD s6_1 default).B) ++ [59]))))), Option.some.inj j76, wk⟩
            replace j76 := Md.cond_f j76 q76
            iterate 5 refine np q76 ?_
            refine s_pn q76 ?_
            refine aops_nil ?_
            show ∃ _x : Bool, _ = _ ∧ Weak _ _
            exact ⟨false, Option.some.inj j76, wk⟩
          rcases Md.bool_or ((x72.2.2 != 0)) with q73 | q73
          · replace j73 := Md.cond_t j73 q73
            iterate 3 refine np q73 ?_
            refine s_py q73 ?_
            refine aops_nil ?_
            show ∃ _x : Bool, _ = _ ∧ Weak _ _
            exact ⟨true, Option.some.inj j73, wk⟩
          replace j73 := Md.cond_f j73 q73
          refine aops_yes rfl rfl rfl rfl q73 (ev_loads (ds := [_, _, _, _, _, _, _, _, _, _, _, _, _, _, _, _]) rfl rfl rfl rfl rfl) ?_
          obtain ⟨x79, hx79, j73⟩ := Md.bind_s j73
          refine aops_yes rfl rfl rfl rfl q73 (ev_call_v (store_Valid_fn k x72.1 x79 hx79) rfl [] ai rfl rfl rfl (.inl rfl) rfl) (y_nt q73 ?_)
          refine s_pn q73 ?_
          refine aops_nil ?_
          show ∃ _x : Bool, _ = _ ∧ Weak _ _
          exact ⟨(!x79), Option.some.inj j73, wk⟩
        intro p71
        obtain ⟨⟨n71, s71_0, s71_1⟩, l71⟩ := p71
        change AW _ _ (⟨179, [], [(0, .one (CV.ls c_Actorgridlaw28Act a0)), (3, .one (.ptr 0 0)), (5, .one (.val (Sv s6_0))), (6, .one (.val (Sv (((a0.getD s6_1 default).B) ++ [59])))), (7, vI ((s6_1 : Nat) : Int)), (17, vI ((s71_0 : Nat) : Int))], [(0, some (.box (c_Store s71_1)))]⟩ : ASt) _
        replace l71 : actorgridlaw28_StoreSurvives_loop4 k n71 s71_0 s71_1 = some o71 := l71
        rcases n71 with _ | n71
        · exact absurd (show none = some o71 from l71) nofun
        rw [actorgridlaw28_StoreSurvives_loop4] at l71
        refine aw_seq (aw_seq (aw_region (s_mv ?_)))
        refine s_cm ?_
        refine aops_nil ?_
        refine aw_cond rfl (fun c80 => ?_) (fun c80 => ?_)
        · replace l71 := Md.cond_t l71 c80
          refine aw_skip ?_
          obtain ⟨o81, j81, l71⟩ := Md.bind_s l71
          refine aw_cut (ε := Store) (fun x => (⟨179, [], [(0, .one (CV.ls c_Actorgridlaw28Act a0)), (3, .one (.ptr 0 0)), (5, .one (.val (Sv s6_0))), (6, .one (.val (Sv (((a0.getD s6_1 default).B) ++ [59])))), (7, vI ((s6_1 : Nat) : Int)), (17, vI ((s71_0 : Nat) : Int))], [(0, some (.box (c_Arr2Disk x.Disks ++ [cI x.Current, cI x.Number, cI x.Base, cI x.Count])))]⟩ : ASt)) (fun x => Sum.inl x = o81) ?_ ?_
          · intro x81_0 hI81
            subst hI81
            replace l71 := Md.onS_l l71
            change AW _ _ (⟨179, [], [(0, .one (CV.ls c_Actorgridlaw28Act a0)), (3, .one (.ptr 0 0)), (5, .one (.val (Sv s6_0))), (6, .one (.val (Sv (((a0.getD s6_1 default).B) ++ [59])))), (7, vI ((s6_1 : Nat) : Int)), (17, vI ((s71_0 : Nat) : Int))], [(0, some (.box (c_Store x81_0)))]⟩ : ASt) _
            refine aw_region (s_mv ?_)
            obtain ⟨g82, l71⟩ := Md.ifp_s l71
            refine aops_step1 rfl (ev_add rfl rfl rfl (Md.nat_add g82)) (s_sa ?_)
            refine aops_nil ?_
            exact ⟨⟨(n71, (s71_0 + 1), x81_0), l71⟩, Nat.lt_succ_self _, wk⟩
          refine aw_block (aw_seq (aw_region (s_mv ?_)))
          refine s_fd ?_
          rcases Md.bool_or ((decide (((s71_0 : Nat) : Int) = 0))) with q83 | q83
          · replace j81 := Md.cond_t j81 q83
            refine aops_step1 rfl (ev_index_arr (j := 0) rfl rfl (of_decide_eq_true q83) rfl rfl) (s_ls [_, _, _, _, _, _] ?_)
            obtain ⟨x84, hx84, j81⟩ := Md.bind_s j81
            refine aops_step1 rfl (ev_call_v (disk_Restart_fn k s71_1.Disks.x0 x84 hx84) rfl [] ai rfl rfl rfl (.inl rfl) rfl) (s_mt ?_)
            iterate 2 refine s_ex ?_
            refine aops_step1 rfl (st_alloc (cs := [.val (.slice none 0 0), cI 0, cB false, cI 0, cI 0, cB false]) 3 rfl rfl rfl rfl rfl) (s_st [_, _, _, _, _, _] ?_)
            refine s_sa ?_
            refine aops_nil (aw_seq (aw_seq (aw_region (s_mv ?_))))
            refine s_cm ?_
            refine aops_nil ?_
            refine aw_cond rfl (fun c85 => ?_) (fun c85 => ?_)
            · replace j81 := Md.cond_t j81 c85
              refine aw_seq (aw_region (s_sa ?_))
              refine aops_nil ?_
              cases Option.some.inj j81
              replace l71 := Md.onS_r l71
              cases Option.some.inj l71
              replace j8 := Md.onS_r j8
              cases Option.some.inj j8
              replace l6 := Md.onS_r l6
              cases Option.some.inj l6
              replace h := Md.onS_r h
              cases Option.some.inj h
              exact aw_ret ⟨rfl, rv r1⟩
            replace j81 := Md.cond_f j81 c85
            refine aw_skip (aw_region (s_mv ?_))
            refine s_ls [_, _, _, _, _, _] ?_
            refine s_fd ?_
            refine aops_step1 rfl (ev_index_arr (j := 0) rfl rfl (of_decide_eq_true q83) rfl rfl) (s_st [_, _, _, _, _, _, _, _, _, _, _, _, _, _, _, _] ?_)
            refine aops_nil ?_
            show ∃ _x : Store, _ = _ ∧ Weak _ _
            exact ⟨(⟨(⟨x84.1, s71_1.Disks.x1⟩ : Arr2Disk), s71_1.Current, s71_1.Number, s71_1.Base, s71_1.Count⟩ : Store), Option.some.inj j81, wk⟩
          replace j81 := Md.cond_f j81 q83
          obtain ⟨g86, j81⟩ := Md.ifp_s j81
          refine aops_step1 rfl (ev_index_arr (j := 1) rfl rfl g86 rfl rfl) (s_ls [_, _, _, _, _, _] ?_)
          obtain ⟨x87, hx87, j81⟩ := Md.bind_s j81
          refine aops_step1 rfl (ev_call_v (disk_Restart_fn k s71_1.Disks.x1 x87 hx87) rfl [] ai rfl rfl rfl (.inl rfl) rfl) (s_mt ?_)
          iterate 2 refine s_ex ?_
          refine aops_step1 rfl (st_alloc (cs := [.val (.slice none 0 0), cI 0, cB false, cI 0, cI 0, cB false]) 3 rfl rfl rfl rfl rfl) (s_st [_, _, _, _, _, _] ?_)
          refine s_sa ?_
          refine aops_nil (aw_seq (aw_seq (aw_region (s_mv ?_))))
          refine s_cm ?_
          refine aops_nil ?_
          refine aw_cond rfl (fun c88 => ?_) (fun c88 => ?_)
          · replace j81 := Md.cond_t j81 c88
            refine aw_seq (aw_region (s_sa ?_))
            refine aops_nil ?_
            cases Option.some.inj j81
            replace l71 := Md.onS_r l71
            cases Option.some.inj l71
            replace j8 := Md.onS_r j8
            cases Option.some.inj j8
            replace l6 := Md.onS_r l6
            cases Option.some.inj l6
            replace h := Md.onS_r h
            cases Option.some.inj h
            exact aw_ret ⟨rfl, rv r1⟩
          replace j81 := Md.cond_f j81 c88
          refine aw_skip (aw_region (s_mv ?_))
          refine s_ls [_, _, _, _, _, _] ?_
          refine s_fd ?_
          obtain ⟨g89, j81⟩ := Md.ifp_s j81
          refine aops_step1 rfl (ev_index_arr (j := 1) rfl rfl g89 rfl rfl) (s_st [_, _, _, _, _, _, _, _, _, _, _, _, _, _, _, _] ?_)
          refine aops_nil ?_
          show ∃ _x : Store, _ = _ ∧ Weak _ _
          exact ⟨(⟨(⟨s71_1.Disks.x0, x87.1⟩ : Arr2Disk), s71_1.Current, s71_1.Number, s71_1.Base, s71_1.Count⟩ : Store), Option.some.inj j81, wk⟩
        replace l71 := Md.cond_f l71 c80
        refine aw_exit ?_
        show ∃ _x : Store, _ = _ ∧ Weak _ _
        exact ⟨s71_1, Option.some.inj l71, wk⟩
      replace j8 := Md.cond_f j8 c69
      refine aw_seq (aw_region (s_sa ?_))
      refine aops_nil ?_
      cases Option.some.inj j8
      replace l6 := Md.onS_r l6
      cases Option.some.inj l6
      replace h := Md.onS_r h
      cases Option.some.inj h
      exact aw_ret ⟨rfl, rv r1⟩
    replace j8 := Md.cond_f j8 c64
    refine aw_seq (aw_region (s_cm ?_))
    refine s_sa ?_
    refine aops_nil ?_
    refine aw_cond rfl (fun c90 => ?_) (fun c90 => ?_)
    · replace j8 := Md.cond_t j8 c90
      refine aw_seq (aw_region (s_ls [_, _, _, _, _, _, _, _, _, _, _, _, _, _, _, _] ?_))
      refine s_mv ?_
      obtain ⟨g91, j8⟩ := Md.ifp_s j8
      refine aops_step1 rfl (st_bytes_str rfl Try.underlying9 Try.underlying24 Try.underlying5 g91 rfl) ?_
      obtain ⟨x92, hx92, j8⟩ := Md.bind_s j8
      refine aops_step1 rfl (ev_call_v (store_Checkpoint_fn k s6_2 s6_0 x92 hx92) rfl [] ai rfl rfl rfl (.inl rfl) rfl) (s_mt ?_)
      iterate 2 refine s_ex ?_
      refine aops_step1 rfl (st_alloc (cs := [.val (.slice none 0 0), cI 0, cB false, cI 0, cI 0, cB false, .val (.slice none 0 0), cI 0, cB false, cI 0, cI 0, cB false, cI 0, cI 0, cI 0, cI 0]) 2 rfl rfl rfl rfl rfl) (s_st [_, _, _, _, _, _, _, _, _, _, _, _, _, _, _, _] ?_)
      refine s_sa ?_
      refine aops_nil (aw_seq (aw_region (s_ls [_, _, _, _, _, _, _, _, _, _, _, _, _, _, _, _] ?_)))
      refine s_st [_, _, _, _, _, _, _, _, _, _, _, _, _, _, _, _] ?_
      refine aops_nil (aw_seq (aw_seq (aw_region (s_mv ?_))))
      refine s_cm ?_
      refine s_mv ?_
      refine aops_mid 3 (⟨179, [], [(0, .one (CV.ls c_Actorgridlaw28Act a0)), (3, .one (.ptr 0 0)), (5, .one (.val (Sv s6_0))), (6, .one (.val (Sv []))), (7, vI ((s6_1 : Nat) : Int)), (13, vI x92.2), (93, vB ((x92.2 != 0) && (x92.2 != 23)))], [(0, some (.box (c_Store x92.1)))]⟩ : ASt) ?_ ?_
      · rcases Md.bool_or ((x92.2 != 0)) with q93 | q93
        · skip
          refine y_mv q93 ?_
          refine y_cm q93 ?_
          refine s_py q93 ?_
          refine aops_nil ?_
          exact wq q93
        iterate 2 refine np q93 ?_
        refine s_pn q93 ?_
        refine aops_nil ?_
        exact wq q93
      refine aops_nil ?_
      refine aw_cond rfl (fun c94 => ?_) (fun c94 => ?_)
      · replace j8 := Md.cond_t j8 c94
        refine aw_seq (aw_region (s_sa ?_))
        refine aops_nil ?_
        cases Option.some.inj j8
        replace l6 := Md.onS_r l6
        cases Option.some.inj l6
        replace h := Md.onS_r h
        cases Option.some.inj h
        exact aw_ret ⟨rfl, rv r1⟩
      replace j8 := Md.cond_f j8 c94
      refine aw_skip (aw_region (s_mv ?_))
      refine s_cm ?_
      refine s_sa ?_
      refine aops_nil (aw_seq (aw_seq (aw_region (s_mv ?_))))
      refine s_nt ?_
      refine aops_nil ?_
      refine aw_cond rfl (fun c95 => ?_) (fun c95 => ?_)
      · replace j8 := Md.cond_t j8 c95
        refine aw_exit ?_
        show ∃ _x : (List UInt8) × Store, _ = _ ∧ Weak _ _
        exact ⟨(s6_0, x92.1), Option.some.inj j8, wk⟩
      replace j8 := Md.cond_f j8 c95
      refine aw_skip (aw_seq (aw_seq (aw_region (s_sa ?_))))
      refine aops_nil (aw_block ?_)
      obtain ⟨o96, ho96, j8⟩ := Md.bind_s j8
      refine aw_loop_x (ι := {p : Nat × Nat × Store // actorgridlaw28_StoreSurvives_loop5 k p.1 p.2.1 p.2.2 = some o96}) (fun p => (⟨179, [], [(0, .one (CV.ls c_Actorgridlaw28Act a0)), (3, .one (.ptr 0 0)), (5, .one (.val (Sv s6_0))), (6, .one (.val (Sv []))), (7, vI ((s6_1 : Nat) : Int)), (17, vI ((p.1.2.1 : Nat) : Int))], [(0, some (.box (c_Store p.1.2.2)))]⟩ : ASt)) (fun p => p.1.1) ⟨(k, 0, x92.1), ho96⟩ wk 3 (ε := Store) (fun x => (⟨179, [], [(0, .one (CV.ls c_Actorgridlaw28Act a0)), (3, .one (.ptr 0 0)), (5, .one (.val (Sv s6_0))), (6, .one (.val (Sv []))), (7, vI ((s6_1 : Nat) : Int))], [(0, some (.box (c_Arr2Disk x.Disks ++ [cI x.Current, cI x.Number, cI x.Base, cI x.Count])))]⟩ : ASt)) (fun x => Sum.inl x = o96) (fun _ _ w h => aw_weak w h) ?_ ?_
      · intro x96_0 hI96
        subst hI96
        replace j8 := Md.onS_l j8
        change AW _ _ (⟨179, [], [(0, .one (CV.ls c_Actorgridlaw28Act a0)), (3, .one (.ptr 0 0)), (5, .one (.val (Sv s6_0))), (6, .one (.val (Sv []))), (7, vI ((s6_1 : Nat) : Int))], [(0, some (.box (c_Store x96_0)))]⟩ : ASt) _
        refine aw_seq (aw_region (s_fd ?_))
        refine aops_step1 rfl (ev_index_arr rfl rfl rfl rfl rfl) (s_ls [_, _, _, _, _, _] ?_)
        refine s_fd ?_
        refine aops_step1 rfl (ev_index_arr rfl rfl rfl rfl rfl) (s_ls [_, _, _, _, _, _] ?_)
        obtain ⟨x97, hx97, j8⟩ := Md.bind_s j8
        refine aops_step1 rfl (ev_call_v (store_Recover_fn k x96_0.Disks.x0 x96_0.Disks.x1 x97 hx97) rfl [] ai rfl rfl rfl (.inl rfl) rfl) (s_mt ?_)
        iterate 3 refine s_ex ?_
        refine aops_step1 rfl (st_alloc (cs := [.val (.slice none 0 0), cI 0, cB false, cI 0, cI 0, cB false, .val (.slice none 0 0), cI 0, cB false, cI 0, cI 0, cB false, cI 0, cI 0, cI 0, cI 0]) 3 rfl rfl rfl rfl rfl) ?_
        refine aops_step1 rfl (st_alloc (cs := [cI 0, .val (.slice none 0 0), .val (.slice none 0 0)]) 4 rfl rfl rfl rfl rfl) (s_st [_, _, _, _, _, _, _, _, _, _, _, _, _, _, _, _] ?_)
        refine s_st [_, _, _] ?_
        refine s_sa ?_
        refine aops_nil (aw_seq (aw_seq (aw_region (s_mv ?_))))
        refine s_cm ?_
        refine s_mv ?_
        obtain ⟨o98, j98, j8⟩ := Md.bind_s j8
        refine aops_cut 4 (ε := Bool) (fun x98 => (⟨179, [], [(0, .one (CV.ls c_Actorgridlaw28Act a0)), (3, .one (.ptr 0 0)), (5, .one (.val (Sv s6_0))), (6, .one (.val (Sv []))), (7, vI ((s6_1 : Nat) : Int)), (20, .one (.ptr 3 0)), (21, .one (.ptr 4 0)), (161, vB x98)], [(0, some (.box (c_Store x96_0))), (3, some (.box (c_Store x97.1))), (4, some (.box (c_StoreContents x97.2.1)))]⟩ : ASt)) (fun x98 => x98 = o98) ?_ ?_
        · intro x98 hI98
          subst hI98
          change AOps _ _ _ (⟨179, [], [(0, .one (CV.ls c_Actorgridlaw28Act a0)), (3, .one (.ptr 0 0)), (5, .one (.val (Sv s6_0))), (6, .one (.val (Sv []))), (7, vI ((s6_1 : Nat) : Int)), (20, .one (.ptr 3 0)), (21, .one (.ptr 4 0)), (161, vB x98)], [(0, some (.box (c_Store x96_0))), (3, some (.box (c_Store x97.1))), (4, some (.box (c_StoreContents x97.2.1)))]⟩ : ASt) _
          refine aops_nil ?_
          refine aw_cond rfl (fun c99 => ?_) (fun c99 => ?_)
          · replace j8 := Md.cond_t j8 c99
            refine aw_seq (aw_region (s_sa ?_))
            refine aops_nil ?_
            cases Option.some.inj j8
            replace l6 := Md.onS_r l6
            cases Option.some.inj l6
            replace h := Md.onS_r h
            cases Option.some.inj h
            exact aw_ret ⟨rfl, rv r1⟩
          replace j8 := Md.cond_f j8 c99
          refine aw_skip (aw_seq (aw_region (s_fd ?_)))
          refine s_ld ?_
          refine s_fd ?_
          refine s_ld ?_
          obtain ⟨x100, hx100, j8⟩ := Md.bind_s j8
          refine aops_step1 rfl (ev_call_v (actorgridlaw28_fold_fn k x97.2.1.State x97.2.1.Entries x100 hx100) rfl [] ai rfl rfl rfl (.inl rfl) rfl) (s_sa ?_)
          refine aops_nil (aw_seq (aw_seq (aw_region ?_)))
          iterate 2 refine s_mv ?_
          refine aops_step1 rfl (st_str_ne rfl rfl rfl) (s_mv ?_)
          obtain ⟨o101, j101, j8⟩ := Md.bind_s j8
          refine aops_cut 6 (ε := Bool) (fun x101 => (⟨179, [], [(0, .one (CV.ls c_Actorgridlaw28Act a0)), (3, .one (.ptr 0 0)), (7, vI ((s6_1 : Nat) : Int)), (20, .one (.ptr 3 0)), (23, .one (.val (Sv x100))), (176, vB x101)], [(0, some (.box (c_Store x96_0))), (3, some (.box (c_Store x97.1)))]⟩ : ASt)) (fun x101 => x101 = o101) ?_ ?_
          · intro x101 hI101
            subst hI101
            change AOps _ _ _ (⟨179, [], [(0, .one (CV.ls c_Actorgridlaw28Act a0)), (3, .one (.ptr 0 0)), (7, vI ((s6_1 : Nat) : Int)), (20, .one (.ptr 3 0)), (23, .one (.val (Sv x100))), (176, vB x101)], [(0, some (.box (c_Store x96_0))), (3, some (.box (c_Store x97.1)))]⟩ : ASt) _
            refine aops_nil ?_
            refine aw_cond rfl (fun c102 => ?_) (fun c102 => ?_)
            · replace j8 := Md.cond_t j8 c102
              refine aw_seq (aw_region (s_sa ?_))
              refine aops_nil ?_
              cases Option.some.inj j8
              replace l6 := Md.onS_r l6
              cases Option.some.inj l6
              replace h := Md.onS_r h
              cases Option.some.inj h
              exact aw_ret ⟨rfl, rv r1⟩
            replace j8 := Md.cond_f j8 c102
            refine aw_skip (aw_region (s_ls [_, _, _, _, _, _, _, _, _, _, _, _, _, _, _, _] ?_))
            refine s_mv ?_
            refine s_st [_, _, _, _, _, _, _, _, _, _, _, _, _, _, _, _] ?_
            iterate 2 refine s_sa ?_
            refine aops_nil ?_
            show ∃ _x : (List UInt8) × Store, _ = _ ∧ Weak _ _
            exact ⟨(x100, x97.1), Option.some.inj j8, wk⟩
          rcases Md.bool_or ((!(decide (x100 = s6_0)))) with q101 | q101
          · replace j101 := Md.cond_t j101 q101
            iterate 3 refine y_mv q101 ?_
            obtain ⟨g103, j101⟩ := Md.ifp_s j101
            refine aops_yes rfl rfl rfl rfl q101 (st_str_add rfl rfl rfl g103) (aops_yes rfl rfl rfl rfl q101 (st_str_ne rfl rfl rfl) (s_py q101 ?_))
            refine aops_nil ?_
            show ∃ _x : Bool, _ = _ ∧ Weak _ _
            exact ⟨(!(decide (x100 = (s6_0 ++ ([] : List UInt8))))), Option.some.inj j101, wk⟩
          replace j101 := Md.cond_f j101 q101
          iterate 5 refine np q101 ?_
          refine s_pn q101 ?_
          refine aops_nil ?_
          show ∃ _x : Bool, _ = _ ∧ Weak _ _
          exact ⟨false, Option.some.inj j101, wk⟩
        rcases Md.bool_or ((x97.2.2 != 0)) with q98 | q98
        · replace j98 := Md.cond_t j98 q98
          iterate 3 refine np q98 ?_
          refine s_py q98 ?_
          refine aops_nil ?_
          show ∃ _x : Bool, _ = _ ∧ Weak _ _
          exact ⟨true, Option.some.inj j98, wk⟩
        replace j98 := Md.cond_f j98 q98
        refine aops_yes rfl rfl rfl rfl q98 (ev_loads (ds := [_, _, _, _, _, _, _, _, _, _, _, _, _, _, _, _]) rfl rfl rfl rfl rfl) ?_
        obtain ⟨x104, hx104, j98⟩ := Md.bind_s j98
        refine aops_yes rfl rfl rfl rfl q98 (ev_call_v (store_Valid_fn k x97.1 x104 hx104) rfl [] ai rfl rfl rfl (.inl rfl) rfl) (y_nt q98 ?_)
        refine s_pn q98 ?_
        refine aops_nil ?_
        show ∃ _x : Bool, _ = _ ∧ Weak _ _
        exact ⟨(!x104), Option.some.inj j98, wk⟩
      intro p96
      obtain ⟨⟨n96, s96_0, s96_1⟩, l96⟩ := p96
      change AW _ _ (⟨179, [], [(0, .one (CV.ls c_Actorgridlaw28Act a0)), (3, .one (.ptr 0 0)), (5, .one (.val (Sv s6_0))), (6, .one (.val (Sv []))), (7, vI ((s6_1 : Nat) : Int)), (17, vI ((s96_0 : Nat) : Int))], [(0, some (.box (c_Store s96_1)))]⟩ : ASt) _
      replace l96 : actorgridlaw28_StoreSurvives_loop5 k n96 s96_0 s96_1 = some o96 := l96
      rcases n96 with _ | n96
      · exact absurd (show none = some o96 from l96) nofun
      rw [actorgridlaw28_StoreSurvives_loop5] at l96
      refine aw_seq (aw_seq (aw_region (s_mv ?_)))
      refine s_cm ?_
      refine aops_nil ?_
      refine aw_cond rfl (fun c105 => ?_) (fun c105 => ?_)
      · replace l96 := Md.cond_t l96 c105
        refine aw_skip ?_
        obtain ⟨o106, j106, l96⟩ := Md.bind_s l96
        refine aw_cut (ε := Store) (fun x => (⟨179, [], [(0, .one (CV.ls c_Actorgridlaw28Act a0)), (3, .one (.ptr 0 0)), (5, .one (.val (Sv s6_0))), (6, .one (.val (Sv []))), (7, vI ((s6_1 : Nat) : Int)), (17, vI ((s96_0 : Nat) : Int))], [(0, some (.box (c_Arr2Disk x.Disks ++ [cI x.Current, cI x.Number, cI x.Base, cI x.Count])))]⟩ : ASt)) (fun x => Sum.inl x = o106) ?_ ?_
        · intro x106_0 hI106
          subst hI106
          replace l96 := Md.onS_l l96
          change AW _ _ (⟨179, [], [(0, .one (CV.ls c_Actorgridlaw28Act a0)), (3, .one (.ptr 0 0)), (5, .one (.val (Sv s6_0))), (6, .one (.val (Sv []))), (7, vI ((s6_1 : Nat) : Int)), (17, vI ((s96_0 : Nat) : Int))], [(0, some (.box (c_Store x106_0)))]⟩ : ASt) _
          refine aw_region (s_mv ?_)
          obtain ⟨g107, l96⟩ := Md.ifp_s l96
          refine aops_step1 rfl (ev_add rfl rfl rfl (Md.nat_add g107)) (s_sa ?_)
          refine aops_nil ?_
          exact ⟨⟨(n96, (s96_0 + 1), x106_0), l96⟩, Nat.lt_succ_self _, wk⟩
        refine aw_block (aw_seq (aw_region (s_mv ?_)))
        refine s_fd ?_
        rcases Md.bool_or ((decide (((s96_0 : Nat) : Int) = 0))) with q108 | q108
        · replace j106 := Md.cond_t j106 q108
          refine aops_step1 rfl (ev_index_arr (j := 0) rfl rfl (of_decide_eq_true q108) rfl rfl) (s_ls [_, _, _, _, _, _] ?_)
          obtain ⟨x109, hx109, j106⟩ := Md.bind_s j106
          refine aops_step1 rfl (ev_call_v (disk_Restart_fn k s96_1.Disks.x0 x109 hx109) rfl [] ai rfl rfl rfl (.inl rfl) rfl) (s_mt ?_)
          iterate 2 refine s_ex ?_
          refine aops_step1 rfl (st_alloc (cs := [.val (.slice none 0 0), cI 0, cB false, cI 0, cI 0, cB false]) 3 rfl rfl rfl rfl rfl) (s_st [_, _, _, _, _, _] ?_)
          refine s_sa ?_
          refine aops_nil (aw_seq (aw_seq (aw_region (s_mv ?_))))
          refine s_cm ?_
          refine aops_nil ?_
          refine aw_cond rfl (fun c110 => ?_) (fun c110 => ?_)
          · replace j106 := Md.cond_t j106 c110
            refine aw_seq (aw_region (s_sa ?_))
            refine aops_nil ?_
            cases Option.some.inj j106
            replace l96 := Md.onS_r l96
            cases Option.some.inj l96
            replace j8 := Md.onS_r j8
            cases Option.some.inj j8
            replace l6 := Md.onS_r l6
            cases Option.some.inj l6
            replace h := Md.onS_r h
            cases Option.some.inj h
            exact aw_ret ⟨rfl, rv r1⟩
          replace j106 := Md.cond_f j106 c110
          refine aw_skip (aw_region (s_mv ?_))
          refine s_ls [_, _, _, _, _, _] ?_
          refine s_fd ?_
          refine aops_step1 rfl (ev_index_arr (j := 0) rfl rfl (of_decide_eq_true q108) rfl rfl) (s_st [_, _, _, _, _, _, _, _, _, _, _, _, _, _, _, _] ?_)
          refine aops_nil ?_
          show ∃ _x : Store, _ = _ ∧ Weak _ _
          exact ⟨(⟨(⟨x109.1, s96_1.Disks.x1⟩ : Arr2Disk), s96_1.Current, s96_1.Number, s96_1.Base, s96_1.Count⟩ : Store), Option.some.inj j106, wk⟩
        replace j106 := Md.cond_f j106 q108
        obtain ⟨g111, j106⟩ := Md.ifp_s j106
        refine aops_step1 rfl (ev_index_arr (j := 1) rfl rfl g111 rfl rfl) (s_ls [_, _, _, _, _, _] ?_)
        obtain ⟨x112, hx112, j106⟩ := Md.bind_s j106
        refine aops_step1 rfl (ev_call_v (disk_Restart_fn k s96_1.Disks.x1 x112 hx112) rfl [] ai rfl rfl rfl (.inl rfl) rfl) (s_mt ?_)
        iterate 2 refine s_ex ?_
        refine aops_step1 rfl (st_alloc (cs := [.val (.slice none 0 0), cI 0, cB false, cI 0, cI 0, cB false]) 3 rfl rfl rfl rfl rfl) (s_st [_, _, _, _, _, _] ?_)
        refine s_sa ?_
        refine aops_nil (aw_seq (aw_seq (aw_region (s_mv ?_))))
        refine s_cm ?_
        refine aops_nil ?_
        refine aw_cond rfl (fun c113 => ?_) (fun c113 => ?_)
        · replace j106 := Md.cond_t j106 c113
          refine aw_seq (aw_region (s_sa ?_))
          refine aops_nil ?_
          cases Option.some.inj j106
          replace l96 := Md.onS_r l96
          cases Option.some.inj l96
          replace j8 := Md.onS_r j8
          cases Option.some.inj j8
          replace l6 := Md.onS_r l6
          cases Option.some.inj l6
          replace h := Md.onS_r h
          cases Option.some.inj h
          exact aw_ret ⟨rfl, rv r1⟩
        replace j106 := Md.cond_f j106 c113
        refine aw_skip (aw_region (s_mv ?_))
        refine s_ls [_, _, _, _, _, _] ?_
        refine s_fd ?_
        obtain ⟨g114, j106⟩ := Md.ifp_s j106
        refine aops_step1 rfl (ev_index_arr (j := 1) rfl rfl g114 rfl rfl) (s_st [_, _, _, _, _, _, _, _, _, _, _, _, _, _, _, _] ?_)
        refine aops_nil ?_
        show ∃ _x : Store, _ = _ ∧ Weak _ _
        exact ⟨(⟨(⟨s96_1.Disks.x0, x112.1⟩ : Arr2Disk), s96_1.Current, s96_1.Number, s96_1.Base, s96_1.Count⟩ : Store), Option.some.inj j106, wk⟩
      replace l96 := Md.cond_f l96 c105
      refine aw_exit ?_
      show ∃ _x : Store, _ = _ ∧ Weak _ _
      exact ⟨s96_1, Option.some.inj l96, wk⟩
    replace j8 := Md.cond_f j8 c90
    refine aw_seq (aw_region (s_cm ?_))
    refine s_sa ?_
    refine aops_nil ?_
    refine aw_cond rfl (fun c115 => ?_) (fun c115 => ?_)
    · replace j8 := Md.cond_t j8 c115
      refine aw_seq (aw_region (s_fd ?_))
      refine s_ld ?_
      refine aops_step1 rfl (st_conv_int rfl rfl Try.underlying5 Try.underlying3 (Md.conv_u8_i64 ((a0.getD s6_1 default).Writes))) ?_
      refine aops_step1 rfl (ev_rem rfl rfl rfl (by decide) (Md.nat_rem _ _)) (s_sa ?_)
      refine aops_nil ?_
      rcases Md.bool_or ((decide (((((((a0.getD s6_1 default).Writes).toNat) % 2) : Nat) : Int) = 0))) with q116 | q116
      · replace j8 := Md.cond_t j8 q116
        obtain ⟨x117, hx117, j8⟩ := Md.bind_s j8
        refine aw_seq_mid (⟨179, [], [(0, .one (CV.ls c_Actorgridlaw28Act a0)), (3, .one (.ptr 0 0)), (5, .one (.val (Sv s6_0))), (6, .one (.val (Sv []))), (7, vI ((s6_1 : Nat) : Int)), (9, vB false), (14, vI ((((((a0.getD s6_1 default).Writes).toNat) % 2) : Nat) : Int)), (15, .one (.ptr 2 0)), (16, vI x117.2)], [(0, some (.box (c_Store s6_2))), (2, some (.box (c_Disk x117.1)))]⟩ : ASt) ?_ ?_
        ·
          apply aw_late 17 15 ((⟨[], vI ((((((a0.getD s6_1 default).Writes).toNat) % 2) : Nat) : Int)⟩ : Add) :: ⟨[], .one (.ptr 0 _)⟩ :: ⟨[], .one (.ptr 0 _)⟩ :: ⟨[], .agg (c_Disk s6_2.Disks.x0)⟩ :: ⟨[], .one (.ptr 1 _)⟩ :: ⟨[], .one (.val (.int .u8 (((a0.getD s6_1 default).Writes).toNat : Int)))⟩ :: ⟨[], .one (.val (.int .u8 (((((a0.getD s6_1 default).Writes) / (2 : UInt8))).toNat : Int)))⟩ :: ⟨[], .one (.val (.int .u8 ((((((a0.getD s6_1 default).Writes) / (2 : UInt8)) % (6 : UInt8))).toNat : Int)))⟩ :: ⟨[], vI ((((((a0.getD s6_1 default).Writes) / (2 : UInt8)) % (6 : UInt8)).toNat : Nat) : Int)⟩ :: ⟨[], .one (.ptr 1 _)⟩ :: ⟨[], .one (.val (.int .u8 (((a0.getD s6_1 default).Keep).toNat : Int)))⟩ :: ⟨[], vI ((((a0.getD s6_1 default).Keep).toNat : Nat) : Int)⟩ :: ⟨[], .tup [.agg (c_Disk x117.1), vI x117.2]⟩ :: ⟨[], .tup [.agg (c_Disk x117.1), vI x117.2]⟩ :: ⟨[], .agg (c_Disk x117.1)⟩ :: ⟨[], vI x117.2⟩ :: ⟨[(2, some (.box [.val (.slice none 0 0), cI 0, cB false, cI 0, cI 0, cB false]))], .one (.ptr 2 _)⟩ :: []) (by decide) (by decide) rfl rfl rfl ?hk11x ?hf11x ?ho11x ?hr11x ?hl11x
          case ho11x =>
           refine ob [] (fun S hle hfr => .inl ⟨w0, st_move (hle.e rfl) (hle.d rfl)⟩) (ob [] (fun S hle hfr => .inl ⟨w0, ev_field (hle.e rfl) rfl (hle.d rfl)⟩) ?_)
           refine ob [1, 0] (fun S hle hfr => .inl ⟨w0, ev_index_arr (j := 0) (hle.e rfl) (hle.e rfl) (of_decide_eq_true q116) rfl (hle.d rfl)⟩) ?_
           refine ob [2, 1, 0] (fun S hle hfr => .inl ⟨w0, ev_loads (ds := [_, _, _, _, _, _]) (hle.e rfl) (hle.heap _ _ rfl) rfl rfl (hle.d rfl)⟩) ?_
           refine ob [] (fun S hle hfr => .inl ⟨w0, ev_field (hle.e rfl) rfl (hle.d rfl)⟩) ?_
           refine ob [4] (fun S hle hfr => .inl ⟨w0, ev_load (hle.e rfl) (hle.heap _ _ rfl) rfl (hle.d rfl)⟩) ?_
           refine ob [5, 4] (fun S hle hfr => .inl ⟨w0, ev_quo (hle.e rfl) (hle.e rfl) (hle.d rfl) (by decide) (Md.quo_u8 ((a0.getD s6_1 default).Writes) (2 : UInt8))⟩) ?_
           refine ob [6, 5, 4] (fun S hle hfr => .inl ⟨w0, ev_rem (hle.e rfl) (hle.e rfl) (hle.d rfl) (by decide) (Md.rem_u8 (((a0.getD s6_1 default).Writes) / (2 : UInt8)) (6 : UInt8))⟩) ?_
           refine ob [7, 6, 5, 4] (fun S hle hfr => .inl ⟨w0, st_conv_int (hle.e rfl) (hle.d rfl) Try.underlying5 Try.underlying3 (Md.conv_u8_i64 ((((a0.getD s6_1 default).Writes) / (2 : UInt8)) % (6 : UInt8)))⟩) ?_
           refine ob [] (fun S hle hfr => .inl ⟨w0, ev_field (hle.e rfl) rfl (hle.d rfl)⟩) ?_
           refine ob [9] (fun S hle hfr => .inl ⟨w0, ev_load (hle.e rfl) (hle.heap _ _ rfl) rfl (hle.d rfl)⟩) ?_
           refine ob [10, 9] (fun S hle hfr => .inl ⟨w0, st_conv_int (hle.e rfl) (hle.d rfl) Try.underlying5 Try.underlying3 (Md.conv_u8_i64 ((a0.getD s6_1 default).Keep))⟩) ?_
           refine ob [3, 8, 11, 2, 7, 10, 1, 0, 6, 9, 5, 4] (fun S hle hfr => .inl ⟨w0, ev_call_v (disk_Arm_fn k s6_2.Disks.x0 ((((((a0.getD s6_1 default).Writes) / (2 : UInt8)) % (6 : UInt8)).toNat : Nat) : Int) ((((a0.getD s6_1 default).Keep).toNat : Nat) : Int) x117 hx117) (map_ev (.cons (hle.e rfl) (.cons (hle.e rfl) (.cons (hle.e rfl) (.nil))))) [] (by repeat' (first | exact .nil | refine .cons ?_ ?_ | refine .one ?_ | refine .agg ?_ | exact .mk rfl | exact .lend (hle.heap _ _ rfl) (by simp) | exact .le (.nil _) rfl | exact .le (.emp _) rfl | exact .le (.any _) rfl | fail)) rfl rfl rfl (.inl rfl) (hle.d rfl)⟩) ?_
           refine ob [12, 3, 8, 11, 2, 7, 10, 1, 0, 6, 9, 5, 4] (fun S hle hfr => .inl ⟨w0, st_movet (hle.e rfl) (hle.d rfl)⟩) ?_
           refine ob [13, 12, 3, 8, 11, 2, 7, 10, 1, 0, 6, 9, 5, 4] (fun S hle hfr => .inl ⟨w0, ev_extract (hle.e rfl) rfl (hle.d rfl)⟩) ?_
           refine ob [13, 12, 3, 8, 11, 2, 7, 10, 1, 0, 6, 9, 5, 4] (fun S hle hfr => .inl ⟨w0, ev_extract (hle.e rfl) rfl (hle.d rfl)⟩) ?_
           refine ob [] (fun S hle hfr => .inl ⟨w0, st_alloc (cs := [.val (.slice none 0 0), cI 0, cB false, cI 0, cI 0, cB false]) 2 (hfr _ (List.mem_singleton.2 rfl)) rfl rfl rfl (hle.d rfl)⟩) ?_
           exact trivial
          case hk11x => rfl
          case hf11x => rfl
          case hr11x =>
           refine s_st [_, _, _, _, _, _] ?_
           refine s_sa ?_
           refine aops_nil ?_
           exact wk
          case hl11x =>
           refine s_st [_, _, _, _, _, _] ?_
           refine s_ex ?_
           refine s_sa ?_
           refine aops_nil ?_
           exact wk
        refine aw_seq (aw_region (s_mv ?_))
        refine s_cm ?_
        refine aops_nil ?_
        refine aw_cond rfl (fun c118 => ?_) (fun c118 => ?_)
        · replace j8 := Md.cond_t j8 c118
          refine aw_region (s_mv ?_)
          refine s_ls [_, _, _, _, _, _] ?_
          refine s_fd ?_
          refine aops_step1 rfl (ev_index_arr (j := 0) rfl rfl (of_decide_eq_true q116) rfl rfl) (s_st [_, _, _, _, _, _, _, _, _, _, _, _, _, _, _, _] ?_)
          refine aops_nil (aw_seq (aw_seq (aw_region (s_mv ?_))))
          refine s_nt ?_
          refine aops_nil (aw_yes rfl (rfl) (aw_exit ?_))
          show ∃ _x : (List UInt8) × Store, _ = _ ∧ Weak _ _
          exact ⟨(s6_0, (⟨(⟨x117.1, s6_2.Disks.x1⟩ : Arr2Disk), s6_2.Current, s6_2.Number, s6_2.Base, s6_2.Count⟩ : Store)), Option.some.inj j8, wk⟩
        replace j8 := Md.cond_f j8 c118
        refine aw_skip (aw_seq (aw_seq (aw_region (s_mv ?_))))
        refine s_nt ?_
        refine aops_nil (aw_yes rfl (rfl) (aw_exit ?_))
        show ∃ _x : (List UInt8) × Store, _ = _ ∧ Weak _ _
        exact ⟨(s6_0, s6_2), Option.some.inj j8, wk⟩
      replace j8 := Md.cond_f j8 q116
      obtain ⟨g119, j8⟩ := Md.ifp_s j8
      obtain ⟨x120, hx120, j8⟩ := Md.bind_s j8
      refine aw_seq_mid (⟨179, [], [(0, .one (CV.ls c_Actorgridlaw28Act a0)), (3, .one (.ptr 0 0)), (5, .one (.val (Sv s6_0))), (6, .one (.val (Sv []))), (7, vI ((s6_1 : Nat) : Int)), (9, vB false), (14, vI ((((((a0.getD s6_1 default).Writes).toNat) % 2) : Nat) : Int)), (15, .one (.ptr 2 0)), (16, vI x120.2)], [(0, some (.box (c_Store s6_2))), (2, some (.box (c_Disk x120.1)))]⟩ : ASt) ?_ ?_
      ·
        apply aw_late 17 15 ((⟨[], vI ((((((a0.getD s6_1 default).Writes).toNat) % 2) : Nat) : Int)⟩ : Add) :: ⟨[], .one (.ptr 0 _)⟩ :: ⟨[], .one (.ptr 0 _)⟩ :: ⟨[], .agg (c_Disk s6_2.Disks.x1)⟩ :: ⟨[], .one (.ptr 1 _)⟩ :: ⟨[], .one (.val (.int .u8 (((a0.getD s6_1 default).Writes).toNat : Int)))⟩ :: ⟨[], .one (.val (.int .u8 (((((a0.getD s6_1 default).Writes) / (2 : UInt8))).toNat : Int)))⟩ :: ⟨[], .one (.val (.int .u8 ((((((a0.getD s6_1 default).Writes) / (2 : UInt8)) % (6 : UInt8))).toNat : Int)))⟩ :: ⟨[], vI ((((((a0.getD s6_1 default).Writes) / (2 : UInt8)) % (6 : UInt8)).toNat : Nat) : Int)⟩ :: ⟨[], .one (.ptr 1 _)⟩ :: ⟨[], .one (.val (.int .u8 (((a0.getD s6_1 default).Keep).toNat : Int)))⟩ :: ⟨[], vI ((((a0.getD s6_1 default).Keep).toNat : Nat) : Int)⟩ :: ⟨[], .tup [.agg (c_Disk x120.1), vI x120.2]⟩ :: ⟨[], .tup [.agg (c_Disk x120.1), vI x120.2]⟩ :: ⟨[], .agg (c_Disk x120.1)⟩ :: ⟨[], vI x120.2⟩ :: ⟨[(2, some (.box [.val (.slice none 0 0), cI 0, cB false, cI 0, cI 0, cB false]))], .one (.ptr 2 _)⟩ :: []) (by decide) (by decide) rfl rfl rfl ?hk12x ?hf12x ?ho12x ?hr12x ?hl12x
        case ho12x =>
         refine ob [] (fun S hle hfr => .inl ⟨w0, st_move (hle.e rfl) (hle.d rfl)⟩) (ob [] (fun S hle hfr => .inl ⟨w0, ev_field (hle.e rfl) rfl (hle.d rfl)⟩) ?_)
         refine ob [1, 0] (fun S hle hfr => .inl ⟨w0, ev_index_arr (j := 1) (hle.e rfl) (hle.e rfl) g119 rfl (hle.d rfl)⟩) ?_
         refine ob [2, 1, 0] (fun S hle hfr => .inl ⟨w0, ev_loads (ds := [_, _, _, _, _, _]) (hle.e rfl) (hle.heap _ _ rfl) rfl rfl (hle.d rfl)⟩) ?_
         refine ob [] (fun S hle hfr => .inl ⟨w0, ev_field (hle.e rfl) rfl (hle.d rfl)⟩) ?_
         refine ob [4] (fun S hle hfr => .inl ⟨w0, ev_load (hle.e rfl) (hle.heap _ _ rfl) rfl (hle.d rfl)⟩) ?_
         refine ob [5, 4] (fun S hle hfr => .inl ⟨w0, ev_quo (hle.e rfl) (hle.e rfl) (hle.d rfl) (by decide) (Md.quo_u8 ((a0.getD s6_1 default).Writes) (2 : UInt8))⟩) ?_
         refine ob [6, 5, 4] (fun S hle hfr => .inl ⟨w0, ev_rem (hle.e rfl) (hle.e rfl) (hle.d rfl) (by decide) (Md.rem_u8 (((a0.getD s6_1 default).Writes) / (2 : UInt8)) (6 : UInt8))⟩) ?_
         refine ob [7, 6, 5, 4] (fun S hle hfr => .inl ⟨w0, st_conv_int (hle.e rfl) (hle.d rfl) Try.underlying5 Try.underlying3 (Md.conv_u8_i64 ((((a0.getD s6_1 default).Writes) / (2 : UInt8)) % (6 : UInt8)))⟩) ?_
         refine ob [] (fun S hle hfr => .inl ⟨w0, ev_field (hle.e rfl) rfl (hle.d rfl)⟩) ?_
         refine ob [9] (fun S hle hfr => .inl ⟨w0, ev_load (hle.e rfl) (hle.heap _ _ rfl) rfl (hle.d rfl)⟩) ?_
         refine ob [10, 9] (fun S hle hfr => .inl ⟨w0, st_conv_int (hle.e rfl) (hle.d rfl) Try.underlying5 Try.underlying3 (Md.conv_u8_i64 ((a0.getD s6_1 default).Keep))⟩) ?_
         refine ob [3, 8, 11, 2, 7, 10, 1, 0, 6, 9, 5, 4] (fun S hle hfr => .inl ⟨w0, ev_call_v (disk_Arm_fn k s6_2.Disks.x1 ((((((a0.getD s6_1 default).Writes) / (2 : UInt8)) % (6 : UInt8)).toNat : Nat) : Int) ((((a0.getD s6_1 default).Keep).toNat : Nat) : Int) x120 hx120) (map_ev (.cons (hle.e rfl) (.cons (hle.e rfl) (.cons (hle.e rfl) (.nil))))) [] (by repeat' (first | exact .nil | refine .cons ?_ ?_ | refine .one ?_ | refine .agg ?_ | exact .mk rfl | exact .lend (hle.heap _ _ rfl) (by simp) | exact .le (.nil _) rfl | exact .le (.emp _) rfl | exact .le (.any _) rfl | fail)) rfl rfl rfl (.inl rfl) (hle.d rfl)⟩) ?_
         refine ob [12, 3, 8, 11, 2, 7, 10, 1, 0, 6, 9, 5, 4] (fun S hle hfr => .inl ⟨w0, st_movet (hle.e rfl) (hle.d rfl)⟩) ?_
         refine ob [13, 12, 3, 8, 11, 2, 7, 10, 1, 0, 6, 9, 5, 4] (fun S hle hfr => .inl ⟨w0, ev_extract (hle.e rfl) rfl (hle.d rfl)⟩) ?_
         refine ob [13, 12, 3, 8, 11, 2, 7, 10, 1, 0, 6, 9, 5, 4] (fun S hle hfr => .inl ⟨w0, ev_extract (hle.e rfl) rfl (hle.d rfl)⟩) ?_
         refine ob [] (fun S hle hfr => .inl ⟨w0, st_alloc (cs := [.val (.slice none 0 0), cI 0, cB false, cI 0, cI 0, cB false]) 2 (hfr _ (List.mem_singleton.2 rfl)) rfl rfl rfl (hle.d rfl)⟩) ?_
         exact trivial
        case hk12x => rfl
        case hf12x => rfl
        case hr12x =>
         refine s_st [_, _, _, _, _, _] ?_
         refine s_sa ?_
         refine aops_nil ?_
         exact wk
        case hl12x =>
         refine s_st [_, _, _, _, _, _] ?_
         refine s_ex ?_
         refine s_sa ?_
         refine aops_nil ?_
         exact wk
      refine aw_seq (aw_region (s_mv ?_))
      refine s_cm ?_
      refine aops_nil ?_
      refine aw_cond rfl (fun c121 => ?_) (fun c121 => ?_)
      · replace j8 := Md.cond_t j8 c121
        refine aw_region (s_mv ?_)
        refine s_ls [_, _, _, _, _, _] ?_
        refine s_fd ?_
        obtain ⟨g122, j8⟩ := Md.ifp_s j8
        refine aops_step1 rfl (ev_index_arr (j := 1) rfl rfl g122 rfl rfl) (s_st [_, _, _, _, _, _, _, _, _, _, _, _, _, _, _, _] ?_)
        refine aops_nil (aw_seq (aw_seq (aw_region (s_mv ?_))))
        refine s_nt ?_
        refine aops_nil (aw_yes rfl (rfl) (aw_exit ?_))
        show ∃ _x : (List UInt8) × Store, _ = _ ∧ Weak _ _
        exact ⟨(s6_0, (⟨(⟨s6_2.Disks.x0, x120.1⟩ : Arr2Disk), s6_2.Current, s6_2.Number, s6_2.Base, s6_2.Count⟩ : Store)), Option.some.inj j8, wk⟩
      replace j8 := Md.cond_f j8 c121
      refine aw_skip (aw_seq (aw_seq (aw_region (s_mv ?_))))
      refine s_nt ?_
      refine aops_nil (aw_yes rfl (rfl) (aw_exit ?_))
      show ∃ _x : (List UInt8) × Store, _ = _ ∧ Weak _ _
      exact ⟨(s6_0, s6_2), Option.some.inj j8, wk⟩
    replace j8 := Md.cond_f j8 c115
    refine aw_region (s_sa ?_)
    refine aops_nil (aw_seq (aw_seq (aw_region (s_mv ?_))))
    refine s_nt ?_
    refine aops_nil (aw_no rfl (rfl) (aw_skip (aw_seq (aw_seq (aw_region (s_sa ?_))))))
    refine aops_nil (aw_block ?_)
    obtain ⟨o123, ho123, j8⟩ := Md.bind_s j8
    refine aw_loop_x (ι := {p : Nat × Nat × Store // actorgridlaw28_StoreSurvives_loop6 k p.1 p.2.1 p.2.2 = some o123}) (fun p => (⟨179, [], [(0, .one (CV.ls c_Actorgridlaw28Act a0)), (3, .one (.ptr 0 0)), (5, .one (.val (Sv s6_0))), (6, .one (.val (Sv []))), (7, vI ((s6_1 : Nat) : Int)), (17, vI ((p.1.2.1 : Nat) : Int))], [(0, some (.box (c_Store p.1.2.2)))]⟩ : ASt)) (fun p => p.1.1) ⟨(k, 0, s6_2), ho123⟩ wk 3 (ε := Store) (fun x => (⟨179, [], [(0, .one (CV.ls c_Actorgridlaw28Act a0)), (3, .one (.ptr 0 0)), (5, .one (.val (Sv s6_0))), (6, .one (.val (Sv []))), (7, vI ((s6_1 : Nat) : Int))], [(0, some (.box (c_Arr2Disk x.Disks ++ [cI x.Current, cI x.Number, cI x.Base, cI x.Count])))]⟩ : ASt)) (fun x => Sum.inl x = o123) (fun _ _ w h => aw_weak w h) ?_ ?_
    · intro x123_0 hI123
      subst hI123
      replace j8 := Md.onS_l j8
      change AW _ _ (⟨179, [], [(0, .one (CV.ls c_Actorgridlaw28Act a0)), (3, .one (.ptr 0 0)), (5, .one (.val (Sv s6_0))), (6, .one (.val (Sv []))), (7, vI ((s6_1 : Nat) : Int))], [(0, some (.box (c_Store x123_0)))]⟩ : ASt) _
      refine aw_seq (aw_region (s_fd ?_))
      refine aops_step1 rfl (ev_index_arr rfl rfl rfl rfl rfl) (s_ls [_, _, _, _, _, _] ?_)
      refine s_fd ?_
      refine aops_step1 rfl (ev_index_arr rfl rfl rfl rfl rfl) (s_ls [_, _, _, _, _, _] ?_)
      obtain ⟨x124, hx124, j8⟩ := Md.bind_s j8
      refine aops_step1 rfl (ev_call_v (store_Recover_fn k x123_0.Disks.x0 x123_0.Disks.x1 x124 hx124) rfl [] ai rfl rfl rfl (.inl rfl) rfl) (s_mt ?_)
      iterate 3 refine s_ex ?_
      refine aops_step1 rfl (st_alloc (cs := [.val (.slice none 0 0), cI 0, cB false, cI 0, cI 0, cB false, .val (.slice none 0 0), cI 0, cB false, cI 0, cI 0, cB false, cI 0, cI 0, cI 0, cI 0]) 2 rfl rfl rfl rfl rfl) ?_
      refine aops_step1 rfl (st_alloc (cs := [cI 0, .val (.slice none 0 0), .val (.slice none 0 0)]) 3 rfl rfl rfl rfl rfl) (s_st [_, _, _, _, _, _, _, _, _, _, _, _, _, _, _, _] ?_)
      refine s_st [_, _, _] ?_
      refine s_sa ?_
      refine aops_nil (aw_seq (aw_seq (aw_region (s_mv ?_))))
      refine s_cm ?_
      refine s_mv ?_
      obtain ⟨o125, j125, j8⟩ := Md.bind_s j8
      refine aops_cut 4 (ε := Bool) (fun x125 => (⟨179, [], [(0, .one (CV.ls c_Actorgridlaw28Act a0)), (3, .one (.ptr 0 0)), (5, .one (.val (Sv s6_0))), (6, .one (.val (Sv []))), (7, vI ((s6_1 : Nat) : Int)), (20, .one (.ptr 2 0)), (21, .one (.ptr 3 0)), (161, vB x125)], [(0, some (.box (c_Store x123_0))), (2, some (.box (c_Store x124.1))), (3, some (.box (c_StoreContents x124.2.1)))]⟩ : ASt)) (fun x125 => x125 = o125) ?_ ?_
      · intro x125 hI125
        subst hI125
        change AOps _ _ _ (⟨179, [], [(0, .one (CV.ls c_Actorgridlaw28Act a0)), (3, .one (.ptr 0 0)), (5, .one (.val (Sv s6_0))), (6, .one (.val (Sv []))), (7, vI ((s6_1 : Nat) : Int)), (20, .one (.ptr 2 0)), (21, .one (.ptr 3 0)), (161, vB x125)], [(0, some (.box (c_Store x123_0))), (2, some (.box (c_Store x124.1))), (3, some (.box (c_StoreContents x124.2.1)))]⟩ : ASt) _
        refine aops_nil ?_
        refine aw_cond rfl (fun c126 => ?_) (fun c126 => ?_)
        · replace j8 := Md.cond_t j8 c126
          refine aw_seq (aw_region (s_sa ?_))
          refine aops_nil ?_
          cases Option.some.inj j8
          replace l6 := Md.onS_r l6
          cases Option.some.inj l6
          replace h := Md.onS_r h
          cases Option.some.inj h
          exact aw_ret ⟨rfl, rv r1⟩
        replace j8 := Md.cond_f j8 c126
        refine aw_skip (aw_seq (aw_region (s_fd ?_)))
        refine s_ld ?_
        refine s_fd ?_
        refine s_ld ?_
        obtain ⟨x127, hx127, j8⟩ := Md.bind_s j8
        refine aops_step1 rfl (ev_call_v (actorgridlaw28_fold_fn k x124.2.1.State x124.2.1.Entries x127 hx127) rfl [] ai rfl rfl rfl (.inl rfl) rfl) (s_sa ?_)
        refine aops_nil (aw_seq (aw_seq (aw_region ?_)))
        iterate 2 refine s_mv ?_
        refine aops_step1 rfl (st_str_ne rfl rfl rfl) (s_mv ?_)
        obtain ⟨o128, j128, j8⟩ := Md.bind_s j8
        refine aops_cut 6 (ε := Bool) (fun x128 => (⟨179, [], [(0, .one (CV.ls c_Actorgridlaw28Act a0)), (3, .one (.ptr 0 0)), (7, vI ((s6_1 : Nat) : Int)), (20, .one (.ptr 2 0)), (23, .one (.val (Sv x127))), (176, vB x128)], [(0, some (.box (c_Store x123_0))), (2, some (.box (c_Store x124.1)))]⟩ : ASt)) (fun x128 => x128 = o128) ?_ ?_
        · intro x128 hI128
          subst hI128
          change AOps _ _ _ (⟨179, [], [(0, .one (CV.ls c_Actorgridlaw28Act a0)), (3, .one (.ptr 0 0)), (7, vI ((s6_1 : Nat) : Int)), (20, .one (.ptr 2 0)), (23, .one (.val (Sv x127))), (176, vB x128)], [(0, some (.box (c_Store x123_0))), (2, some (.box (c_Store x124.1)))]⟩ : ASt) _
          refine aops_nil ?_
          refine aw_cond rfl (fun c129 => ?_) (fun c129 => ?_)
          · replace j8 := Md.cond_t j8 c129
            refine aw_seq (aw_region (s_sa ?_))
            refine aops_nil ?_
            cases Option.some.inj j8
            replace l6 := Md.onS_r l6
            cases Option.some.inj l6
            replace h := Md.onS_r h
            cases Option.some.inj h
            exact aw_ret ⟨rfl, rv r1⟩
          replace j8 := Md.cond_f j8 c129
          refine aw_skip (aw_region (s_ls [_, _, _, _, _, _, _, _, _, _, _, _, _, _, _, _] ?_))
          refine s_mv ?_
          refine s_st [_, _, _, _, _, _, _, _, _, _, _, _, _, _, _, _] ?_
          iterate 2 refine s_sa ?_
          refine aops_nil ?_
          show ∃ _x : (List UInt8) × Store, _ = _ ∧ Weak _ _
          exact ⟨(x127, x124.1), Option.some.inj j8, wk⟩
        rcases Md.bool_or ((!(decide (x127 = s6_0)))) with q128 | q128
        · replace j128 := Md.cond_t j128 q128
          iterate 3 refine y_mv q128 ?_
          obtain ⟨g130, j128⟩ := Md.ifp_s j128
          refine aops_yes rfl rfl rfl rfl q128 (st_str_add rfl rfl rfl g130) (aops_yes rfl rfl rfl rfl q128 (st_str_ne rfl rfl rfl) (s_py q128 ?_))
          refine aops_nil ?_
          show ∃ _x : Bool, _ = _ ∧ Weak _ _
          exact ⟨(!(decide (x127 = (s6_0 ++ ([] : List UInt8))))), Option.some.inj j128, wk⟩
        replace j128 := Md.cond_f j128 q128
        iterate 5 refine np q128 ?_
        refine s_pn q128 ?_
        refine aops_nil ?_
        show ∃ _x : Bool, _ = _ ∧ Weak _ _
        exact ⟨false, Option.some.inj j128, wk⟩
      rcases Md.bool_or ((x124.2.2 != 0)) with q125 | q125
      · replace j125 := Md.cond_t j125 q125
        iterate 3 refine np q125 ?_
        refine s_py q125 ?_
        refine aops_nil ?_
        show ∃ _x : Bool, _ = _ ∧ Weak _ _
        exact ⟨true, Option.some.inj j125, wk⟩
      replace j125 := Md.cond_f j125 q125
      refine aops_yes rfl rfl rfl rfl q125 (ev_loads (ds := [_, _, _, _, _, _, _, _, _, _, _, _, _, _, _, _]) rfl rfl rfl rfl rfl) ?_
      obtain ⟨x131, hx131, j125⟩ := Md.bind_s j125
      refine aops_yes rfl rfl rfl rfl q125 (ev_call_v (store_Valid_fn k x124.1 x131 hx131) rfl [] ai rfl rfl rfl (.inl rfl) rfl) (y_nt q125 ?_)
      refine s_pn q125 ?_
      refine aops_nil ?_
      show ∃ _x : Bool, _ = _ ∧ Weak _ _
      exact ⟨(!x131), Option.some.inj j125, wk⟩
    intro p123
    obtain ⟨⟨n123, s123_0, s123_1⟩, l123⟩ := p123
    change AW _ _ (⟨179, [], [(0, .one (CV.ls c_Actorgridlaw28Act a0)), (3, .one (.ptr 0 0)), (5, .one (.val (Sv s6_0))), (6, .one (.val (Sv []))), (7, vI ((s6_1 : Nat) : Int)), (17, vI ((s123_0 : Nat) : Int))], [(0, some (.box (c_Store s123_1)))]⟩ : ASt) _
    replace l123 : actorgridlaw28_StoreSurvives_loop6 k n123 s123_0 s123_1 = some o123 := l123
    rcases n123 with _ | n123
    · exact absurd (show none = some o123 from l123) nofun
    rw [actorgridlaw28_StoreSurvives_loop6] at l123
    refine aw_seq (aw_seq (aw_region (s_mv ?_)))
    refine s_cm ?_
    refine aops_nil ?_
    refine aw_cond rfl (fun c132 => ?_) (fun c132 => ?_)
    · replace l123 := Md.cond_t l123 c132
      refine aw_skip ?_
      obtain ⟨o133, j133, l123⟩ := Md.bind_s l123
      refine aw_cut (ε := Store) (fun x => (⟨179, [], [(0, .one (CV.ls c_Actorgridlaw28Act a0)), (3, .one (.ptr 0 0)), (5, .one (.val (Sv s6_0))), (6, .one (.val (Sv []))), (7, vI ((s6_1 : Nat) : Int)), (17, vI ((s123_0 : Nat) : Int))], [(0, some (.box (c_Arr2Disk x.Disks ++ [cI x.Current, cI x.Number, cI x.Base, cI x.Count])))]⟩ : ASt)) (fun x => Sum.inl x = o133) ?_ ?_
      · intro x133_0 hI133
        subst hI133
        replace l123 := Md.onS_l l123
        change AW _ _ (⟨179, [], [(0, .one (CV.ls c_Actorgridlaw28Act a0)), (3, .one (.ptr 0 0)), (5, .one (.val (Sv s6_0))), (6, .one (.val (Sv []))), (7, vI ((s6_1 : Nat) : Int)), (17, vI ((s123_0 : Nat) : Int))], [(0, some (.box (c_Store x133_0)))]⟩ : ASt) _
        refine aw_region (s_mv ?_)
        obtain ⟨g134, l123⟩ := Md.ifp_s l123
        refine aops_step1 rfl (ev_add rfl rfl rfl (Md.nat_add g134)) (s_sa ?_)
        refine aops_nil ?_
        exact ⟨⟨(n123, (s123_0 + 1), x133_0), l123⟩, Nat.lt_succ_self _, wk⟩
      refine aw_block (aw_seq (aw_region (s_mv ?_)))
      refine s_fd ?_
      rcases Md.bool_or ((decide (((s123_0 : Nat) : Int) = 0))) with q135 | q135
      · replace j133 := Md.cond_t j133 q135
        refine aops_step1 rfl (ev_index_arr (j := 0) rfl rfl (of_decide_eq_true q135) rfl rfl) (s_ls [_, _, _, _, _, _] ?_)
        obtain ⟨x136, hx136, j133⟩ := Md.bind_s j133
        refine aops_step1 rfl (ev_call_v (disk_Restart_fn k s123_1.Disks.x0 x136 hx136) rfl [] ai rfl rfl rfl (.inl rfl) rfl) (s_mt ?_)
        iterate 2 refine s_ex ?_
        refine aops_step1 rfl (st_alloc (cs := [.val (.slice none 0 0), cI 0, cB false, cI 0, cI 0, cB false]) 2 rfl rfl rfl rfl rfl) (s_st [_, _, _, _, _, _] ?_)
        refine s_sa ?_
        refine aops_nil (aw_seq (aw_seq (aw_region (s_mv ?_))))
        refine s_cm ?_
        refine aops_nil ?_
        refine aw_cond rfl (fun c137 => ?_) (fun c137 => ?_)
        · replace j133 := Md.cond_t j133 c137
          refine aw_seq (aw_region (s_sa ?_))
          refine aops_nil ?_
          cases Option.some.inj j133
          replace l123 := Md.onS_r l123
          cases Option.some.inj l123
          replace j8 := Md.onS_r j8
          cases Option.some.inj j8
          replace l6 := Md.onS_r l6
          cases Option.some.inj l6
          replace h := Md.onS_r h
          cases Option.some.inj h
          exact aw_ret ⟨rfl, rv r1⟩
        replace j133 := Md.cond_f j133 c137
        refine aw_skip (aw_region (s_mv ?_))
        refine s_ls [_, _, _, _, _, _] ?_
        refine s_fd ?_
        refine aops_step1 rfl (ev_index_arr (j := 0) rfl rfl (of_decide_eq_true q135) rfl rfl) (s_st [_, _, _, _, _, _, _, _, _, _, _, _, _, _, _, _] ?_)
        refine aops_nil ?_
        show ∃ _x : Store, _ = _ ∧ Weak _ _
        exact ⟨(⟨(⟨x136.1, s123_1.Disks.x1⟩ : Arr2Disk), s123_1.Current, s123_1.Number, s123_1.Base, s123_1.Count⟩ : Store), Option.some.inj j133, wk⟩
      replace j133 := Md.cond_f j133 q135
      obtain ⟨g138, j133⟩ := Md.ifp_s j133
      refine aops_step1 rfl (ev_index_arr (j := 1) rfl rfl g138 rfl rfl) (s_ls [_, _, _, _, _, _] ?_)
      obtain ⟨x139, hx139, j133⟩ := Md.bind_s j133
      refine aops_step1 rfl (ev_call_v (disk_Restart_fn k s123_1.Disks.x1 x139 hx139) rfl [] ai rfl rfl rfl (.inl rfl) rfl) (s_mt ?_)
      iterate 2 refine s_ex ?_
      refine aops_step1 rfl (st_alloc (cs := [.val (.slice none 0 0), cI 0, cB false, cI 0, cI 0, cB false]) 2 rfl rfl rfl rfl rfl) (s_st [_, _, _, _, _, _] ?_)
      refine s_sa ?_
      refine aops_nil (aw_seq (aw_seq (aw_region (s_mv ?_))))
      refine s_cm ?_
      refine aops_nil ?_
      refine aw_cond rfl (fun c140 => ?_) (fun c140 => ?_)
      · replace j133 := Md.cond_t j133 c140
        refine aw_seq (aw_region (s_sa ?_))
        refine aops_nil ?_
        cases Option.some.inj j133
        replace l123 := Md.onS_r l123
        cases Option.some.inj l123
        replace j8 := Md.onS_r j8
        cases Option.some.inj j8
        replace l6 := Md.onS_r l6
        cases Option.some.inj l6
        replace h := Md.onS_r h
        cases Option.some.inj h
        exact aw_ret ⟨rfl, rv r1⟩
      replace j133 := Md.cond_f j133 c140
      refine aw_skip (aw_region (s_mv ?_))
      refine s_ls [_, _, _, _, _, _] ?_
      refine s_fd ?_
      obtain ⟨g141, j133⟩ := Md.ifp_s j133
      refine aops_step1 rfl (ev_index_arr (j := 1) rfl rfl g141 rfl rfl) (s_st [_, _, _, _, _, _, _, _, _, _, _, _, _, _, _, _] ?_)
      refine aops_nil ?_
      show ∃ _x : Store, _ = _ ∧ Weak _ _
      exact ⟨(⟨(⟨s123_1.Disks.x0, x139.1⟩ : Arr2Disk), s123_1.Current, s123_1.Number, s123_1.Base, s123_1.Count⟩ : Store), Option.some.inj j133, wk⟩
    replace l123 := Md.cond_f l123 c132
    refine aw_exit ?_
    show ∃ _x : Store, _ = _ ∧ Weak _ _
    exact ⟨s123_1, Option.some.inj l123, wk⟩
  replace l6 := Md.cond_f l6 c7
  refine aw_exit ?_
  show ∃ _x : Unit, _ = _ ∧ Weak _ _
  exact ⟨(), Option.some.inj l6, wk⟩
end Md
end Go.Proofs.Ytkcfkcgclljncaa
