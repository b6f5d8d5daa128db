/-
  StorT: where a function's model gives a value, the function returns what reads as it (printed by wip/tools/auto.py). Condition of each: the model gives a value.
-/
import Derived.Test.YtkcfkcgclljncaaStorTM
import Derived.Test.YtkcfkcgclljncaaTy
import Derived.Test.YtkcfkcgclljncaaAbsS
import Derived.Test.YtkcfkcgclljncaaStorK
namespace Go.Proofs.Ytkcfkcgclljncaa
open Go.ChangeShapes Go.WideShapes Go.RowKit
open Abs
set_option linter.unusedVariables false
set_option linter.unusedSimpArgs false
set_option maxRecDepth 10000
namespace Md
set_option maxHeartbeats 2000000 in
theorem actorgridlaw28_StoreCompacts_fn (k : Nat) (a0 : List (List UInt8)) (a1 : List (List UInt8)) (a2 : List UInt8) (r : Bool) (h : actorgridlaw28_StoreCompacts k a0 a1 a2 = some r) : FnC Try.prog 12 [.one (CV.ls c_LU8 a0), .one (CV.ls c_LU8 a1), .one (CV.ls byC a2)] [] (Det (vB r) []) := by
  unfold actorgridlaw28_StoreCompacts at h
  refine fn_intro' 147 Try.func12 rfl rfl rfl (aw_seq (aw_region (s_sa ?_)))
  refine aops_nil (aw_seq (aw_seq (aw_region ?_)))
  obtain ⟨x1, hx1, h⟩ := Md.bind_s h
  refine aops_step1 rfl (ev_call_v (actorgridlaw28_awake_fn k x1 hx1) rfl [] ai rfl rfl rfl (.inl rfl) rfl) (s_nt ?_)
  refine aops_nil ?_
  refine aw_cond rfl (fun c2 => ?_) (fun c2 => ?_)
  · replace h := Md.cond_t h c2
    refine aw_seq (aw_region (s_sa ?_))
    refine aops_nil ?_
    cases Option.some.inj h
    exact aw_ret ⟨rfl, rv r1⟩
  replace h := Md.cond_f h c2
  refine aw_skip (aw_seq (aw_seq (aw_region (s_mv ?_))))
  refine s_ln ?_
  refine s_cm ?_
  refine s_mv ?_
  refine aops_mid 4 (⟨147, [], [(0, .one (CV.ls c_LU8 a0)), (1, .one (CV.ls c_LU8 a1)), (2, .one (CV.ls byC a2)), (23, vB ((decide (((a0.length : Nat) : Int) > 30)) || (decide (((a1.length : Nat) : Int) > 30))))], []⟩ : ASt) ?_ ?_
  · rcases Md.bool_or ((decide (((a0.length : Nat) : Int) > 30))) with q3 | q3
    · skip
      iterate 3 refine np q3 ?_
      refine s_py q3 ?_
      refine aops_nil ?_
      exact wq q3
    refine y_mv q3 ?_
    refine y_ln q3 ?_
    refine y_cm q3 ?_
    refine s_pn q3 ?_
    refine aops_nil ?_
    exact wq q3
  refine s_mv ?_
  refine aops_mid 4 (⟨147, [], [(0, .one (CV.ls c_LU8 a0)), (1, .one (CV.ls c_LU8 a1)), (2, .one (CV.ls byC a2)), (28, vB (((decide (((a0.length : Nat) : Int) > 30)) || (decide (((a1.length : Nat) : Int) > 30))) || (decide (((a2.length : Nat) : Int) > 2000))))], []⟩ : ASt) ?_ ?_
  · rcases Md.bool_or (((decide (((a0.length : Nat) : Int) > 30)) || (decide (((a1.length : Nat) : Int) > 30)))) with q4 | q4
    · skip
      iterate 3 refine np q4 ?_
      refine s_py q4 ?_
      refine aops_nil ?_
      exact wq q4
    refine y_mv q4 ?_
    refine y_ln q4 ?_
    refine y_cm q4 ?_
    refine s_pn q4 ?_
    refine aops_nil ?_
    exact wq q4
  refine aops_nil ?_
  refine aw_cond rfl (fun c5 => ?_) (fun c5 => ?_)
  · replace h := Md.cond_t h c5
    refine aw_seq (aw_region (s_sa ?_))
    refine aops_nil ?_
    cases Option.some.inj h
    exact aw_ret ⟨rfl, rv r1⟩
  replace h := Md.cond_f h c5
  refine aw_skip (aw_seq (aw_region ?_))
  obtain ⟨x6, hx6, h⟩ := Md.bind_s h
  refine aops_step1 rfl (ev_call_v (store_New_fn k 1048576 x6 hx6) rfl [] ai rfl rfl rfl (.inl rfl) rfl) (s_mt ?_)
  iterate 2 refine s_ex ?_
  refine aops_step1 rfl (st_alloc (cs := [.val (.slice none 0 0), cI 0, cB false, cI 0, cI 0, cB false, .val (.slice none 0 0), cI 0, cB false, cI 0, cI 0, cB false, cI 0, cI 0, cI 0, cI 0]) 0 rfl rfl rfl rfl rfl) (s_st [_, _, _, _, _, _, _, _, _, _, _, _, _, _, _, _] ?_)
  refine s_sa ?_
  refine aops_nil (aw_seq (aw_seq (aw_region (s_sa ?_))))
  refine aops_nil (aw_block ?_)
  obtain ⟨o7, ho7, h⟩ := Md.bind_s h
  refine aw_loop_x (ι := {p : Nat × Int × Nat × Store // actorgridlaw28_StoreCompacts_loop1 k a0 p.1 p.2.1 p.2.2.1 p.2.2.2 = some o7}) (fun p => (⟨147, [], [(0, .one (CV.ls c_LU8 a0)), (1, .one (CV.ls c_LU8 a1)), (2, .one (CV.ls byC a2)), (7, .one (.ptr 0 0)), (8, vI p.1.2.1), (9, vI ((p.1.2.2.1 : Nat) : Int))], [(0, some (.box (c_Store p.1.2.2.2)))]⟩ : ASt)) (fun p => p.1.1) ⟨(k, x6.2, 0, x6.1), ho7⟩ wk 0 (ε := (Int × Store)) (fun x => (⟨147, [], [(0, .one (CV.ls c_LU8 a0)), (1, .one (CV.ls c_LU8 a1)), (2, .one (CV.ls byC a2)), (7, .one (.ptr 0 0)), (8, vI x.1)], [(0, some (.box (c_Store x.2)))]⟩ : ASt)) (fun x => Sum.inl x = o7) (fun _ _ w h => aw_weak w h) ?_ ?_
  · intro x7_0 hI7
    subst hI7
    replace h := Md.onS_l h
    change AW _ _ (⟨147, [], [(0, .one (CV.ls c_LU8 a0)), (1, .one (CV.ls c_LU8 a1)), (2, .one (CV.ls byC a2)), (7, .one (.ptr 0 0)), (8, vI x7_0.1)], [(0, some (.box (c_Store x7_0.2)))]⟩ : ASt) _
    refine aw_seq (aw_seq (aw_region (s_mv ?_)))
    refine s_cm ?_
    refine aops_nil ?_
    refine aw_cond rfl (fun c8 => ?_) (fun c8 => ?_)
    · replace h := Md.cond_t h c8
      refine aw_seq (aw_region (s_sa ?_))
      refine aops_nil ?_
      cases Option.some.inj h
      exact aw_ret ⟨rfl, rv r1⟩
    replace h := Md.cond_f h c8
    refine aw_skip (aw_seq (aw_region (s_ls [_, _, _, _, _, _, _, _, _, _, _, _, _, _, _, _] ?_)))
    refine s_mv ?_
    obtain ⟨x9, hx9, h⟩ := Md.bind_s h
    refine aops_step1 rfl (ev_call_v (store_Checkpoint_fn k x7_0.2 a2 x9 hx9) rfl [] ai rfl rfl rfl (.inl rfl) rfl) (s_mt ?_)
    iterate 2 refine s_ex ?_
    refine s_st [_, _, _, _, _, _, _, _, _, _, _, _, _, _, _, _] ?_
    refine s_sa ?_
    refine aops_nil (aw_seq (aw_seq (aw_region (s_sa ?_))))
    refine aops_nil (aw_block ?_)
    obtain ⟨o10, ho10, h⟩ := Md.bind_s h
    refine aw_loop_x (ι := {p : Nat × Int × Nat × Store // actorgridlaw28_StoreCompacts_loop2 k a1 p.1 p.2.1 p.2.2.1 p.2.2.2 = some o10}) (fun p => (⟨147, [], [(0, .one (CV.ls c_LU8 a0)), (1, .one (CV.ls c_LU8 a1)), (2, .one (CV.ls byC a2)), (7, .one (.ptr 0 0)), (8, vI p.1.2.1), (10, vI ((p.1.2.2.1 : Nat) : Int))], [(0, some (.box (c_Store p.1.2.2.2)))]⟩ : ASt)) (fun p => p.1.1) ⟨(k, x9.2, 0, x9.1), ho10⟩ wk 2 (ε := (Int × Store)) (fun x => (⟨147, [], [(0, .one (CV.ls c_LU8 a0)), (1, .one (CV.ls c_LU8 a1)), (2, .one (CV.ls byC a2)), (7, .one (.ptr 0 0)), (8, vI x.1)], [(0, some (.box (c_Store x.2)))]⟩ : ASt)) (fun x => Sum.inl x = o10) (fun _ _ w h => aw_weak w h) ?_ ?_
    · intro x10_0 hI10
      subst hI10
      replace h := Md.onS_l h
      change AW _ _ (⟨147, [], [(0, .one (CV.ls c_LU8 a0)), (1, .one (CV.ls c_LU8 a1)), (2, .one (CV.ls byC a2)), (7, .one (.ptr 0 0)), (8, vI x10_0.1)], [(0, some (.box (c_Store x10_0.2)))]⟩ : ASt) _
      refine aw_seq (aw_seq (aw_region (s_mv ?_)))
      refine s_cm ?_
      refine aops_nil ?_
      refine aw_cond rfl (fun c11 => ?_) (fun c11 => ?_)
      · replace h := Md.cond_t h c11
        refine aw_seq (aw_region (s_sa ?_))
        refine aops_nil ?_
        cases Option.some.inj h
        exact aw_ret ⟨rfl, rv r1⟩
      replace h := Md.cond_f h c11
      refine aw_skip (aw_seq (aw_region (s_fd ?_)))
      refine aops_step1 rfl (ev_index_arr rfl rfl rfl rfl rfl) (s_ls [_, _, _, _, _, _] ?_)
      refine s_fd ?_
      refine aops_step1 rfl (ev_index_arr rfl rfl rfl rfl rfl) (s_ls [_, _, _, _, _, _] ?_)
      obtain ⟨x12, hx12, h⟩ := Md.bind_s h
      refine aops_step1 rfl (ev_call_v (store_Recover_fn k x10_0.2.Disks.x0 x10_0.2.Disks.x1 x12 hx12) rfl [] ai rfl rfl rfl (.inl rfl) rfl) (s_mt ?_)
      iterate 3 refine s_ex ?_
      refine aops_step1 rfl (st_alloc (cs := [.val (.slice none 0 0), cI 0, cB false, cI 0, cI 0, cB false, .val (.slice none 0 0), cI 0, cB false, cI 0, cI 0, cB false, cI 0, cI 0, cI 0, cI 0]) 1 rfl rfl rfl rfl rfl) ?_
      refine aops_step1 rfl (st_alloc (cs := [cI 0, .val (.slice none 0 0), .val (.slice none 0 0)]) 2 rfl rfl rfl rfl rfl) (s_st [_, _, _, _, _, _, _, _, _, _, _, _, _, _, _, _] ?_)
      refine s_st [_, _, _] ?_
      refine s_sa ?_
      refine aops_nil (aw_seq (aw_seq (aw_region (s_mv ?_))))
      refine s_cm ?_
      refine s_mv ?_
      refine aops_mid 6 (⟨147, [], [(1, .one (CV.ls c_LU8 a1)), (2, .one (CV.ls byC a2)), (12, .one (.ptr 2 0)), (112, vB ((x12.2.2 != 0) || (x12.2.1.Base != ((a0.length : Nat) : Int))))], [(2, some (.box (c_StoreContents x12.2.1)))]⟩ : ASt) ?_ ?_
      · rcases Md.bool_or ((x12.2.2 != 0)) with q13 | q13
        · skip
          iterate 5 refine np q13 ?_
          refine s_py q13 ?_
          refine aops_nil ?_
          exact wq q13
        refine y_fd q13 ?_
        refine y_ld q13 ?_
        refine y_mv q13 ?_
        refine y_ln q13 ?_
        refine y_cm q13 ?_
        refine s_pn q13 ?_
        refine aops_nil ?_
        exact wq q13
      refine s_mv ?_
      refine aops_mid 7 (⟨147, [], [(1, .one (CV.ls c_LU8 a1)), (12, .one (.ptr 2 0)), (120, vB (((x12.2.2 != 0) || (x12.2.1.Base != ((a0.length : Nat) : Int))) || (!(decide (x12.2.1.State = a2)))))], [(2, some (.box (c_StoreContents x12.2.1)))]⟩ : ASt) ?_ ?_
      · rcases Md.bool_or (((x12.2.2 != 0) || (x12.2.1.Base != ((a0.length : Nat) : Int)))) with q14 | q14
        · skip
          iterate 6 refine np q14 ?_
          refine s_py q14 ?_
          refine aops_nil ?_
          exact wq q14
        refine y_fd q14 ?_
        refine y_ld q14 ?_
        refine aops_yes rfl rfl rfl rfl q14 (ev_str_bytes (.inl rfl) Try.underlying24 Try.underlying5 Try.underlying9 rfl) (y_mv q14 ?_)
        refine aops_yes rfl rfl rfl rfl q14 (ev_str_bytes (.inl rfl) Try.underlying24 Try.underlying5 Try.underlying9 rfl) ?_
        refine aops_yes rfl rfl rfl rfl q14 (st_str_ne rfl rfl rfl) (s_pn q14 ?_)
        refine aops_nil ?_
        exact wq q14
      refine s_mv ?_
      refine aops_mid 7 (⟨147, [], [(1, .one (CV.ls c_LU8 a1)), (12, .one (.ptr 2 0)), (128, vB ((((x12.2.2 != 0) || (x12.2.1.Base != ((a0.length : Nat) : Int))) || (!(decide (x12.2.1.State = a2)))) || (((x12.2.1.Entries.length : Nat) : Int) != ((a1.length : Nat) : Int))))], [(2, some (.box (c_StoreContents x12.2.1)))]⟩ : ASt) ?_ ?_
      · rcases Md.bool_or ((((x12.2.2 != 0) || (x12.2.1.Base != ((a0.length : Nat) : Int))) || (!(decide (x12.2.1.State = a2))))) with q15 | q15
        · skip
          iterate 6 refine np q15 ?_
          refine s_py q15 ?_
          refine aops_nil ?_
          exact wq q15
        refine y_fd q15 ?_
        refine y_ld q15 ?_
        refine y_ln q15 ?_
        refine y_mv q15 ?_
        refine y_ln q15 ?_
        refine y_cm q15 ?_
        refine s_pn q15 ?_
        refine aops_nil ?_
        exact wq q15
      refine aops_nil ?_
      refine aw_cond rfl (fun c16 => ?_) (fun c16 => ?_)
      · replace h := Md.cond_t h c16
        refine aw_seq (aw_region (s_sa ?_))
        refine aops_nil ?_
        cases Option.some.inj h
        exact aw_ret ⟨rfl, rv r1⟩
      replace h := Md.cond_f h c16
      refine aw_skip (aw_seq (aw_seq (aw_region (s_sa ?_))))
      refine aops_nil (aw_block ?_)
      obtain ⟨o17, ho17, h⟩ := Md.bind_s h
      refine aw_loop_x (ι := {p : Nat × Nat // actorgridlaw28_StoreCompacts_loop3 k a1 x12 p.1 p.2 = some o17}) (fun p => (⟨147, [], [(1, .one (CV.ls c_LU8 a1)), (12, .one (.ptr 2 0)), (13, vI ((p.1.2 : Nat) : Int))], [(2, some (.box (c_StoreContents x12.2.1)))]⟩ : ASt)) (fun p => p.1.1) ⟨(k, 0), ho17⟩ wk 4 (ε := Unit) (fun x => (⟨147, [], [], []⟩ : ASt)) (fun x => Sum.inl x = o17) (fun _ _ w h => aw_weak w h) ?_ ?_
      · intro x17_0 hI17
        subst hI17
        replace h := Md.onS_l h
        change AW _ _ (⟨147, [], [], []⟩ : ASt) _
        refine aw_seq (aw_region (s_sa ?_))
        refine aops_nil ?_
        cases Option.some.inj h
        exact aw_ret ⟨rfl, rv r1⟩
      intro p17
      obtain ⟨⟨n17, s17_0⟩, l17⟩ := p17
      change AW _ _ (⟨147, [], [(1, .one (CV.ls c_LU8 a1)), (12, .one (.ptr 2 0)), (13, vI ((s17_0 : Nat) : Int))], [(2, some (.box (c_StoreContents x12.2.1)))]⟩ : ASt) _
      replace l17 : actorgridlaw28_StoreCompacts_loop3 k a1 x12 n17 s17_0 = some o17 := l17
      rcases n17 with _ | n17
      · exact absurd (show none = some o17 from l17) nofun
      rw [actorgridlaw28_StoreCompacts_loop3] at l17
      refine aw_seq (aw_seq (aw_region ?_))
      iterate 2 refine s_mv ?_
      refine s_ln ?_
      refine s_cm ?_
      refine aops_nil ?_
      refine aw_cond rfl (fun c18 => ?_) (fun c18 => ?_)
      · replace l17 := Md.cond_t l17 c18
        refine aw_skip (aw_seq (aw_block ?_))
        obtain ⟨g19, l17⟩ := Md.ifp_s l17
        obtain ⟨g20, l17⟩ := Md.ifp_s l17
        refine aw_seq ?_
        apply aw_draw 11 ((⟨[], .one (.ptr 2 _)⟩ : Add) :: ⟨[], .one (CV.ls c_LU8 x12.2.1.Entries)⟩ :: ⟨[], vI ((s17_0 : Nat) : Int)⟩ :: ⟨[], .one (.cptr _)⟩ :: ⟨[], .one (CV.ls byC (x12.2.1.Entries.getD s17_0 default))⟩ :: ⟨[], .one (.val (Sv (x12.2.1.Entries.getD s17_0 default)))⟩ :: ⟨[], .one (CV.ls c_LU8 a1)⟩ :: ⟨[], vI ((s17_0 : Nat) : Int)⟩ :: ⟨[], .one (.cptr _)⟩ :: ⟨[], .one (CV.ls byC (a1.getD s17_0 default))⟩ :: ⟨[], .one (.val (Sv (a1.getD s17_0 default)))⟩ :: []) (by decide) rfl ?hk14x ?hf14x ?ho14x ?hr14x
        case ho14x =>
         refine ob [] (fun S hle hfr => .inl ⟨w0, ev_field (hle.e rfl) rfl (hle.d rfl)⟩) ?_
         refine ob [0] (fun S hle hfr => .inl ⟨w0, ev_load (hle.e rfl) (hle.heap _ _ rfl) rfl (hle.d rfl)⟩) ?_
         refine ob [] (fun S hle hfr => .inl ⟨w0, st_move (hle.e rfl) (hle.d rfl)⟩) ?_
         refine ob [1, 2, 0] (fun S hle hfr => .inl ⟨w0, ev_index_in (hle.e rfl) (hle.e rfl) rfl g19 rfl (hle.d rfl)⟩) ?_
         refine ob [3, 1, 2, 0] (fun S hle hfr => .inl ⟨w0, ev_load_in (hle.e rfl) rfl (hle.d rfl)⟩) ?_
         refine ob [4, 3, 1, 2, 0] (fun S hle hfr => .inl ⟨w0, ev_str_bytes (.inl (hle.e rfl)) Try.underlying24 Try.underlying5 Try.underlying9 (hle.d rfl)⟩) ?_
         refine ob [] (fun S hle hfr => .inl ⟨w0, st_move (hle.e rfl) (hle.d rfl)⟩) (ob [] (fun S hle hfr => .inl ⟨w0, st_move (hle.e rfl) (hle.d rfl)⟩) ?_)
         refine ob [6, 7] (fun S hle hfr => .inl ⟨w0, ev_index_in (hle.e rfl) (hle.e rfl) rfl g20 rfl (hle.d rfl)⟩) ?_
         refine ob [8, 6, 7] (fun S hle hfr => .inl ⟨w0, ev_load_in (hle.e rfl) rfl (hle.d rfl)⟩) ?_
         refine ob [9, 8, 6, 7] (fun S hle hfr => .inl ⟨w0, ev_str_bytes (.inl (hle.e rfl)) Try.underlying24 Try.underlying5 Try.underlying9 (hle.d rfl)⟩) ?_
         exact trivial
        case hk14x => rfl
        case hf14x => rfl
        refine aops_step1 rfl (st_str_ne rfl rfl rfl) (aops_nil ?_)
        refine aw_cond rfl (fun c21 => ?_) (fun c21 => ?_)
        · replace l17 := Md.cond_t l17 c21
          refine aw_seq (aw_region (s_sa ?_))
          refine aops_nil ?_
          cases Option.some.inj l17
          replace h := Md.onS_r h
          cases Option.some.inj h
          exact aw_ret ⟨rfl, rv r1⟩
        replace l17 := Md.cond_f l17 c21
        refine aw_skip (aw_region (s_mv ?_))
        obtain ⟨g22, l17⟩ := Md.ifp_s l17
        refine aops_step1 rfl (ev_add rfl rfl rfl (Md.nat_add g22)) (s_sa ?_)
        refine aops_nil ?_
        exact ⟨⟨(n17, (s17_0 + 1)), l17⟩, Nat.lt_succ_self _, wk⟩
      replace l17 := Md.cond_f l17 c18
      refine aw_exit ?_
      show ∃ _x : Unit, _ = _ ∧ Weak _ _
      exact ⟨(), Option.some.inj l17, wk⟩
    intro p10
    obtain ⟨⟨n10, s10_0, s10_1, s10_2⟩, l10⟩ := p10
    change AW _ _ (⟨147, [], [(0, .one (CV.ls c_LU8 a0)), (1, .one (CV.ls c_LU8 a1)), (2, .one (CV.ls byC a2)), (7, .one (.ptr 0 0)), (8, vI s10_0), (10, vI ((s10_1 : Nat) : Int))], [(0, some (.box (c_Store s10_2)))]⟩ : ASt) _
    replace l10 : actorgridlaw28_StoreCompacts_loop2 k a1 n10 s10_0 s10_1 s10_2 = some o10 := l10
    rcases n10 with _ | n10
    · exact absurd (show none = some o10 from l10) nofun
    rw [actorgridlaw28_StoreCompacts_loop2] at l10
    refine aw_seq (aw_seq (aw_region ?_))
    iterate 2 refine s_mv ?_
    refine s_ln ?_
    refine s_cm ?_
    refine s_mv ?_
    refine aops_mid 3 (⟨147, [], [(0, .one (CV.ls c_LU8 a0)), (1, .one (CV.ls c_LU8 a1)), (2, .one (CV.ls byC a2)), (7, .one (.ptr 0 0)), (8, vI s10_0), (10, vI ((s10_1 : Nat) : Int)), (73, vB ((decide (((s10_1 : Nat) : Int) < ((a1.length : Nat) : Int))) && (s10_0 == 0)))], [(0, some (.box (c_Store s10_2)))]⟩ : ASt) ?_ ?_
    · rcases Md.bool_or ((decide (((s10_1 : Nat) : Int) < ((a1.length : Nat) : Int)))) with q23 | q23
      · skip
        refine y_mv q23 ?_
        refine y_cm q23 ?_
        refine s_py q23 ?_
        refine aops_nil ?_
        exact wq q23
      iterate 2 refine np q23 ?_
      refine s_pn q23 ?_
      refine aops_nil ?_
      exact wq q23
    refine aops_nil ?_
    refine aw_cond rfl (fun c24 => ?_) (fun c24 => ?_)
    · replace l10 := Md.cond_t l10 c24
      refine aw_skip ?_
      obtain ⟨o25, j25, l10⟩ := Md.bind_s l10
      refine aw_cut (ε := (Int × Store)) (fun x => (⟨147, [], [(0, .one (CV.ls c_LU8 a0)), (1, .one (CV.ls c_LU8 a1)), (2, .one (CV.ls byC a2)), (7, .one (.ptr 0 0)), (8, vI x.1), (10, vI ((s10_1 : Nat) : Int))], [(0, some (.box (c_Store x.2)))]⟩ : ASt)) (fun x => Sum.inl x = o25) ?_ ?_
      · intro x25_0 hI25
        subst hI25
        replace l10 := Md.onS_l l10
        change AW _ _ (⟨147, [], [(0, .one (CV.ls c_LU8 a0)), (1, .one (CV.ls c_LU8 a1)), (2, .one (CV.ls byC a2)), (7, .one (.ptr 0 0)), (8, vI x25_0.1), (10, vI ((s10_1 : Nat) : Int))], [(0, some (.box (c_Store x25_0.2)))]⟩ : ASt) _
        refine aw_region (s_mv ?_)
        obtain ⟨g26, l10⟩ := Md.ifp_s l10
        refine aops_step1 rfl (ev_add rfl rfl rfl (Md.nat_add g26)) (s_sa ?_)
        refine aops_nil ?_
        exact ⟨⟨(n10, x25_0.1, (s10_1 + 1), x25_0.2), l10⟩, Nat.lt_succ_self _, wk⟩
      refine aw_block (aw_seq (aw_seq (aw_region ?_)))
      iterate 2 refine s_mv ?_
      obtain ⟨g27, j25⟩ := Md.ifp_s j25
      refine aops_step1 rfl (ev_index_in rfl rfl rfl g27 rfl rfl) (aops_step1 rfl (ev_load_in rfl rfl rfl) (s_ln ?_))
      refine s_cm ?_
      refine aops_nil ?_
      refine aw_cond rfl (fun c28 => ?_) (fun c28 => ?_)
      · replace j25 := Md.cond_t j25 c28
        refine aw_seq (aw_region (s_sa ?_))
        refine aops_nil ?_
        cases Option.some.inj j25
        replace l10 := Md.onS_r l10
        cases Option.some.inj l10
        replace h := Md.onS_r h
        cases Option.some.inj h
        exact aw_ret ⟨rfl, rv r1⟩
      replace j25 := Md.cond_f j25 c28
      refine aw_skip ?_
      obtain ⟨g29, j25⟩ := Md.ifp_s j25
      obtain ⟨x30, hx30, j25⟩ := Md.bind_s j25
      apply aw_late 9 8 ((⟨[], .agg (c_Store s10_2)⟩ : Add) :: ⟨[], .one (CV.ls c_LU8 a1)⟩ :: ⟨[], vI ((s10_1 : Nat) : Int)⟩ :: ⟨[], .one (.cptr _)⟩ :: ⟨[], .one (CV.ls byC (a1.getD s10_1 default))⟩ :: ⟨[], .tup [.agg (c_Store x30.1), vI x30.2]⟩ :: ⟨[], .tup [.agg (c_Store x30.1), vI x30.2]⟩ :: ⟨[], .agg (c_Store x30.1)⟩ :: ⟨[], vI x30.2⟩ :: []) (by decide) (by decide) rfl rfl rfl ?hk16x ?hf16x ?ho16x ?hr16x ?hl16x
      case ho16x =>
       refine ob [] (fun S hle hfr => .inl ⟨w0, ev_loads (ds := [_, _, _, _, _, _, _, _, _, _, _, _, _, _, _, _]) (hle.e rfl) (hle.heap _ _ rfl) rfl rfl (hle.d rfl)⟩) ?_
       refine ob [] (fun S hle hfr => .inl ⟨w0, st_move (hle.e rfl) (hle.d rfl)⟩) (ob [] (fun S hle hfr => .inl ⟨w0, st_move (hle.e rfl) (hle.d rfl)⟩) ?_)
       refine ob [1, 2] (fun S hle hfr => .inl ⟨w0, ev_index_in (hle.e rfl) (hle.e rfl) rfl g29 rfl (hle.d rfl)⟩) ?_
       refine ob [3, 1, 2] (fun S hle hfr => .inl ⟨w0, ev_load_in (hle.e rfl) rfl (hle.d rfl)⟩) ?_
       refine ob [0, 4, 3, 1, 2] (fun S hle hfr => .inl ⟨w0, ev_call_v (store_Put_fn k s10_2 (a1.getD s10_1 default) x30 hx30) (map_ev (.cons (hle.e rfl) (.cons (hle.e rfl) (.nil)))) [] (by repeat' (first | exact .nil | refine .cons ?_ ?_ | refine .one ?_ | refine .agg ?_ | exact .mk rfl | exact .lend (hle.heap _ _ rfl) (by simp) | exact .le (.nil _) rfl | exact .le (.emp _) rfl | exact .le (.any _) rfl | fail)) rfl rfl rfl (.inl rfl) (hle.d rfl)⟩) ?_
       refine ob [5, 0, 4, 3, 1, 2] (fun S hle hfr => .inl ⟨w0, st_movet (hle.e rfl) (hle.d rfl)⟩) ?_
       refine ob [6, 5, 0, 4, 3, 1, 2] (fun S hle hfr => .inl ⟨w0, ev_extract (hle.e rfl) rfl (hle.d rfl)⟩) ?_
       refine ob [6, 5, 0, 4, 3, 1, 2] (fun S hle hfr => .inl ⟨w0, ev_extract (hle.e rfl) rfl (hle.d rfl)⟩) ?_
       exact trivial
      case hk16x => rfl
      case hf16x => rfl
      case hr16x =>
       refine s_st [_, _, _, _, _, _, _, _, _, _, _, _, _, _, _, _] ?_
       refine s_sa ?_
       refine aops_nil ?_
       show ∃ _x : Int × Store, _ = _ ∧ Weak _ _
       exact ⟨(x30.2, x30.1), Option.some.inj j25, wk⟩
      case hl16x =>
       refine s_st [_, _, _, _, _, _, _, _, _, _, _, _, _, _, _, _] ?_
       refine s_ex ?_
       refine s_sa ?_
       refine aops_nil ?_
       show ∃ _x : Int × Store, _ = _ ∧ Weak _ _
       exact ⟨(x30.2, x30.1), Option.some.inj j25, wk⟩
    replace l10 := Md.cond_f l10 c24
    refine aw_exit ?_
    show ∃ _x : Int × Store, _ = _ ∧ Weak _ _
    exact ⟨(s10_0, s10_2), Option.some.inj l10, wk⟩
  intro p7
  obtain ⟨⟨n7, s7_0, s7_1, s7_2⟩, l7⟩ := p7
  change AW _ _ (⟨147, [], [(0, .one (CV.ls c_LU8 a0)), (1, .one (CV.ls c_LU8 a1)), (2, .one (CV.ls byC a2)), (7, .one (.ptr 0 0)), (8, vI s7_0), (9, vI ((s7_1 : Nat) : Int))], [(0, some (.box (c_Store s7_2)))]⟩ : ASt) _
  replace l7 : actorgridlaw28_StoreCompacts_loop1 k a0 n7 s7_0 s7_1 s7_2 = some o7 := l7
  rcases n7 with _ | n7
  · exact absurd (show none = some o7 from l7) nofun
  rw [actorgridlaw28_StoreCompacts_loop1] at l7
  refine aw_seq (aw_seq (aw_region ?_))
  iterate 2 refine s_mv ?_
  refine s_ln ?_
  refine s_cm ?_
  refine s_mv ?_
  refine aops_mid 3 (⟨147, [], [(0, .one (CV.ls c_LU8 a0)), (1, .one (CV.ls c_LU8 a1)), (2, .one (CV.ls byC a2)), (7, .one (.ptr 0 0)), (8, vI s7_0), (9, vI ((s7_1 : Nat) : Int)), (40, vB ((decide (((s7_1 : Nat) : Int) < ((a0.length : Nat) : Int))) && (s7_0 == 0)))], [(0, some (.box (c_Store s7_2)))]⟩ : ASt) ?_ ?_
  · rcases Md.bool_or ((decide (((s7_1 : Nat) : Int) < ((a0.length : Nat) : Int)))) with q31 | q31
    · skip
      refine y_mv q31 ?_
      refine y_cm q31 ?_
      refine s_py q31 ?_
      refine aops_nil ?_
      exact wq q31
    iterate 2 refine np q31 ?_
    refine s_pn q31 ?_
    refine aops_nil ?_
    exact wq q31
  refine aops_nil ?_
  refine aw_cond rfl (fun c32 => ?_) (fun c32 => ?_)
  · replace l7 := Md.cond_t l7 c32
    refine aw_skip ?_
    obtain ⟨o33, j33, l7⟩ := Md.bind_s l7
    refine aw_cut (ε := (Int × Store)) (fun x => (⟨147, [], [(0, .one (CV.ls c_LU8 a0)), (1, .one (CV.ls c_LU8 a1)), (2, .one (CV.ls byC a2)), (7, .one (.ptr 0 0)), (8, vI x.1), (9, vI ((s7_1 : Nat) : Int))], [(0, some (.box (c_Store x.2)))]⟩ : ASt)) (fun x => Sum.inl x = o33) ?_ ?_
    · intro x33_0 hI33
      subst hI33
      replace l7 := Md.onS_l l7
      change AW _ _ (⟨147, [], [(0, .one (CV.ls c_LU8 a0)), (1, .one (CV.ls c_LU8 a1)), (2, .one (CV.ls byC a2)), (7, .one (.ptr 0 0)), (8, vI x33_0.1), (9, vI ((s7_1 : Nat) : Int))], [(0, some (.box (c_Store x33_0.2)))]⟩ : ASt) _
      refine aw_region (s_mv ?_)
      obtain ⟨g34, l7⟩ := Md.ifp_s l7
      refine aops_step1 rfl (ev_add rfl rfl rfl (Md.nat_add g34)) (s_sa ?_)
      refine aops_nil ?_
      exact ⟨⟨(n7, x33_0.1, (s7_1 + 1), x33_0.2), l7⟩, Nat.lt_succ_self _, wk⟩
    refine aw_block (aw_seq (aw_seq (aw_region ?_)))
    iterate 2 refine s_mv ?_
    obtain ⟨g35, j33⟩ := Md.ifp_s j33
    refine aops_step1 rfl (ev_index_in rfl rfl rfl g35 rfl rfl) (aops_step1 rfl (ev_load_in rfl rfl rfl) (s_ln ?_))
    refine s_cm ?_
    refine aops_nil ?_
    refine aw_cond rfl (fun c36 => ?_) (fun c36 => ?_)
    · replace j33 := Md.cond_t j33 c36
      refine aw_seq (aw_region (s_sa ?_))
      refine aops_nil ?_
      cases Option.some.inj j33
      replace l7 := Md.onS_r l7
      cases Option.some.inj l7
      replace h := Md.onS_r h
      cases Option.some.inj h
      exact aw_ret ⟨rfl, rv r1⟩
    replace j33 := Md.cond_f j33 c36
    refine aw_skip ?_
    obtain ⟨g37, j33⟩ := Md.ifp_s j33
    obtain ⟨x38, hx38, j33⟩ := Md.bind_s j33
    apply aw_late 9 8 ((⟨[], .agg (c_Store s7_2)⟩ : Add) :: ⟨[], .one (CV.ls c_LU8 a0)⟩ :: ⟨[], vI ((s7_1 : Nat) : Int)⟩ :: ⟨[], .one (.cptr _)⟩ :: ⟨[], .one (CV.ls byC (a0.getD s7_1 default))⟩ :: ⟨[], .tup [.agg (c_Store x38.1), vI x38.2]⟩ :: ⟨[], .tup [.agg (c_Store x38.1), vI x38.2]⟩ :: ⟨[], .agg (c_Store x38.1)⟩ :: ⟨[], vI x38.2⟩ :: []) (by decide) (by decide) rfl rfl rfl ?hk18x ?hf18x ?ho18x ?hr18x ?hl18x
    case ho18x =>
     refine ob [] (fun S hle hfr => .inl ⟨w0, ev_loads (ds := [_, _, _, _, _, _, _, _, _, _, _, _, _, _, _, _]) (hle.e rfl) (hle.heap _ _ rfl) rfl rfl (hle.d rfl)⟩) ?_
     refine ob [] (fun S hle hfr => .inl ⟨w0, st_move (hle.e rfl) (hle.d rfl)⟩) (ob [] (fun S hle hfr => .inl ⟨w0, st_move (hle.e rfl) (hle.d rfl)⟩) ?_)
     refine ob [1, 2] (fun S hle hfr => .inl ⟨w0, ev_index_in (hle.e rfl) (hle.e rfl) rfl g37 rfl (hle.d rfl)⟩) ?_
     refine ob [3, 1, 2] (fun S hle hfr => .inl ⟨w0, ev_load_in (hle.e rfl) rfl (hle.d rfl)⟩) ?_
     refine ob [0, 4, 3, 1, 2] (fun S hle hfr => .inl ⟨w0, ev_call_v (store_Put_fn k s7_2 (a0.getD s7_1 default) x38 hx38) (map_ev (.cons (hle.e rfl) (.cons (hle.e rfl) (.nil)))) [] (by repeat' (first | exact .nil | refine .cons ?_ ?_ | refine .one ?_ | refine .agg ?_ | exact .mk rfl | exact .lend (hle.heap _ _ rfl) (by simp) | exact .le (.nil _) rfl | exact .le (.emp _) rfl | exact .le (.any _) rfl | fail)) rfl rfl rfl (.inl rfl) (hle.d rfl)⟩) ?_
     refine ob [5, 0, 4, 3, 1, 2] (fun S hle hfr => .inl ⟨w0, st_movet (hle.e rfl) (hle.d rfl)⟩) ?_
     refine ob [6, 5, 0, 4, 3, 1, 2] (fun S hle hfr => .inl ⟨w0, ev_extract (hle.e rfl) rfl (hle.d rfl)⟩) ?_
     refine ob [6, 5, 0, 4, 3, 1, 2] (fun S hle hfr => .inl ⟨w0, ev_extract (hle.e rfl) rfl (hle.d rfl)⟩) ?_
     exact trivial
    case hk18x => rfl
    case hf18x => rfl
    case hr18x =>
     refine s_st [_, _, _, _, _, _, _, _, _, _, _, _, _, _, _, _] ?_
     refine s_sa ?_
     refine aops_nil ?_
     show ∃ _x : Int × Store, _ = _ ∧ Weak _ _
     exact ⟨(x38.2, x38.1), Option.some.inj j33, wk⟩
    case hl18x =>
     refine s_st [_, _, _, _, _, _, _, _, _, _, _, _, _, _, _, _] ?_
     refine s_ex ?_
     refine s_sa ?_
     refine aops_nil ?_
     show ∃ _x : Int × Store, _ = _ ∧ Weak _ _
     exact ⟨(x38.2, x38.1), Option.some.inj j33, wk⟩
  replace l7 := Md.cond_f l7 c32
  refine aw_exit ?_
  show ∃ _x : Int × Store, _ = _ ∧ Weak _ _
  exact ⟨(s7_0, s7_2), Option.some.inj l7, wk⟩
end Md
end Go.Proofs.Ytkcfkcgclljncaa
