/-
  StorQ: where a function's model gives a value, the function returns what reads as it (printed by wip/tools/auto.py). Condition of each: the model gives a value.
-/
import Derived.Test.YtkcfkcgclljncaaStorQM
import Derived.Test.YtkcfkcgclljncaaTy
import Derived.Test.YtkcfkcgclljncaaAbsS
import Derived.Test.YtkcfkcgclljncaaStorD
import Derived.Test.YtkcfkcgclljncaaStorK
namespace Go.Proofs.Ytkcfkcgclljncaa
open Go.ChangeShapes Go.WideShapes Go.RowKit
open Abs
set_option linter.unusedVariables false
set_option linter.unusedSimpArgs false
set_option maxRecDepth 10000
namespace Md
set_option maxHeartbeats 2000000 in
theorem actorgridlaw28_StoreSequences_fn (k : Nat) (a0 : UInt16) (a1 : List Actorgridlaw28Act) (r : Bool) (h : actorgridlaw28_StoreSequences k a0 a1 = some r) : FnC Try.prog 13 [.one (.val (.int .u16 (a0.toNat : Int))), .one (CV.ls c_Actorgridlaw28Act a1)] [] (Det (vB r) []) := by
  unfold actorgridlaw28_StoreSequences at h
  refine fn_intro' 56 Try.func13 rfl rfl rfl (aw_seq (aw_region (s_sa ?_)))
  refine aops_nil (aw_seq (aw_seq (aw_region ?_)))
  obtain ⟨x1, hx1, h⟩ := Md.bind_s h
  refine aops_step1 rfl (ev_call_v (actorgridlaw28_awake_fn k x1 hx1) rfl [] ai rfl rfl rfl (.inl rfl) rfl) (s_nt ?_)
  refine aops_nil ?_
  refine aw_cond rfl (fun c2 => ?_) (fun c2 => ?_)
  · replace h := Md.cond_t h c2
    refine aw_seq (aw_region (s_sa ?_))
    refine aops_nil ?_
    cases Option.some.inj h
    exact aw_ret ⟨rfl, rv r1⟩
  replace h := Md.cond_f h c2
  refine aw_skip (aw_seq (aw_seq (aw_region (s_mv ?_))))
  refine s_ln ?_
  refine s_cm ?_
  refine aops_nil ?_
  refine aw_cond rfl (fun c3 => ?_) (fun c3 => ?_)
  · replace h := Md.cond_t h c3
    refine aw_seq (aw_region (s_sa ?_))
    refine aops_nil ?_
    cases Option.some.inj h
    exact aw_ret ⟨rfl, rv r1⟩
  replace h := Md.cond_f h c3
  refine aw_skip (aw_seq (aw_region (s_mv ?_)))
  refine aops_step1 rfl (st_conv_int rfl rfl Try.underlying40 Try.underlying3 (Md.conv_u16_i64 a0)) ?_
  obtain ⟨x4, hx4, h⟩ := Md.bind_s h
  refine aops_step1 rfl (ev_call_v (store_New_fn k ((a0.toNat : Nat) : Int) x4 hx4) rfl [] ai rfl rfl rfl (.inl rfl) rfl) (s_mt ?_)
  iterate 2 refine s_ex ?_
  refine aops_step1 rfl (st_alloc (cs := [.val (.slice none 0 0), cI 0, cB false, cI 0, cI 0, cB false, .val (.slice none 0 0), cI 0, cB false, cI 0, cI 0, cB false, cI 0, cI 0, cI 0, cI 0]) 0 rfl rfl rfl rfl rfl) (s_st [_, _, _, _, _, _, _, _, _, _, _, _, _, _, _, _] ?_)
  refine s_sa ?_
  refine aops_nil (aw_seq (aw_region (s_mv ?_)))
  refine aops_step1 rfl (st_conv_int rfl rfl Try.underlying40 Try.underlying3 (Md.conv_u16_i64 a0)) ?_
  obtain ⟨x5, hx5, h⟩ := Md.bind_s h
  refine aops_step1 rfl (ev_call_v (actorgridref26_NewStore_fn k ((a0.toNat : Nat) : Int) x5 hx5) rfl [] ai rfl rfl rfl (.inl rfl) rfl) (s_mt ?_)
  iterate 2 refine s_ex ?_
  refine aops_step1 rfl (st_alloc (cs := [.val (.slice none 0 0), cI 0, cB false, cI 0, cI 0, cB false, .val (.slice none 0 0), cI 0, cB false, cI 0, cI 0, cB false, cI 0, cI 0, cI 0, cI 0]) 1 rfl rfl rfl rfl rfl) (s_st [_, _, _, _, _, _, _, _, _, _, _, _, _, _, _, _] ?_)
  refine s_sa ?_
  refine aops_nil (aw_seq (aw_seq (aw_region (s_ls [_, _, _, _, _, _, _, _, _, _, _, _, _, _, _, _] ?_))))
  refine s_mv ?_
  refine s_ls [_, _, _, _, _, _, _, _, _, _, _, _, _, _, _, _] ?_
  refine s_mv ?_
  obtain ⟨x6, hx6, h⟩ := Md.bind_s h
  refine aops_step1 rfl (ev_call_v (actorgridlaw28_same_fn k x4.1 x4.2 x5.1 x5.2 x6 hx6) rfl [] ai rfl rfl rfl (.inl rfl) rfl) (s_nt ?_)
  refine aops_nil ?_
  refine aw_cond rfl (fun c7 => ?_) (fun c7 => ?_)
  · replace h := Md.cond_t h c7
    refine aw_seq (aw_region (s_sa ?_))
    refine aops_nil ?_
    cases Option.some.inj h
    exact aw_ret ⟨rfl, rv r1⟩
  replace h := Md.cond_f h c7
  refine aw_skip (aw_seq (aw_seq (aw_region (s_sa ?_))))
  refine aops_nil (aw_block ?_)
  obtain ⟨o8, ho8, h⟩ := Md.bind_s h
  refine aw_loop_x (ι := {p : Nat × Nat × Store × Store // actorgridlaw28_StoreSequences_loop1 k a1 x4 p.1 p.2.1 p.2.2.1 p.2.2.2 = some o8}) (fun p => (⟨56, [], [(1, .one (CV.ls c_Actorgridlaw28Act a1)), (5, .one (.ptr 0 0)), (6, vI x4.2), (7, .one (.ptr 1 0)), (9, vI ((p.1.2.1 : Nat) : Int))], [(0, some (.box (c_Store p.1.2.2.1))), (1, some (.box (c_Store p.1.2.2.2)))]⟩ : ASt)) (fun p => p.1.1) ⟨(k, 0, x4.1, x5.1), ho8⟩ wk 0 (ε := Unit) (fun x => (⟨56, [], [], []⟩ : ASt)) (fun x => Sum.inl x = o8) (fun _ _ w h => aw_weak w h) ?_ ?_
  · intro x8_0 hI8
    subst hI8
    replace h := Md.onS_l h
    change AW _ _ (⟨56, [], [], []⟩ : ASt) _
    refine aw_seq (aw_region (s_sa ?_))
    refine aops_nil ?_
    cases Option.some.inj h
    exact aw_ret ⟨rfl, rv r1⟩
  intro p8
  obtain ⟨⟨n8, s8_0, s8_1, s8_2⟩, l8⟩ := p8
  change AW _ _ (⟨56, [], [(1, .one (CV.ls c_Actorgridlaw28Act a1)), (5, .one (.ptr 0 0)), (6, vI x4.2), (7, .one (.ptr 1 0)), (9, vI ((s8_0 : Nat) : Int))], [(0, some (.box (c_Store s8_1))), (1, some (.box (c_Store s8_2)))]⟩ : ASt) _
  replace l8 : actorgridlaw28_StoreSequences_loop1 k a1 x4 n8 s8_0 s8_1 s8_2 = some o8 := l8
  rcases n8 with _ | n8
  · exact absurd (show none = some o8 from l8) nofun
  rw [actorgridlaw28_StoreSequences_loop1] at l8
  refine aw_seq (aw_seq (aw_region ?_))
  iterate 2 refine s_mv ?_
  refine s_ln ?_
  refine s_cm ?_
  refine s_mv ?_
  refine aops_mid 3 (⟨56, [], [(1, .one (CV.ls c_Actorgridlaw28Act a1)), (5, .one (.ptr 0 0)), (6, vI x4.2), (7, .one (.ptr 1 0)), (9, vI ((s8_0 : Nat) : Int)), (40, vB ((decide (((s8_0 : Nat) : Int) < ((a1.length : Nat) : Int))) && (x4.2 == 0)))], [(0, some (.box (c_Store s8_1))), (1, some (.box (c_Store s8_2)))]⟩ : ASt) ?_ ?_
  · rcases Md.bool_or ((decide (((s8_0 : Nat) : Int) < ((a1.length : Nat) : Int)))) with q9 | q9
    · skip
      refine y_mv q9 ?_
      refine y_cm q9 ?_
      refine s_py q9 ?_
      refine aops_nil ?_
      exact wq q9
    iterate 2 refine np q9 ?_
    refine s_pn q9 ?_
    refine aops_nil ?_
    exact wq q9
  refine aops_nil ?_
  refine aw_cond rfl (fun c10 => ?_) (fun c10 => ?_)
  · replace l8 := Md.cond_t l8 c10
    refine aw_skip (aw_seq (aw_block (aw_seq (aw_seq (aw_region ?_)))))
    iterate 2 refine s_mv ?_
    obtain ⟨g11, l8⟩ := Md.ifp_s l8
    refine aops_step1 rfl (ev_index_in rfl rfl rfl g11 rfl rfl) (aops_step1 rfl (ev_field_in rfl rfl rfl) (aops_step1 rfl (ev_load_in rfl rfl rfl) (s_ln ?_)))
    refine s_cm ?_
    refine aops_nil ?_
    refine aw_cond rfl (fun c12 => ?_) (fun c12 => ?_)
    · replace l8 := Md.cond_t l8 c12
      refine aw_seq (aw_region (s_sa ?_))
      refine aops_nil ?_
      cases Option.some.inj l8
      replace h := Md.onS_r h
      cases Option.some.inj h
      exact aw_ret ⟨rfl, rv r1⟩
    replace l8 := Md.cond_f l8 c12
    refine aw_skip (aw_seq (aw_region ?_))
    iterate 2 refine s_mv ?_
    obtain ⟨g13, l8⟩ := Md.ifp_s l8
    refine aops_step1 rfl (ev_index_in rfl rfl rfl g13 rfl rfl) (aops_step1 rfl (ev_loads_in (ds := [_, _, _, _]) rfl rfl rfl rfl) ?_)
    obtain ⟨x14, hx14, l8⟩ := Md.bind_s l8
    refine aops_step1 rfl (ev_call_b [0, 1] (actorgridlaw28_step_fn k (⟨((a1.getD s8_0 default).Kind), ((a1.getD s8_0 default).B), ((a1.getD s8_0 default).Writes), ((a1.getD s8_0 default).Keep)⟩ : Actorgridlaw28Act) s8_1 s8_2 x14 hx14) rfl [] ai rfl rfl rfl rfl rfl rfl (.cons rfl (.cons rfl .nil)) rfl rfl rfl (.inl rfl) rfl) (s_nt ?_)
    refine aops_nil ?_
    refine aw_cond rfl (fun c15 => ?_) (fun c15 => ?_)
    · replace l8 := Md.cond_t l8 c15
      refine aw_seq (aw_region (s_sa ?_))
      refine aops_nil ?_
      cases Option.some.inj l8
      replace h := Md.onS_r h
      cases Option.some.inj h
      exact aw_ret ⟨rfl, rv r1⟩
    replace l8 := Md.cond_f l8 c15
    refine aw_skip (aw_region (s_mv ?_))
    obtain ⟨g16, l8⟩ := Md.ifp_s l8
    refine aops_step1 rfl (ev_add rfl rfl rfl (Md.nat_add g16)) (s_sa ?_)
    refine aops_nil ?_
    exact ⟨⟨(n8, (s8_0 + 1), x14.2.1, x14.2.2), l8⟩, Nat.lt_succ_self _, wk⟩
  replace l8 := Md.cond_f l8 c10
  refine aw_exit ?_
  show ∃ _x : Unit, _ = _ ∧ Weak _ _
  exact ⟨(), Option.some.inj l8, wk⟩
end Md
end Go.Proofs.Ytkcfkcgclljncaa
