import Derived.Test.YtclffekkjfhpdaaQMo
import Derived.Test.YtclffekkjfhpdaaQTy
import Derived.Test.YtclffekkjfhpdaaQAbsS
import Derived.Test.YtclffekkjfhpdaaQAbsG
import Derived.Test.YtclffekkjfhpdaaQCodeG
import Derived.Test.YtclffekkjfhpdaaQWa
namespace Go.Proofs.Ytclffekkjfhpdaa
open Go.ChangeShapes Go.WideShapes Go.RowKit
open Abs
set_option linter.unusedVariables false
set_option linter.unusedSimpArgs false
set_option maxRecDepth 10000
namespace Md
def c_Bytecodeeffect (x : Bytecodeeffect) : List CV := [CV.ls c_Int x.takes, CV.ls c_Int x.puts]
set_option maxHeartbeats 2000000 in
theorem bytecode_effects_1_fn (k : Nat) (a0 : List Int) (a1 : List Int) (r : (List Bytecodeeffect)) (h : bytecode_effects_1 k a0 a1 = some r) : FnC Try.prog 84 [.one (CV.ls c_Int a0), .one (CV.ls c_Int a1)] [] (Det (.one (.own 0)) [(0, some (.row 122 2 r.length (lsEl c_Bytecodeeffect r)))]) := by
  unfold bytecode_effects_1 at h
  refine fn_intro' 9 Try.func84 rfl rfl rfl (aw_seq (aw_region (s_sa ?_)))
  refine aops_nil (aw_seq (aw_region ?_))
  iterate 2 refine s_mv ?_
  refine aops_step1 rfl (ev_build' (out := [_, _]) rfl rfl rfl rfl rfl) ?_
  refine aops_step1 rfl (st_slice_lit (el := lsEl c_Bytecodeeffect [(⟨a0, a1⟩ : Bytecodeeffect)]) 0 rfl rfl rfl rfl rfl rfl rfl rfl (lit_el c_Bytecodeeffect 2 [(⟨a0, a1⟩ : Bytecodeeffect)] (fun _ => rfl)) rfl) (s_sa ?_)
  refine aops_nil ?_
  cases Option.some.inj h
  refine aw_ret ⟨rfl, ret_r 0 r1 rfl rfl rfl ?_ ?_ ?_⟩
  · first | exact TLe.refl _ | (repeat' (first | exact .refl _ | exact .nil | refine .tup ?_ | refine .v ?_ | refine .cons ?_ ?_ | refine .agg ?_ | refine .one ?_ | exact .nil _ | exact .emp _ | refine .val ?_ | refine .slc ?_ ?_ | fail))
  · rfl
  · rfl
set_option maxHeartbeats 2000000 in
theorem bytecode_effects_fn (k : Nat) (a0 : Code) (a1 : CodeType) (a2 : CodeMethod) (a3 : Instr) (a4 : Int) (r : (List Bytecodeeffect)) (h : bytecode_effects k a0 a1 a2 a3 a4 = some r) : FnC Try.prog 71 [.agg [CV.ls c_CodeType a0.Types], .agg (c_CodeType a1), .agg (c_CodeMethod a2), .agg (c_Instr a3), vI a4] [] (Det (.one (CV.ls c_Bytecodeeffect r)) []) := by
  unfold bytecode_effects at h
  refine fn_intro' 239 Try.func71 rfl rfl rfl (aw_seq (aw_region (aops_step1 rfl (st_box 0 rfl rfl rfl rfl) (aops_step1 rfl (st_box 1 rfl rfl rfl rfl) ?_))))
  refine aops_step1 rfl (st_box 2 rfl rfl rfl rfl) (aops_step1 rfl (st_box 3 rfl rfl rfl rfl) (s_sa ?_))
  refine aops_nil (aw_seq (aw_region (s_sa ?_)))
  refine aops_nil (aw_seq (aw_seq (aw_region (s_fd ?_))))
  refine s_ld ?_
  refine aops_nil (aw_block (aw_seq (aw_region (s_cm ?_))))
  refine s_sa ?_
  refine aops_nil ?_
  refine aw_cond rfl (fun c1 => ?_) (fun c1 => ?_)
  · replace h := Md.cond_t h c1
    refine aw_seq (aw_region (s_mv ?_))
    iterate 2 refine s_fd ?_
    refine s_ld ?_
    refine aops_step1 rfl (st_slice_lit (el := lsEl c_Int [a3.Value.Kind]) 4 rfl rfl rfl rfl rfl rfl rfl rfl (lit_el c_Int 1 [a3.Value.Kind] (fun _ => rfl)) rfl) ?_
    obtain ⟨x2, hx2, h⟩ := Md.bind_s h
    refine aops_freeze 4 rfl ?_
    refine aops_step1 rfl (ev_callee rfl (st_call_r (r' := .one (.own 5)) 5 rfl (bytecode_effects_1_fn k ([] : List Int) [a3.Value.Kind] x2 hx2) rfl [] ai rfl rfl rfl (.inl rfl) rfl rfl)) (s_sa ?_)
    refine aops_nil ?_
    cases Option.some.inj h
    refine aw_freeze 5 rfl ?_
    exact aw_ret ⟨rfl, rv r1⟩
  replace h := Md.cond_f h c1
  refine aw_seq (aw_region (s_cm ?_))
  refine s_sa ?_
  refine aops_nil ?_
  refine aw_cond rfl (fun c3 => ?_) (fun c3 => ?_)
  · replace h := Md.cond_t h c3
    refine aw_seq (aw_region (s_mv ?_))
    refine s_fd ?_
    refine s_ld ?_
    refine s_fd ?_
    refine s_ld ?_
    obtain ⟨g4, h⟩ := Md.ifp_s h
    refine aops_step1 rfl (ev_index_in rfl rfl (Md.idx_eq g4) (Md.idx_lt g4) rfl rfl) (aops_step1 rfl (ev_load_in rfl rfl rfl) ?_)
    refine aops_step1 rfl (st_slice_lit (el := lsEl c_Int [(a2.Locals.getD ((a3.A).toNat) default)]) 4 rfl rfl rfl rfl rfl rfl rfl rfl (lit_el c_Int 1 [(a2.Locals.getD ((a3.A).toNat) default)] (fun _ => rfl)) rfl) ?_
    obtain ⟨x5, hx5, h⟩ := Md.bind_s h
    refine aops_freeze 4 rfl ?_
    refine aops_step1 rfl (ev_callee rfl (st_call_r (r' := .one (.own 5)) 5 rfl (bytecode_effects_1_fn k ([] : List Int) [(a2.Locals.getD ((a3.A).toNat) default)] x5 hx5) rfl [] ai rfl rfl rfl (.inl rfl) rfl rfl)) (s_sa ?_)
    refine aops_nil ?_
    cases Option.some.inj h
    refine aw_freeze 5 rfl ?_
    exact aw_ret ⟨rfl, rv r1⟩
  replace h := Md.cond_f h c3
  refine aw_seq (aw_region (s_cm ?_))
  refine s_sa ?_
  refine aops_nil ?_
  refine aw_cond rfl (fun c6 => ?_) (fun c6 => ?_)
  · replace h := Md.cond_t h c6
    refine aw_seq (aw_region (s_mv ?_))
    refine s_fd ?_
    refine s_ld ?_
    refine s_fd ?_
    refine s_ld ?_
    obtain ⟨g7, h⟩ := Md.ifp_s h
    refine aops_step1 rfl (ev_index_in rfl rfl (Md.idx_eq g7) (Md.idx_lt g7) rfl rfl) (aops_step1 rfl (ev_load_in rfl rfl rfl) ?_)
    refine aops_step1 rfl (st_slice_lit (el := lsEl c_Int [(a2.Locals.getD ((a3.A).toNat) default)]) 4 rfl rfl rfl rfl rfl rfl rfl rfl (lit_el c_Int 1 [(a2.Locals.getD ((a3.A).toNat) default)] (fun _ => rfl)) rfl) ?_
    obtain ⟨x8, hx8, h⟩ := Md.bind_s h
    refine aops_freeze 4 rfl ?_
    refine aops_step1 rfl (ev_callee rfl (st_call_r (r' := .one (.own 5)) 5 rfl (bytecode_effects_1_fn k [(a2.Locals.getD ((a3.A).toNat) default)] ([] : List Int) x8 hx8) rfl [] ai rfl rfl rfl (.inl rfl) rfl rfl)) (s_sa ?_)
    refine aops_nil ?_
    cases Option.some.inj h
    refine aw_freeze 5 rfl ?_
    exact aw_ret ⟨rfl, rv r1⟩
  replace h := Md.cond_f h c6
  refine aw_seq (aw_region (s_cm ?_))
  refine s_sa ?_
  refine aops_nil ?_
  refine aw_cond rfl (fun c9 => ?_) (fun c9 => ?_)
  · replace h := Md.cond_t h c9
    refine aw_seq (aw_region (s_mv ?_))
    refine s_fd ?_
    refine s_ld ?_
    refine s_fd ?_
    refine s_ld ?_
    obtain ⟨g10, h⟩ := Md.ifp_s h
    refine aops_step1 rfl (ev_index_in rfl rfl (Md.idx_eq g10) (Md.idx_lt g10) rfl rfl) (aops_step1 rfl (ev_field_in rfl rfl rfl) ?_)
    refine aops_step1 rfl (ev_load_in rfl rfl rfl) ?_
    refine aops_step1 rfl (st_slice_lit (el := lsEl c_Int [((a1.Fields.getD ((a3.A).toNat) default).Kind)]) 4 rfl rfl rfl rfl rfl rfl rfl rfl (lit_el c_Int 1 [((a1.Fields.getD ((a3.A).toNat) default).Kind)] (fun _ => rfl)) rfl) ?_
    obtain ⟨x11, hx11, h⟩ := Md.bind_s h
    refine aops_freeze 4 rfl ?_
    refine aops_step1 rfl (ev_callee rfl (st_call_r (r' := .one (.own 5)) 5 rfl (bytecode_effects_1_fn k ([] : List Int) [((a1.Fields.getD ((a3.A).toNat) default).Kind)] x11 hx11) rfl [] ai rfl rfl rfl (.inl rfl) rfl rfl)) (s_sa ?_)
    refine aops_nil ?_
    cases Option.some.inj h
    refine aw_freeze 5 rfl ?_
    exact aw_ret ⟨rfl, rv r1⟩
  replace h := Md.cond_f h c9
  refine aw_seq (aw_region (s_cm ?_))
  refine s_sa ?_
  refine aops_nil ?_
  refine aw_cond rfl (fun c12 => ?_) (fun c12 => ?_)
  · replace h := Md.cond_t h c12
    refine aw_seq (aw_region (s_mv ?_))
    refine s_fd ?_
    refine s_ld ?_
    refine s_fd ?_
    refine s_ld ?_
    obtain ⟨g13, h⟩ := Md.ifp_s h
    refine aops_step1 rfl (ev_index_in rfl rfl (Md.idx_eq g13) (Md.idx_lt g13) rfl rfl) (aops_step1 rfl (ev_field_in rfl rfl rfl) ?_)
    refine aops_step1 rfl (ev_load_in rfl rfl rfl) ?_
    refine aops_step1 rfl (st_slice_lit (el := lsEl c_Int [((a1.Fields.getD ((a3.A).toNat) default).Kind)]) 4 rfl rfl rfl rfl rfl rfl rfl rfl (lit_el c_Int 1 [((a1.Fields.getD ((a3.A).toNat) default).Kind)] (fun _ => rfl)) rfl) ?_
    obtain ⟨x14, hx14, h⟩ := Md.bind_s h
    refine aops_freeze 4 rfl ?_
    refine aops_step1 rfl (ev_callee rfl (st_call_r (r' := .one (.own 5)) 5 rfl (bytecode_effects_1_fn k [((a1.Fields.getD ((a3.A).toNat) default).Kind)] ([] : List Int) x14 hx14) rfl [] ai rfl rfl rfl (.inl rfl) rfl rfl)) (s_sa ?_)
    refine aops_nil ?_
    cases Option.some.inj h
    refine aw_freeze 5 rfl ?_
    exact aw_ret ⟨rfl, rv r1⟩
  replace h := Md.cond_f h c12
  refine aw_seq (aw_region (s_cm ?_))
  refine s_sa ?_
  refine aops_nil ?_
  refine aw_cond rfl (fun c15 => ?_) (fun c15 => ?_)
  · replace h := Md.cond_t h c15
    refine aw_seq (aw_region (s_mv ?_))
    refine aops_step1 rfl (st_slice_lit (el := lsEl c_Int [3]) 4 rfl rfl rfl rfl rfl rfl rfl rfl (lit_el c_Int 1 [3] (fun _ => rfl)) rfl) ?_
    obtain ⟨x16, hx16, h⟩ := Md.bind_s h
    refine aops_freeze 4 rfl ?_
    refine aops_step1 rfl (ev_callee rfl (st_call_r (r' := .one (.own 5)) 5 rfl (bytecode_effects_1_fn k ([] : List Int) [3] x16 hx16) rfl [] ai rfl rfl rfl (.inl rfl) rfl rfl)) (s_sa ?_)
    refine aops_nil ?_
    cases Option.some.inj h
    refine aw_freeze 5 rfl ?_
    exact aw_ret ⟨rfl, rv r1⟩
  replace h := Md.cond_f h c15
  refine aw_seq (aw_region (s_cm ?_))
  refine s_sa ?_
  refine aops_nil ?_
  refine aw_cond rfl (fun c17 => ?_) (fun c17 => ?_)
  · replace h := Md.cond_t h c17
    refine aw_seq (aw_region (s_mv ?_))
    refine aops_step1 rfl (st_slice_lit (el := lsEl c_Int [1]) 4 rfl rfl rfl rfl rfl rfl rfl rfl (lit_el c_Int 1 [1] (fun _ => rfl)) rfl) ?_
    refine aops_step1 rfl (st_slice_lit (el := lsEl c_Int [1]) 5 rfl rfl rfl rfl rfl rfl rfl rfl (lit_el c_Int 1 [1] (fun _ => rfl)) rfl) ?_
    obtain ⟨x18, hx18, h⟩ := Md.bind_s h
    refine aops_freeze 4 rfl (aops_freeze 5 rfl ?_)
    refine aops_step1 rfl (ev_callee rfl (st_call_r (r' := .one (.own 6)) 6 rfl (bytecode_effects_1_fn k [1] [1] x18 hx18) rfl [] ai rfl rfl rfl (.inl rfl) rfl rfl)) (s_sa ?_)
    refine aops_nil ?_
    cases Option.some.inj h
    refine aw_freeze 6 rfl ?_
    exact aw_ret ⟨rfl, rv r1⟩
  replace h := Md.cond_f h c17
  refine aw_seq (aw_region (s_cm ?_))
  refine s_sa ?_
  refine aops_nil ?_
  refine aw_cond rfl (fun c19 => ?_) (fun c19 => ?_)
  · replace h := Md.cond_t h c19
    refine aw_seq (aw_region (s_mv ?_))
    refine aops_step1 rfl (st_slice_lit (el := lsEl c_Int [2]) 4 rfl rfl rfl rfl rfl rfl rfl rfl (lit_el c_Int 1 [2] (fun _ => rfl)) rfl) ?_
    refine aops_step1 rfl (st_slice_lit (el := lsEl c_Int [2]) 5 rfl rfl rfl rfl rfl rfl rfl rfl (lit_el c_Int 1 [2] (fun _ => rfl)) rfl) ?_
    obtain ⟨x20, hx20, h⟩ := Md.bind_s h
    refine aops_freeze 4 rfl (aops_freeze 5 rfl ?_)
    refine aops_step1 rfl (ev_callee rfl (st_call_r (r' := .one (.own 6)) 6 rfl (bytecode_effects_1_fn k [2] [2] x20 hx20) rfl [] ai rfl rfl rfl (.inl rfl) rfl rfl)) (s_sa ?_)
    refine aops_nil ?_
    cases Option.some.inj h
    refine aw_freeze 6 rfl ?_
    exact aw_ret ⟨rfl, rv r1⟩
  replace h := Md.cond_f h c19
  refine aw_seq (aw_seq (aw_region (s_cm ?_)))
  refine s_sa ?_
  refine aops_nil ?_
  refine aw_cond rfl (fun c21 => ?_) (fun c21 => ?_)
  · replace h := Md.cond_t h c21
    refine aw_skip (aw_yes rfl (c21) (aw_seq (aw_region (s_mv ?_))))
    refine aops_step1 rfl (st_slice_lit (el := lsEl c_Int [1, 1]) 4 rfl rfl rfl rfl rfl rfl rfl rfl (lit_el c_Int 1 [1, 1] (fun _ => rfl)) rfl) ?_
    refine aops_step1 rfl (st_slice_lit (el := lsEl c_Int [1]) 5 rfl rfl rfl rfl rfl rfl rfl rfl (lit_el c_Int 1 [1] (fun _ => rfl)) rfl) ?_
    obtain ⟨x22, hx22, h⟩ := Md.bind_s h
    refine aops_freeze 4 rfl (aops_freeze 5 rfl ?_)
    refine aops_step1 rfl (ev_callee rfl (st_call_r (r' := .one (.own 6)) 6 rfl (bytecode_effects_1_fn k [1, 1] [1] x22 hx22) rfl [] ai rfl rfl rfl (.inl rfl) rfl rfl)) (s_sa ?_)
    refine aops_nil ?_
    cases Option.some.inj h
    refine aw_freeze 6 rfl ?_
    exact aw_ret ⟨rfl, rv r1⟩
  replace h := Md.cond_f h c21
  refine aw_seq (aw_region (s_cm ?_))
  refine s_sa ?_
  refine aops_nil ?_
  refine aw_cond rfl (fun c23 => ?_) (fun c23 => ?_)
  · replace h := Md.cond_t h c23
    refine aw_skip (aw_yes rfl (c23) (aw_seq (aw_region (s_mv ?_))))
    refine aops_step1 rfl (st_slice_lit (el := lsEl c_Int [1, 1]) 4 rfl rfl rfl rfl rfl rfl rfl rfl (lit_el c_Int 1 [1, 1] (fun _ => rfl)) rfl) ?_
    refine aops_step1 rfl (st_slice_lit (el := lsEl c_Int [1]) 5 rfl rfl rfl rfl rfl rfl rfl rfl (lit_el c_Int 1 [1] (fun _ => rfl)) rfl) ?_
    obtain ⟨x24, hx24, h⟩ := Md.bind_s h
    refine aops_freeze 4 rfl (aops_freeze 5 rfl ?_)
    refine aops_step1 rfl (ev_callee rfl (st_call_r (r' := .one (.own 6)) 6 rfl (bytecode_effects_1_fn k [1, 1] [1] x24 hx24) rfl [] ai rfl rfl rfl (.inl rfl) rfl rfl)) (s_sa ?_)
    refine aops_nil ?_
    cases Option.some.inj h
    refine aw_freeze 6 rfl ?_
    exact aw_ret ⟨rfl, rv r1⟩
  replace h := Md.cond_f h c23
  refine aw_seq (aw_region (s_cm ?_))
  refine s_sa ?_
  refine aops_nil ?_
  refine aw_cond rfl (fun c25 => ?_) (fun c25 => ?_)
  · replace h := Md.cond_t h c25
    refine aw_skip (aw_yes rfl (c25) (aw_seq (aw_region (s_mv ?_))))
    refine aops_step1 rfl (st_slice_lit (el := lsEl c_Int [1, 1]) 4 rfl rfl rfl rfl rfl rfl rfl rfl (lit_el c_Int 1 [1, 1] (fun _ => rfl)) rfl) ?_
    refine aops_step1 rfl (st_slice_lit (el := lsEl c_Int [1]) 5 rfl rfl rfl rfl rfl rfl rfl rfl (lit_el c_Int 1 [1] (fun _ => rfl)) rfl) ?_
    obtain ⟨x26, hx26, h⟩ := Md.bind_s h
    refine aops_freeze 4 rfl (aops_freeze 5 rfl ?_)
    refine aops_step1 rfl (ev_callee rfl (st_call_r (r' := .one (.own 6)) 6 rfl (bytecode_effects_1_fn k [1, 1] [1] x26 hx26) rfl [] ai rfl rfl rfl (.inl rfl) rfl rfl)) (s_sa ?_)
    refine aops_nil ?_
    cases Option.some.inj h
    refine aw_freeze 6 rfl ?_
    exact aw_ret ⟨rfl, rv r1⟩
  replace h := Md.cond_f h c25
  refine aw_seq (aw_region (s_cm ?_))
  refine s_sa ?_
  refine aops_nil ?_
  refine aw_cond rfl (fun c27 => ?_) (fun c27 => ?_)
  · replace h := Md.cond_t h c27
    refine aw_skip (aw_yes rfl (c27) (aw_seq (aw_region (s_mv ?_))))
    refine aops_step1 rfl (st_slice_lit (el := lsEl c_Int [1, 1]) 4 rfl rfl rfl rfl rfl rfl rfl rfl (lit_el c_Int 1 [1, 1] (fun _ => rfl)) rfl) ?_
    refine aops_step1 rfl (st_slice_lit (el := lsEl c_Int [1]) 5 rfl rfl rfl rfl rfl rfl rfl rfl (lit_el c_Int 1 [1] (fun _ => rfl)) rfl) ?_
    obtain ⟨x28, hx28, h⟩ := Md.bind_s h
    refine aops_freeze 4 rfl (aops_freeze 5 rfl ?_)
    refine aops_step1 rfl (ev_callee rfl (st_call_r (r' := .one (.own 6)) 6 rfl (bytecode_effects_1_fn k [1, 1] [1] x28 hx28) rfl [] ai rfl rfl rfl (.inl rfl) rfl rfl)) (s_sa ?_)
    refine aops_nil ?_
    cases Option.some.inj h
    refine aw_freeze 6 rfl ?_
    exact aw_ret ⟨rfl, rv r1⟩
  replace h := Md.cond_f h c27
  refine aw_region (s_cm ?_)
  refine s_sa ?_
  refine aops_nil ?_
  refine aw_cond rfl (fun c29 => ?_) (fun c29 => ?_)
  · replace h := Md.cond_t h c29
    refine aw_seq (aw_region (s_mv ?_))
    refine aops_step1 rfl (st_slice_lit (el := lsEl c_Int [1, 1]) 4 rfl rfl rfl rfl rfl rfl rfl rfl (lit_el c_Int 1 [1, 1] (fun _ => rfl)) rfl) ?_
    refine aops_step1 rfl (st_slice_lit (el := lsEl c_Int [1]) 5 rfl rfl rfl rfl rfl rfl rfl rfl (lit_el c_Int 1 [1] (fun _ => rfl)) rfl) ?_
    obtain ⟨x30, hx30, h⟩ := Md.bind_s h
    refine aops_freeze 4 rfl (aops_freeze 5 rfl ?_)
    refine aops_step1 rfl (ev_callee rfl (st_call_r (r' := .one (.own 6)) 6 rfl (bytecode_effects_1_fn k [1, 1] [1] x30 hx30) rfl [] ai rfl rfl rfl (.inl rfl) rfl rfl)) (s_sa ?_)
    refine aops_nil ?_
    cases Option.some.inj h
    refine aw_freeze 6 rfl ?_
    exact aw_ret ⟨rfl, rv r1⟩
  replace h := Md.cond_f h c29
  refine aw_seq (aw_region (s_cm ?_))
  refine s_sa ?_
  refine aops_nil ?_
  refine aw_cond rfl (fun c31 => ?_) (fun c31 => ?_)
  · replace h := Md.cond_t h c31
    refine aw_seq (aw_region (s_mv ?_))
    refine aops_step1 rfl (st_slice_lit (el := lsEl c_Int [3, 3]) 4 rfl rfl rfl rfl rfl rfl rfl rfl (lit_el c_Int 1 [3, 3] (fun _ => rfl)) rfl) ?_
    refine aops_step1 rfl (st_slice_lit (el := lsEl c_Int [3]) 5 rfl rfl rfl rfl rfl rfl rfl rfl (lit_el c_Int 1 [3] (fun _ => rfl)) rfl) ?_
    obtain ⟨x32, hx32, h⟩ := Md.bind_s h
    refine aops_freeze 4 rfl (aops_freeze 5 rfl ?_)
    refine aops_step1 rfl (ev_callee rfl (st_call_r (r' := .one (.own 6)) 6 rfl (bytecode_effects_1_fn k [3, 3] [3] x32 hx32) rfl [] ai rfl rfl rfl (.inl rfl) rfl rfl)) (s_sa ?_)
    refine aops_nil ?_
    cases Option.some.inj h
    refine aw_freeze 6 rfl ?_
    exact aw_ret ⟨rfl, rv r1⟩
  replace h := Md.cond_f h c31
  refine aw_seq (aw_seq (aw_region (s_cm ?_)))
  refine s_sa ?_
  refine aops_nil ?_
  refine aw_cond rfl (fun c33 => ?_) (fun c33 => ?_)
  · replace h := Md.cond_t h c33
    refine aw_skip (aw_yes rfl (c33) (aw_seq (aw_region ?_)))
    iterate 3 refine s_mv ?_
    refine aops_step1 rfl (st_slice_lit (el := lsEl c_Int [a4, a4]) 4 rfl rfl rfl rfl rfl rfl rfl rfl (lit_el c_Int 1 [a4, a4] (fun _ => rfl)) rfl) ?_
    refine aops_step1 rfl (st_slice_lit (el := lsEl c_Int [2]) 5 rfl rfl rfl rfl rfl rfl rfl rfl (lit_el c_Int 1 [2] (fun _ => rfl)) rfl) ?_
    obtain ⟨x34, hx34, h⟩ := Md.bind_s h
    refine aops_freeze 4 rfl (aops_freeze 5 rfl ?_)
    refine aops_step1 rfl (ev_callee rfl (st_call_r (r' := .one (.own 6)) 6 rfl (bytecode_effects_1_fn k [a4, a4] [2] x34 hx34) rfl [] ai rfl rfl rfl (.inl rfl) rfl rfl)) (s_sa ?_)
    refine aops_nil ?_
    cases Option.some.inj h
    refine aw_freeze 6 rfl ?_
    exact aw_ret ⟨rfl, rv r1⟩
  replace h := Md.cond_f h c33
  refine aw_region (s_cm ?_)
  refine s_sa ?_
  refine aops_nil ?_
  refine aw_cond rfl (fun c35 => ?_) (fun c35 => ?_)
  · replace h := Md.cond_t h c35
    refine aw_seq (aw_region ?_)
    iterate 3 refine s_mv ?_
    refine aops_step1 rfl (st_slice_lit (el := lsEl c_Int [a4, a4]) 4 rfl rfl rfl rfl rfl rfl rfl rfl (lit_el c_Int 1 [a4, a4] (fun _ => rfl)) rfl) ?_
    refine aops_step1 rfl (st_slice_lit (el := lsEl c_Int [2]) 5 rfl rfl rfl rfl rfl rfl rfl rfl (lit_el c_Int 1 [2] (fun _ => rfl)) rfl) ?_
    obtain ⟨x36, hx36, h⟩ := Md.bind_s h
    refine aops_freeze 4 rfl (aops_freeze 5 rfl ?_)
    refine aops_step1 rfl (ev_callee rfl (st_call_r (r' := .one (.own 6)) 6 rfl (bytecode_effects_1_fn k [a4, a4] [2] x36 hx36) rfl [] ai rfl rfl rfl (.inl rfl) rfl rfl)) (s_sa ?_)
    refine aops_nil ?_
    cases Option.some.inj h
    refine aw_freeze 6 rfl ?_
    exact aw_ret ⟨rfl, rv r1⟩
  replace h := Md.cond_f h c35
  refine aw_seq (aw_seq (aw_region (s_cm ?_)))
  refine s_sa ?_
  refine aops_nil ?_
  refine aw_cond rfl (fun c37 => ?_) (fun c37 => ?_)
  · replace h := Md.cond_t h c37
    refine aw_skip (aw_yes rfl (c37) (aw_seq (aw_region ?_)))
    refine aops_step1 rfl (st_slice_lit (el := lsEl c_Int [1, 1]) 4 rfl rfl rfl rfl rfl rfl rfl rfl (lit_el c_Int 1 [1, 1] (fun _ => rfl)) rfl) ?_
    refine aops_step1 rfl (st_slice_lit (el := lsEl c_Int [2]) 5 rfl rfl rfl rfl rfl rfl rfl rfl (lit_el c_Int 1 [2] (fun _ => rfl)) rfl) ?_
    refine aops_step1 rfl (ev_build' (out := [_, _]) rfl rfl rfl rfl rfl) ?_
    refine aops_step1 rfl (st_slice_lit (el := lsEl c_Int [3, 3]) 6 rfl rfl rfl rfl rfl rfl rfl rfl (lit_el c_Int 1 [3, 3] (fun _ => rfl)) rfl) ?_
    refine aops_step1 rfl (st_slice_lit (el := lsEl c_Int [2]) 7 rfl rfl rfl rfl rfl rfl rfl rfl (lit_el c_Int 1 [2] (fun _ => rfl)) rfl) ?_
    refine aops_step1 rfl (ev_build' (out := [_, _]) rfl rfl rfl rfl rfl) (aops_freeze 4 rfl (aops_freeze 5 rfl (aops_freeze 6 rfl (aops_freeze 7 rfl ?_))))
    refine aops_step1 rfl (st_slice_lit (el := lsEl c_Bytecodeeffect [(⟨[1, 1], [2]⟩ : Bytecodeeffect), (⟨[3, 3], [2]⟩ : Bytecodeeffect)]) 8 rfl rfl rfl rfl rfl rfl rfl rfl (lit_el c_Bytecodeeffect 2 [(⟨[1, 1], [2]⟩ : Bytecodeeffect), (⟨[3, 3], [2]⟩ : Bytecodeeffect)] (fun _ => rfl)) rfl) (s_sa ?_)
    refine aops_nil ?_
    cases Option.some.inj h
    refine aw_freeze 8 rfl ?_
    exact aw_ret ⟨rfl, rv r1⟩
  replace h := Md.cond_f h c37
  refine aw_seq (aw_region (s_cm ?_))
  refine s_sa ?_
  refine aops_nil ?_
  refine aw_cond rfl (fun c38 => ?_) (fun c38 => ?_)
  · replace h := Md.cond_t h c38
    refine aw_skip (aw_yes rfl (c38) (aw_seq (aw_region ?_)))
    refine aops_step1 rfl (st_slice_lit (el := lsEl c_Int [1, 1]) 4 rfl rfl rfl rfl rfl rfl rfl rfl (lit_el c_Int 1 [1, 1] (fun _ => rfl)) rfl) ?_
    refine aops_step1 rfl (st_slice_lit (el := lsEl c_Int [2]) 5 rfl rfl rfl rfl rfl rfl rfl rfl (lit_el c_Int 1 [2] (fun _ => rfl)) rfl) ?_
    refine aops_step1 rfl (ev_build' (out := [_, _]) rfl rfl rfl rfl rfl) ?_
    refine aops_step1 rfl (st_slice_lit (el := lsEl c_Int [3, 3]) 6 rfl rfl rfl rfl rfl rfl rfl rfl (lit_el c_Int 1 [3, 3] (fun _ => rfl)) rfl) ?_
    refine aops_step1 rfl (st_slice_lit (el := lsEl c_Int [2]) 7 rfl rfl rfl rfl rfl rfl rfl rfl (lit_el c_Int 1 [2] (fun _ => rfl)) rfl) ?_
    refine aops_step1 rfl (ev_build' (out := [_, _]) rfl rfl rfl rfl rfl) (aops_freeze 4 rfl (aops_freeze 5 rfl (aops_freeze 6 rfl (aops_freeze 7 rfl ?_))))
    refine aops_step1 rfl (st_slice_lit (el := lsEl c_Bytecodeeffect [(⟨[1, 1], [2]⟩ : Bytecodeeffect), (⟨[3, 3], [2]⟩ : Bytecodeeffect)]) 8 rfl rfl rfl rfl rfl rfl rfl rfl (lit_el c_Bytecodeeffect 2 [(⟨[1, 1], [2]⟩ : Bytecodeeffect), (⟨[3, 3], [2]⟩ : Bytecodeeffect)] (fun _ => rfl)) rfl) (s_sa ?_)
    refine aops_nil ?_
    cases Option.some.inj h
    refine aw_freeze 8 rfl ?_
    exact aw_ret ⟨rfl, rv r1⟩
  replace h := Md.cond_f h c38
  refine aw_seq (aw_region (s_cm ?_))
  refine s_sa ?_
  refine aops_nil ?_
  refine aw_cond rfl (fun c39 => ?_) (fun c39 => ?_)
  · replace h := Md.cond_t h c39
    refine aw_skip (aw_yes rfl (c39) (aw_seq (aw_region ?_)))
    refine aops_step1 rfl (st_slice_lit (el := lsEl c_Int [1, 1]) 4 rfl rfl rfl rfl rfl rfl rfl rfl (lit_el c_Int 1 [1, 1] (fun _ => rfl)) rfl) ?_
    refine aops_step1 rfl (st_slice_lit (el := lsEl c_Int [2]) 5 rfl rfl rfl rfl rfl rfl rfl rfl (lit_el c_Int 1 [2] (fun _ => rfl)) rfl) ?_
    refine aops_step1 rfl (ev_build' (out := [_, _]) rfl rfl rfl rfl rfl) ?_
    refine aops_step1 rfl (st_slice_lit (el := lsEl c_Int [3, 3]) 6 rfl rfl rfl rfl rfl rfl rfl rfl (lit_el c_Int 1 [3, 3] (fun _ => rfl)) rfl) ?_
    refine aops_step1 rfl (st_slice_lit (el := lsEl c_Int [2]) 7 rfl rfl rfl rfl rfl rfl rfl rfl (lit_el c_Int 1 [2] (fun _ => rfl)) rfl) ?_
    refine aops_step1 rfl (ev_build' (out := [_, _]) rfl rfl rfl rfl rfl) (aops_freeze 4 rfl (aops_freeze 5 rfl (aops_freeze 6 rfl (aops_freeze 7 rfl ?_))))
    refine aops_step1 rfl (st_slice_lit (el := lsEl c_Bytecodeeffect [(⟨[1, 1], [2]⟩ : Bytecodeeffect), (⟨[3, 3], [2]⟩ : Bytecodeeffect)]) 8 rfl rfl rfl rfl rfl rfl rfl rfl (lit_el c_Bytecodeeffect 2 [(⟨[1, 1], [2]⟩ : Bytecodeeffect), (⟨[3, 3], [2]⟩ : Bytecodeeffect)] (fun _ => rfl)) rfl) (s_sa ?_)
    refine aops_nil ?_
    cases Option.some.inj h
    refine aw_freeze 8 rfl ?_
    exact aw_ret ⟨rfl, rv r1⟩
  replace h := Md.cond_f h c39
  refine aw_region (s_cm ?_)
  refine s_sa ?_
  refine aops_nil ?_
  refine aw_cond rfl (fun c40 => ?_) (fun c40 => ?_)
  · replace h := Md.cond_t h c40
    refine aw_seq (aw_region (aops_step1 rfl (st_slice_lit (el := lsEl c_Int [1, 1]) 4 rfl rfl rfl rfl rfl rfl rfl rfl (lit_el c_Int 1 [1, 1] (fun _ => rfl)) rfl) ?_))
    refine aops_step1 rfl (st_slice_lit (el := lsEl c_Int [2]) 5 rfl rfl rfl rfl rfl rfl rfl rfl (lit_el c_Int 1 [2] (fun _ => rfl)) rfl) ?_
    refine aops_step1 rfl (ev_build' (out := [_, _]) rfl rfl rfl rfl rfl) ?_
    refine aops_step1 rfl (st_slice_lit (el := lsEl c_Int [3, 3]) 6 rfl rfl rfl rfl rfl rfl rfl rfl (lit_el c_Int 1 [3, 3] (fun _ => rfl)) rfl) ?_
    refine aops_step1 rfl (st_slice_lit (el := lsEl c_Int [2]) 7 rfl rfl rfl rfl rfl rfl rfl rfl (lit_el c_Int 1 [2] (fun _ => rfl)) rfl) ?_
    refine aops_step1 rfl (ev_build' (out := [_, _]) rfl rfl rfl rfl rfl) (aops_freeze 4 rfl (aops_freeze 5 rfl (aops_freeze 6 rfl (aops_freeze 7 rfl ?_))))
    refine aops_step1 rfl (st_slice_lit (el := lsEl c_Bytecodeeffect [(⟨[1, 1], [2]⟩ : Bytecodeeffect), (⟨[3, 3], [2]⟩ : Bytecodeeffect)]) 8 rfl rfl rfl rfl rfl rfl rfl rfl (lit_el c_Bytecodeeffect 2 [(⟨[1, 1], [2]⟩ : Bytecodeeffect), (⟨[3, 3], [2]⟩ : Bytecodeeffect)] (fun _ => rfl)) rfl) (s_sa ?_)
    refine aops_nil ?_
    cases Option.some.inj h
    refine aw_freeze 8 rfl ?_
    exact aw_ret ⟨rfl, rv r1⟩
  replace h := Md.cond_f h c40
  refine aw_seq (aw_region (s_cm ?_))
  refine s_sa ?_
  refine aops_nil ?_
  refine aw_cond rfl (fun c41 => ?_) (fun c41 => ?_)
  · replace h := Md.cond_t h c41
    refine aw_seq (aw_region (aops_step1 rfl (st_slice_lit (el := lsEl c_Int [3]) 4 rfl rfl rfl rfl rfl rfl rfl rfl (lit_el c_Int 1 [3] (fun _ => rfl)) rfl) ?_))
    refine aops_step1 rfl (st_slice_lit (el := lsEl c_Int [1]) 5 rfl rfl rfl rfl rfl rfl rfl rfl (lit_el c_Int 1 [1] (fun _ => rfl)) rfl) ?_
    refine aops_step1 rfl (ev_build' (out := [_, _]) rfl rfl rfl rfl rfl) ?_
    refine aops_step1 rfl (st_slice_lit (el := lsEl c_Int [4]) 6 rfl rfl rfl rfl rfl rfl rfl rfl (lit_el c_Int 1 [4] (fun _ => rfl)) rfl) ?_
    refine aops_step1 rfl (st_slice_lit (el := lsEl c_Int [1]) 7 rfl rfl rfl rfl rfl rfl rfl rfl (lit_el c_Int 1 [1] (fun _ => rfl)) rfl) ?_
    refine aops_step1 rfl (ev_build' (out := [_, _]) rfl rfl rfl rfl rfl) ?_
    refine aops_step1 rfl (st_slice_lit (el := lsEl c_Int [5]) 8 rfl rfl rfl rfl rfl rfl rfl rfl (lit_el c_Int 1 [5] (fun _ => rfl)) rfl) ?_
    refine aops_step1 rfl (st_slice_lit (el := lsEl c_Int [1]) 9 rfl rfl rfl rfl rfl rfl rfl rfl (lit_el c_Int 1 [1] (fun _ => rfl)) rfl) ?_
    refine aops_step1 rfl (ev_build' (out := [_, _]) rfl rfl rfl rfl rfl) (aops_freeze 4 rfl (aops_freeze 5 rfl (aops_freeze 6 rfl (aops_freeze 7 rfl (aops_freeze 8 rfl ?_)))))
    refine aops_freeze 9 rfl ?_
    refine aops_step1 rfl (st_slice_lit (el := lsEl c_Bytecodeeffect [(⟨[3], [1]⟩ : Bytecodeeffect), (⟨[4], [1]⟩ : Bytecodeeffect), (⟨[5], [1]⟩ : Bytecodeeffect)]) 10 rfl rfl rfl rfl rfl rfl rfl rfl (lit_el c_Bytecodeeffect 2 [(⟨[3], [1]⟩ : Bytecodeeffect), (⟨[4], [1]⟩ : Bytecodeeffect), (⟨[5], [1]⟩ : Bytecodeeffect)] (fun _ => rfl)) rfl) (s_sa ?_)
    refine aops_nil ?_
    cases Option.some.inj h
    refine aw_freeze 10 rfl ?_
    exact aw_ret ⟨rfl, rv r1⟩
  replace h := Md.cond_f h c41
  refine aw_seq (aw_region (s_cm ?_))
  refine s_sa ?_
  refine aops_nil ?_
  refine aw_cond rfl (fun c42 => ?_) (fun c42 => ?_)
  · replace h := Md.cond_t h c42
    refine aw_seq (aw_region (aops_step1 rfl (st_slice_lit (el := lsEl c_Int [4, 1]) 4 rfl rfl rfl rfl rfl rfl rfl rfl (lit_el c_Int 1 [4, 1] (fun _ => rfl)) rfl) ?_))
    refine aops_step1 rfl (st_slice_lit (el := lsEl c_Int [1]) 5 rfl rfl rfl rfl rfl rfl rfl rfl (lit_el c_Int 1 [1] (fun _ => rfl)) rfl) ?_
    refine aops_step1 rfl (ev_build' (out := [_, _]) rfl rfl rfl rfl rfl) ?_
    refine aops_step1 rfl (st_slice_lit (el := lsEl c_Int [5, 1]) 6 rfl rfl rfl rfl rfl rfl rfl rfl (lit_el c_Int 1 [5, 1] (fun _ => rfl)) rfl) ?_
    refine aops_step1 rfl (st_slice_lit (el := lsEl c_Int [3]) 7 rfl rfl rfl rfl rfl rfl rfl rfl (lit_el c_Int 1 [3] (fun _ => rfl)) rfl) ?_
    refine aops_step1 rfl (ev_build' (out := [_, _]) rfl rfl rfl rfl rfl) (aops_freeze 4 rfl (aops_freeze 5 rfl (aops_freeze 6 rfl (aops_freeze 7 rfl ?_))))
    refine aops_step1 rfl (st_slice_lit (el := lsEl c_Bytecodeeffect [(⟨[4, 1], [1]⟩ : Bytecodeeffect), (⟨[5, 1], [3]⟩ : Bytecodeeffect)]) 8 rfl rfl rfl rfl rfl rfl rfl rfl (lit_el c_Bytecodeeffect 2 [(⟨[4, 1], [1]⟩ : Bytecodeeffect), (⟨[5, 1], [3]⟩ : Bytecodeeffect)] (fun _ => rfl)) rfl) (s_sa ?_)
    refine aops_nil ?_
    cases Option.some.inj h
    refine aw_freeze 8 rfl ?_
    exact aw_ret ⟨rfl, rv r1⟩
  replace h := Md.cond_f h c42
  refine aw_seq (aw_region (s_cm ?_))
  refine s_sa ?_
  refine aops_nil ?_
  refine aw_cond rfl (fun c43 => ?_) (fun c43 => ?_)
  · replace h := Md.cond_t h c43
    refine aw_seq (aw_region (aops_step1 rfl (st_slice_lit (el := lsEl c_Int [4, 1]) 4 rfl rfl rfl rfl rfl rfl rfl rfl (lit_el c_Int 1 [4, 1] (fun _ => rfl)) rfl) ?_))
    refine aops_step1 rfl (st_slice_lit (el := lsEl c_Int [4]) 5 rfl rfl rfl rfl rfl rfl rfl rfl (lit_el c_Int 1 [4] (fun _ => rfl)) rfl) ?_
    refine aops_step1 rfl (ev_build' (out := [_, _]) rfl rfl rfl rfl rfl) ?_
    refine aops_step1 rfl (st_slice_lit (el := lsEl c_Int [5, 3]) 6 rfl rfl rfl rfl rfl rfl rfl rfl (lit_el c_Int 1 [5, 3] (fun _ => rfl)) rfl) ?_
    refine aops_step1 rfl (st_slice_lit (el := lsEl c_Int [5]) 7 rfl rfl rfl rfl rfl rfl rfl rfl (lit_el c_Int 1 [5] (fun _ => rfl)) rfl) ?_
    refine aops_step1 rfl (ev_build' (out := [_, _]) rfl rfl rfl rfl rfl) (aops_freeze 4 rfl (aops_freeze 5 rfl (aops_freeze 6 rfl (aops_freeze 7 rfl ?_))))
    refine aops_step1 rfl (st_slice_lit (el := lsEl c_Bytecodeeffect [(⟨[4, 1], [4]⟩ : Bytecodeeffect), (⟨[5, 3], [5]⟩ : Bytecodeeffect)]) 8 rfl rfl rfl rfl rfl rfl rfl rfl (lit_el c_Bytecodeeffect 2 [(⟨[4, 1], [4]⟩ : Bytecodeeffect), (⟨[5, 3], [5]⟩ : Bytecodeeffect)] (fun _ => rfl)) rfl) (s_sa ?_)
    refine aops_nil ?_
    cases Option.some.inj h
    refine aw_freeze 8 rfl ?_
    exact aw_ret ⟨rfl, rv r1⟩
  replace h := Md.cond_f h c43
  refine aw_seq (aw_region (s_cm ?_))
  refine s_sa ?_
  refine aops_nil ?_
  refine aw_cond rfl (fun c44 => ?_) (fun c44 => ?_)
  · replace h := Md.cond_t h c44
    refine aw_seq (aw_region ?_)
    refine aops_step1 rfl (st_slice_lit (el := lsEl c_Int [4, 1, 1]) 4 rfl rfl rfl rfl rfl rfl rfl rfl (lit_el c_Int 1 [4, 1, 1] (fun _ => rfl)) rfl) ?_
    refine aops_step1 rfl (st_slice_lit (el := lsEl c_Int [4]) 5 rfl rfl rfl rfl rfl rfl rfl rfl (lit_el c_Int 1 [4] (fun _ => rfl)) rfl) ?_
    refine aops_step1 rfl (ev_build' (out := [_, _]) rfl rfl rfl rfl rfl) ?_
    refine aops_step1 rfl (st_slice_lit (el := lsEl c_Int [5, 1, 3]) 6 rfl rfl rfl rfl rfl rfl rfl rfl (lit_el c_Int 1 [5, 1, 3] (fun _ => rfl)) rfl) ?_
    refine aops_step1 rfl (st_slice_lit (el := lsEl c_Int [5]) 7 rfl rfl rfl rfl rfl rfl rfl rfl (lit_el c_Int 1 [5] (fun _ => rfl)) rfl) ?_
    refine aops_step1 rfl (ev_build' (out := [_, _]) rfl rfl rfl rfl rfl) (aops_freeze 4 rfl (aops_freeze 5 rfl (aops_freeze 6 rfl (aops_freeze 7 rfl ?_))))
    refine aops_step1 rfl (st_slice_lit (el := lsEl c_Bytecodeeffect [(⟨[4, 1, 1], [4]⟩ : Bytecodeeffect), (⟨[5, 1, 3], [5]⟩ : Bytecodeeffect)]) 8 rfl rfl rfl rfl rfl rfl rfl rfl (lit_el c_Bytecodeeffect 2 [(⟨[4, 1, 1], [4]⟩ : Bytecodeeffect), (⟨[5, 1, 3], [5]⟩ : Bytecodeeffect)] (fun _ => rfl)) rfl) (s_sa ?_)
    refine aops_nil ?_
    cases Option.some.inj h
    refine aw_freeze 8 rfl ?_
    exact aw_ret ⟨rfl, rv r1⟩
  replace h := Md.cond_f h c44
  refine aw_seq (aw_region (s_cm ?_))
  refine s_sa ?_
  refine aops_nil ?_
  refine aw_cond rfl (fun c45 => ?_) (fun c45 => ?_)
  · replace h := Md.cond_t h c45
    refine aw_seq (aw_region (s_mv ?_))
    refine aops_step1 rfl (st_slice_lit (el := lsEl c_Int [1]) 4 rfl rfl rfl rfl rfl rfl rfl rfl (lit_el c_Int 1 [1] (fun _ => rfl)) rfl) ?_
    refine aops_step1 rfl (st_slice_lit (el := lsEl c_Int [3]) 5 rfl rfl rfl rfl rfl rfl rfl rfl (lit_el c_Int 1 [3] (fun _ => rfl)) rfl) ?_
    obtain ⟨x46, hx46, h⟩ := Md.bind_s h
    refine aops_freeze 4 rfl (aops_freeze 5 rfl ?_)
    refine aops_step1 rfl (ev_callee rfl (st_call_r (r' := .one (.own 6)) 6 rfl (bytecode_effects_1_fn k [1] [3] x46 hx46) rfl [] ai rfl rfl rfl (.inl rfl) rfl rfl)) (s_sa ?_)
    refine aops_nil ?_
    cases Option.some.inj h
    refine aw_freeze 6 rfl ?_
    exact aw_ret ⟨rfl, rv r1⟩
  replace h := Md.cond_f h c45
  refine aw_seq (aw_region (s_cm ?_))
  refine s_sa ?_
  refine aops_nil ?_
  refine aw_cond rfl (fun c47 => ?_) (fun c47 => ?_)
  · replace h := Md.cond_t h c47
    refine aw_seq (aw_region (s_mv ?_))
    refine s_fd ?_
    refine s_ld ?_
    obtain ⟨x48, hx48, h⟩ := Md.bind_s h
    refine aops_step1 rfl (ev_call_v (bytecode_repeat_fn k 1 a3.A x48 hx48) rfl [] ai rfl rfl rfl (.inl rfl) rfl) ?_
    refine aops_step1 rfl (st_slice_lit (el := lsEl c_Int [4]) 4 rfl rfl rfl rfl rfl rfl rfl rfl (lit_el c_Int 1 [4] (fun _ => rfl)) rfl) ?_
    obtain ⟨x49, hx49, h⟩ := Md.bind_s h
    refine aops_freeze 4 rfl ?_
    refine aops_step1 rfl (ev_callee rfl (st_call_r (r' := .one (.own 5)) 5 rfl (bytecode_effects_1_fn k x48 [4] x49 hx49) rfl [] ai rfl rfl rfl (.inl rfl) rfl rfl)) (s_sa ?_)
    refine aops_nil ?_
    cases Option.some.inj h
    refine aw_freeze 5 rfl ?_
    exact aw_ret ⟨rfl, rv r1⟩
  replace h := Md.cond_f h c47
  refine aw_seq (aw_region (s_cm ?_))
  refine s_sa ?_
  refine aops_nil ?_
  refine aw_cond rfl (fun c50 => ?_) (fun c50 => ?_)
  · replace h := Md.cond_t h c50
    refine aw_seq (aw_region (s_mv ?_))
    refine s_fd ?_
    refine s_ld ?_
    obtain ⟨x51, hx51, h⟩ := Md.bind_s h
    refine aops_step1 rfl (ev_call_v (bytecode_repeat_fn k 3 a3.A x51 hx51) rfl [] ai rfl rfl rfl (.inl rfl) rfl) ?_
    refine aops_step1 rfl (st_slice_lit (el := lsEl c_Int [5]) 4 rfl rfl rfl rfl rfl rfl rfl rfl (lit_el c_Int 1 [5] (fun _ => rfl)) rfl) ?_
    obtain ⟨x52, hx52, h⟩ := Md.bind_s h
    refine aops_freeze 4 rfl ?_
    refine aops_step1 rfl (ev_callee rfl (st_call_r (r' := .one (.own 5)) 5 rfl (bytecode_effects_1_fn k x51 [5] x52 hx52) rfl [] ai rfl rfl rfl (.inl rfl) rfl rfl)) (s_sa ?_)
    refine aops_nil ?_
    cases Option.some.inj h
    refine aw_freeze 5 rfl ?_
    exact aw_ret ⟨rfl, rv r1⟩
  replace h := Md.cond_f h c50
  refine aw_seq (aw_region (s_cm ?_))
  refine s_sa ?_
  refine aops_nil ?_
  refine aw_cond rfl (fun c53 => ?_) (fun c53 => ?_)
  · replace h := Md.cond_t h c53
    refine aw_seq (aw_region (s_mv ?_))
    refine aops_step1 rfl (st_slice_lit (el := lsEl c_Int [2]) 4 rfl rfl rfl rfl rfl rfl rfl rfl (lit_el c_Int 1 [2] (fun _ => rfl)) rfl) ?_
    obtain ⟨x54, hx54, h⟩ := Md.bind_s h
    refine aops_freeze 4 rfl ?_
    refine aops_step1 rfl (ev_callee rfl (st_call_r (r' := .one (.own 5)) 5 rfl (bytecode_effects_1_fn k [2] ([] : List Int) x54 hx54) rfl [] ai rfl rfl rfl (.inl rfl) rfl rfl)) (s_sa ?_)
    refine aops_nil ?_
    cases Option.some.inj h
    refine aw_freeze 5 rfl ?_
    exact aw_ret ⟨rfl, rv r1⟩
  replace h := Md.cond_f h c53
  refine aw_seq (aw_region (s_cm ?_))
  refine s_sa ?_
  refine aops_nil ?_
  refine aw_cond rfl (fun c55 => ?_) (fun c55 => ?_)
  · replace h := Md.cond_t h c55
    obtain ⟨g56, h⟩ := Md.ifp_s h
    obtain ⟨g57, h⟩ := Md.ifp_s h
    refine aw_seq ?_
    apply aw_draw 12 ((⟨[], .one (.ptr 0 _)⟩ : Add) :: ⟨[], .one (CV.ls c_CodeType a0.Types)⟩ :: ⟨[], .one (.ptr 3 _)⟩ :: ⟨[], vI a3.A⟩ :: ⟨[], .one (.cptr _)⟩ :: ⟨[], .one (.cptr _)⟩ :: ⟨[], .one (CV.ls c_CodeMethod ((a0.Types.getD ((a3.A).toNat) default).Methods))⟩ :: ⟨[], .one (.ptr 3 _)⟩ :: ⟨[], vI a3.B⟩ :: ⟨[], .one (.cptr _)⟩ :: ⟨[], .agg (c_CodeMethod (((a0.Types.getD ((a3.A).toNat) default).Methods).getD ((a3.B).toNat) default))⟩ :: ⟨[(4, some (.box [.val (Sv []), .val (.slice none 0 0), cI 0, .val (.slice none 0 0), .val (.slice none 0 0)]))], .one (.ptr 4 _)⟩ :: []) (by decide) rfl ?hk1x ?hf1x ?ho1x ?hr1x
    case ho1x =>
     refine ob [] (fun S hle hfr => .inl ⟨w0, ev_field (hle.e rfl) rfl (hle.d rfl)⟩) ?_
     refine ob [0] (fun S hle hfr => .inl ⟨w0, ev_load (hle.e rfl) (hle.heap _ _ rfl) rfl (hle.d rfl)⟩) ?_
     refine ob [] (fun S hle hfr => .inl ⟨w0, ev_field (hle.e rfl) rfl (hle.d rfl)⟩) ?_
     refine ob [2] (fun S hle hfr => .inl ⟨w0, ev_load (hle.e rfl) (hle.heap _ _ rfl) rfl (hle.d rfl)⟩) ?_
     refine ob [1, 3, 0, 2] (fun S hle hfr => .inl ⟨w0, ev_index_in (hle.e rfl) (hle.e rfl) (Md.idx_eq g56) (Md.idx_lt g56) rfl (hle.d rfl)⟩) ?_
     refine ob [4, 1, 3, 0, 2] (fun S hle hfr => .inl ⟨w0, ev_field_in (hle.e rfl) rfl (hle.d rfl)⟩) ?_
     refine ob [5, 4, 1, 3, 0, 2] (fun S hle hfr => .inl ⟨w0, ev_load_in (hle.e rfl) rfl (hle.d rfl)⟩) ?_
     refine ob [] (fun S hle hfr => .inl ⟨w0, ev_field (hle.e rfl) rfl (hle.d rfl)⟩) ?_
     refine ob [7] (fun S hle hfr => .inl ⟨w0, ev_load (hle.e rfl) (hle.heap _ _ rfl) rfl (hle.d rfl)⟩) ?_
     refine ob [6, 8, 5, 7, 4, 1, 3, 0, 2] (fun S hle hfr => .inl ⟨w0, ev_index_in (hle.e rfl) (hle.e rfl) (Md.idx_eq g57) (Md.idx_lt g57) rfl (hle.d rfl)⟩) ?_
     refine ob [9, 6, 8, 5, 7, 4, 1, 3, 0, 2] (fun S hle hfr => .inl ⟨w0, ev_loads_in (ds := [_, _, _, _, _]) (hle.e rfl) rfl rfl (hle.d rfl)⟩) ?_
     refine ob [] (fun S hle hfr => .inl ⟨w0, st_alloc (cs := [.val (Sv []), .val (.slice none 0 0), cI 0, .val (.slice none 0 0), .val (.slice none 0 0)]) 4 (hfr _ (List.mem_singleton.2 rfl)) rfl rfl rfl (hle.d rfl)⟩) ?_
     exact trivial
    case hk1x => rfl
    case hf1x => rfl
    refine s_st [_, _, _, _, _] ?_
    refine aops_nil ?_
    obtain ⟨g58, h⟩ := Md.ifp_s h
    obtain ⟨x59, hx59, h⟩ := Md.bind_s h
    obtain ⟨x60, hx60, h⟩ := Md.bind_s h
    refine aw_seq ?_
    apply aw_draw 7 ((⟨[], .one (.fn 84 [])⟩ : Add) :: ⟨[], .one (.full [3].length (lsEl c_Int [3]))⟩ :: ⟨[], .one (.ptr 4 _)⟩ :: ⟨[], .one (CV.ls c_Int ((((a0.Types.getD ((a3.A).toNat) default).Methods).getD ((a3.B).toNat) default).Params))⟩ :: ⟨[], .one (CV.ls c_Int ([3] ++ ((((a0.Types.getD ((a3.A).toNat) default).Methods).getD ((a3.B).toNat) default).Params)))⟩ :: ⟨[], .agg (c_CodeMethod (((a0.Types.getD ((a3.A).toNat) default).Methods).getD ((a3.B).toNat) default))⟩ :: ⟨[], .one (CV.ls c_Int x59)⟩ :: []) (by decide) rfl ?hk2x ?hf2x ?ho2x ?hr2x
    case ho2x =>
     refine ob [] (fun S hle hfr => .inl ⟨w0, st_move (hle.e rfl) (hle.d rfl)⟩) ?_
     refine ob [] (fun S hle hfr => .inl ⟨w0, st_slice_lit_f (el := lsEl c_Int [3]) (map_ev2 (.cons (hle.e rfl) (.nil))) rfl rfl rfl rfl rfl rfl (lit_el c_Int 1 [3] (fun _ => rfl)) (hle.d rfl)⟩) ?_
     refine ob [] (fun S hle hfr => .inl ⟨w0, ev_field (hle.e rfl) rfl (hle.d rfl)⟩) ?_
     refine ob [2] (fun S hle hfr => .inl ⟨w0, ev_load (hle.e rfl) (hle.heap _ _ rfl) rfl (hle.d rfl)⟩) ?_
     refine ob [1, 3, 2] (fun S hle hfr => .inl ⟨w0, st_app_full_z (f := c_Int) [3] ((((a0.Types.getD ((a3.A).toNat) default).Methods).getD ((a3.B).toNat) default).Params) (fun _ => rfl) (hle.e rfl) (.inl (hle.e rfl)) (by omega) (by omega) (hle.d rfl)⟩) ?_
     refine ob [] (fun S hle hfr => .inl ⟨w0, ev_loads (ds := [_, _, _, _, _]) (hle.e rfl) (hle.heap _ _ rfl) rfl rfl (hle.d rfl)⟩) ?_
     refine ob [5, 4, 1, 3, 2] (fun S hle hfr => .inl ⟨w0, ev_call_v (bytecode_result_fn k (((a0.Types.getD ((a3.A).toNat) default).Methods).getD ((a3.B).toNat) default) x59 hx59) (map_ev (.cons (hle.e rfl) (.nil))) [] (by repeat' (first | exact .nil | refine .cons ?_ ?_ | refine .one ?_ | refine .agg ?_ | exact .mk rfl | exact .lend (hle.heap _ _ rfl) (by simp) | exact .le (.nil _) rfl | exact .le (.emp _) rfl | exact .le (.any _) rfl | fail)) rfl rfl rfl (.inl rfl) (hle.d rfl)⟩) ?_
     exact trivial
    case hk2x => rfl
    case hf2x => rfl
    refine aops_step1 rfl (ev_callee rfl (st_call_z (bytecode_effects_1_fn k ([3] ++ ((((a0.Types.getD ((a3.A).toNat) default).Methods).getD ((a3.B).toNat) default).Params)) x59 x60 hx60) rfl [] (fun _ => ai) rfl (.inl rfl) rfl)) (s_sa ?_)
    refine aops_nil ?_
    cases Option.some.inj h
    exact aw_ret ⟨rfl, rv r1⟩
  replace h := Md.cond_f h c55
  refine aw_seq (aw_region (s_cm ?_))
  refine s_sa ?_
  refine aops_nil ?_
  refine aw_cond rfl (fun c61 => ?_) (fun c61 => ?_)
  · replace h := Md.cond_t h c61
    refine aw_seq (aw_region ?_)
    iterate 2 refine s_mv ?_
    refine aops_step1 rfl (st_slice_lit (el := lsEl c_Int [a4]) 4 rfl rfl rfl rfl rfl rfl rfl rfl (lit_el c_Int 1 [a4] (fun _ => rfl)) rfl) ?_
    obtain ⟨x62, hx62, h⟩ := Md.bind_s h
    refine aops_freeze 4 rfl ?_
    refine aops_step1 rfl (ev_callee rfl (st_call_r (r' := .one (.own 5)) 5 rfl (bytecode_effects_1_fn k [a4] ([] : List Int) x62 hx62) rfl [] ai rfl rfl rfl (.inl rfl) rfl rfl)) (s_sa ?_)
    refine aops_nil ?_
    cases Option.some.inj h
    refine aw_freeze 5 rfl ?_
    exact aw_ret ⟨rfl, rv r1⟩
  replace h := Md.cond_f h c61
  refine aw_seq (aw_region (s_cm ?_))
  refine s_sa ?_
  refine aops_nil ?_
  refine aw_cond rfl (fun c63 => ?_) (fun c63 => ?_)
  · replace h := Md.cond_t h c63
    refine aw_seq (aw_region (s_mv ?_))
    refine s_ls [_, _, _, _, _] ?_
    obtain ⟨x64, hx64, h⟩ := Md.bind_s h
    refine aops_step1 rfl (ev_call_v (bytecode_result_fn k a2 x64 hx64) rfl [] ai rfl rfl rfl (.inl rfl) rfl) ?_
    obtain ⟨x65, hx65, h⟩ := Md.bind_s h
    refine aops_step1 rfl (ev_callee rfl (st_call_r (r' := .one (.own 4)) 4 rfl (bytecode_effects_1_fn k x64 ([] : List Int) x65 hx65) rfl [] ai rfl rfl rfl (.inl rfl) rfl rfl)) (s_sa ?_)
    refine aops_nil ?_
    cases Option.some.inj h
    refine aw_freeze 4 rfl ?_
    exact aw_ret ⟨rfl, rv r1⟩
  replace h := Md.cond_f h c63
  refine aw_seq (aw_region (s_cm ?_))
  refine s_sa ?_
  refine aops_nil ?_
  refine aw_cond rfl (fun c66 => ?_) (fun c66 => ?_)
  · replace h := Md.cond_t h c66
    refine aw_seq (aw_region (s_mv ?_))
    refine aops_step1 rfl (st_slice_lit (el := lsEl c_Int [3, 1]) 4 rfl rfl rfl rfl rfl rfl rfl rfl (lit_el c_Int 1 [3, 1] (fun _ => rfl)) rfl) ?_
    obtain ⟨x67, hx67, h⟩ := Md.bind_s h
    refine aops_freeze 4 rfl ?_
    refine aops_step1 rfl (ev_callee rfl (st_call_r (r' := .one (.own 5)) 5 rfl (bytecode_effects_1_fn k [3, 1] ([] : List Int) x67 hx67) rfl [] ai rfl rfl rfl (.inl rfl) rfl rfl)) (s_sa ?_)
    refine aops_nil ?_
    cases Option.some.inj h
    refine aw_freeze 5 rfl ?_
    exact aw_ret ⟨rfl, rv r1⟩
  replace h := Md.cond_f h c66
  refine aw_seq (aw_region (s_cm ?_))
  refine s_sa ?_
  refine aops_nil ?_
  refine aw_cond rfl (fun c68 => ?_) (fun c68 => ?_)
  · replace h := Md.cond_t h c68
    refine aw_seq (aw_region (s_mv ?_))
    refine aops_step1 rfl (st_slice_lit (el := lsEl c_Int [3, 1, 1]) 4 rfl rfl rfl rfl rfl rfl rfl rfl (lit_el c_Int 1 [3, 1, 1] (fun _ => rfl)) rfl) ?_
    obtain ⟨x69, hx69, h⟩ := Md.bind_s h
    refine aops_freeze 4 rfl ?_
    refine aops_step1 rfl (ev_callee rfl (st_call_r (r' := .one (.own 5)) 5 rfl (bytecode_effects_1_fn k [3, 1, 1] ([] : List Int) x69 hx69) rfl [] ai rfl rfl rfl (.inl rfl) rfl rfl)) (s_sa ?_)
    refine aops_nil ?_
    cases Option.some.inj h
    refine aw_freeze 5 rfl ?_
    exact aw_ret ⟨rfl, rv r1⟩
  replace h := Md.cond_f h c68
  refine aw_seq (aw_region (s_cm ?_))
  refine s_sa ?_
  refine aops_nil ?_
  refine aw_cond rfl (fun c70 => ?_) (fun c70 => ?_)
  · replace h := Md.cond_t h c70
    refine aw_seq (aw_region (s_mv ?_))
    refine aops_step1 rfl (st_slice_lit (el := lsEl c_Int [3]) 4 rfl rfl rfl rfl rfl rfl rfl rfl (lit_el c_Int 1 [3] (fun _ => rfl)) rfl) ?_
    obtain ⟨x71, hx71, h⟩ := Md.bind_s h
    refine aops_freeze 4 rfl ?_
    refine aops_step1 rfl (ev_callee rfl (st_call_r (r' := .one (.own 5)) 5 rfl (bytecode_effects_1_fn k [3] ([] : List Int) x71 hx71) rfl [] ai rfl rfl rfl (.inl rfl) rfl rfl)) (s_sa ?_)
    refine aops_nil ?_
    cases Option.some.inj h
    refine aw_freeze 5 rfl ?_
    exact aw_ret ⟨rfl, rv r1⟩
  replace h := Md.cond_f h c70
  refine aw_skip (aw_seq (aw_region (s_mv ?_)))
  obtain ⟨x72, hx72, h⟩ := Md.bind_s h
  refine aops_step1 rfl (ev_callee rfl (st_call_r (r' := .one (.own 4)) 4 rfl (bytecode_effects_1_fn k ([] : List Int) ([] : List Int) x72 hx72) rfl [] ai rfl rfl rfl (.inl rfl) rfl rfl)) (s_sa ?_)
  refine aops_nil ?_
  cases Option.some.inj h
  refine aw_freeze 4 rfl ?_
  exact aw_ret ⟨rfl, rv r1⟩
set_option maxHeartbeats 2000000 in
theorem bytecode_after_fn (k : Nat) (a0 : Code) (a1 : CodeType) (a2 : CodeMethod) (a3 : Instr) (a4 : List Int) (r : (List Int) × Bool) (h : bytecode_after k a0 a1 a2 a3 a4 = some r) : FnC Try.prog 43 [.agg [CV.ls c_CodeType a0.Types], .agg (c_CodeType a1), .agg (c_CodeMethod a2), .agg (c_Instr a3), .one (CV.ls c_Int a4)] [] (Det (.tup [.one (CV.ls c_Int r.1), vB r.2]) []) := by
  unfold bytecode_after at h
  refine fn_intro' 92 Try.func43 rfl rfl rfl (aw_seq (aw_region (aops_step1 rfl (st_box 0 rfl rfl rfl rfl) (aops_step1 rfl (st_box 1 rfl rfl rfl rfl) ?_))))
  refine aops_step1 rfl (st_box 2 rfl rfl rfl rfl) (aops_step1 rfl (st_box 3 rfl rfl rfl rfl) ?_)
  iterate 2 refine s_sa ?_
  refine aops_nil (aw_seq (aw_region (s_sa ?_)))
  refine aops_nil ?_
  obtain ⟨o1, j1, h⟩ := Md.bind_s h
  refine aw_cut (ε := Int) (fun x => (⟨92, [], [(4, .one (CV.ls c_Int a4)), (5, .one (.ptr 0 0)), (6, .one (.ptr 1 0)), (7, .one (.ptr 2 0)), (8, .one (.ptr 3 0)), (12, vI x)], [(0, some (.box [CV.ls c_CodeType a0.Types])), (1, some (.box (c_CodeType a1))), (2, some (.box (c_CodeMethod a2))), (3, some (.box (c_Instr a3)))]⟩ : ASt)) (fun x => Sum.inl x = o1) ?_ ?_
  · intro x1_0 hI1
    subst hI1
    replace h := Md.onS_l h
    change AW _ _ (⟨92, [], [(4, .one (CV.ls c_Int a4)), (5, .one (.ptr 0 0)), (6, .one (.ptr 1 0)), (7, .one (.ptr 2 0)), (8, .one (.ptr 3 0)), (12, vI x1_0)], [(0, some (.box [CV.ls c_CodeType a0.Types])), (1, some (.box (c_CodeType a1))), (2, some (.box (c_CodeMethod a2))), (3, some (.box (c_Instr a3)))]⟩ : ASt) _
    obtain ⟨o2, j2, h⟩ := Md.bind_s h
    refine aw_cut (ε := Unit) (fun x => (⟨92, [], [], []⟩ : ASt)) (fun x => Sum.inl x = o2) ?_ ?_
    · intro x2_0 hI2
      subst hI2
      replace h := Md.onS_l h
      change AW _ _ (⟨92, [], [], []⟩ : ASt) _
      refine aw_seq (aw_region ?_)
      iterate 2 refine s_sa ?_
      refine aops_nil ?_
      cases Option.some.inj h
      exact aw_ret ⟨rfl, rv (rn (.cons o1 (.cons o1 .nil)))⟩
    refine aw_seq (aw_region (s_ls [_] ?_))
    refine s_ls [_, _, _] ?_
    refine s_ls [_, _, _, _, _] ?_
    refine s_ls [_, _, _, _, _, _, _, _] ?_
    refine s_mv ?_
    obtain ⟨x3, hx3, j2⟩ := Md.bind_s j2
    refine aops_step1 rfl (ev_call_v (bytecode_effects_fn k a0 a1 a2 a3 x1_0 x3 hx3) rfl [] ai rfl rfl rfl (.inl rfl) rfl) (s_ln ?_)
    refine s_mv ?_
    refine aops_nil (aw_block ?_)
    obtain ⟨o4, ho4, j2⟩ := Md.bind_s j2
    refine aw_loop (ι := {p : Nat × Nat // bytecode_after_loop1 k a3 a4 x3 p.1 p.2 = some o4}) (fun p => (⟨92, [], [(4, .one (CV.ls c_Int a4)), (8, .one (.ptr 3 0)), (43, .one (CV.ls c_Bytecodeeffect x3)), (44, vI ((x3.length : Nat) : Int)), (45, vI ((p.1.2 : Nat) : Int))], [(3, some (.box (c_Instr a3)))]⟩ : ASt)) (fun p => p.1.1) ⟨(k, 0), ho4⟩ wk ?_
    intro p4
    obtain ⟨⟨n4, s4_0⟩, l4⟩ := p4
    change AW _ _ (⟨92, [], [(4, .one (CV.ls c_Int a4)), (8, .one (.ptr 3 0)), (43, .one (CV.ls c_Bytecodeeffect x3)), (44, vI ((x3.length : Nat) : Int)), (45, vI ((s4_0 : Nat) : Int))], [(3, some (.box (c_Instr a3)))]⟩ : ASt) _
    replace l4 : bytecode_after_loop1 k a3 a4 x3 n4 s4_0 = some o4 := l4
    rcases n4 with _ | n4
    · exact absurd (show none = some o4 from l4) nofun
    rw [bytecode_after_loop1] at l4
    refine aw_seq (aw_region (s_cm ?_))
    refine aops_nil (aw_seq ?_)
    refine aw_cond rfl (fun c5 => ?_) (fun c5 => ?_)
    · replace l4 := Md.cond_t l4 c5
      refine aw_skip ?_
      obtain ⟨o6, j6, l4⟩ := Md.bind_s l4
      refine aw_cut (ε := Unit) (fun x => (⟨92, [], [(4, .one (CV.ls c_Int a4)), (8, .one (.ptr 3 0)), (43, .one (CV.ls c_Bytecodeeffect x3)), (44, vI ((x3.length : Nat) : Int)), (45, vI ((s4_0 : Nat) : Int))], [(3, some (.box (c_Instr a3)))]⟩ : ASt)) (fun x => Sum.inl x = o6) ?_ ?_
      · intro x6_0 hI6
        subst hI6
        replace l4 := Md.onS_l l4
        change AW _ _ (⟨92, [], [(4, .one (CV.ls c_Int a4)), (8, .one (.ptr 3 0)), (43, .one (CV.ls c_Bytecodeeffect x3)), (44, vI ((x3.length : Nat) : Int)), (45, vI ((s4_0 : Nat) : Int))], [(3, some (.box (c_Instr a3)))]⟩ : ASt) _
        refine aw_region ?_
        obtain ⟨g7, l4⟩ := Md.ifp_s l4
        refine aops_step1 rfl (ev_add rfl rfl rfl (Md.nat_add g7)) (s_mv ?_)
        refine aops_nil ?_
        exact ⟨⟨(n4, (s4_0 + 1)), l4⟩, Nat.lt_succ_self _, wk⟩
      refine aw_block (aw_seq (aw_region ?_))
      obtain ⟨g8, j6⟩ := Md.ifp_s j6
      refine aops_step1 rfl (ev_index_in rfl rfl rfl g8 rfl rfl) (aops_step1 rfl (ev_loads_in (ds := [_, _]) rfl rfl rfl rfl) ?_)
      refine aops_step1 rfl (st_alloc (cs := [.val (.slice none 0 0), .val (.slice none 0 0)]) 4 rfl rfl rfl rfl rfl) (s_st [_, _] ?_)
      refine aops_nil (aw_seq (aw_region (s_mv ?_)))
      refine s_ln ?_
      refine s_fd ?_
      refine s_ld ?_
      refine s_ln ?_
      refine aops_step1 rfl (ev_sub rfl rfl rfl (Md.wrap_W _)) (s_sa ?_)
      refine aops_nil (aw_seq ?_)
      rcases Md.bool_or ((decide ((Md.W (((a4.length : Nat) : Int) - ((((x3.getD s4_0 default).takes).length : Nat) : Int))) < 0))) with q9 | q9
      · replace j6 := Md.cond_t j6 q9
        refine aw_seq ?_
        apply aw_draw 8 ((⟨[], vI (Md.W (((a4.length : Nat) : Int) - ((((x3.getD s4_0 default).takes).length : Nat) : Int)))⟩ : Add) :: ⟨[], vB (decide ((Md.W (((a4.length : Nat) : Int) - ((((x3.getD s4_0 default).takes).length : Nat) : Int))) < 0))⟩ :: ⟨[], vB (decide ((Md.W (((a4.length : Nat) : Int) - ((((x3.getD s4_0 default).takes).length : Nat) : Int))) < 0))⟩ :: ⟨[], .tup []⟩ :: ⟨[], .tup []⟩ :: ⟨[], .tup []⟩ :: ⟨[], .tup []⟩ :: ⟨[], .tup []⟩ :: []) (by decide) rfl ?hk58x ?hf58x ?ho58x ?hr58x
        case ho58x =>
         refine ob [] (fun S hle hfr => .inl ⟨w0, st_move (hle.e rfl) (hle.d rfl)⟩) (ob [0] (fun S hle hfr => .inl ⟨w0, ev_cmp (hle.e rfl) (hle.e rfl) (hle.d rfl) rfl⟩) ?_)
         refine ob [1, 0] (fun S hle hfr => .inl ⟨w0, st_move (hle.e rfl) (hle.d rfl)⟩) (ob [2, 1, 0] (fun S hle hfr => nw hle q9) ?_)
         refine ob [2, 1, 0] (fun S hle hfr => nw hle q9) (ob [3, 4, 2, 1, 0] (fun S hle hfr => nw hle q9) (ob [2, 1, 0] (fun S hle hfr => nw hle q9) ?_))
         refine ob [6, 2, 1, 0] (fun S hle hfr => nw hle q9) ?_
         exact trivial
        case hk58x => rfl
        case hf58x => rfl
        iterate 2 refine np q9 ?_
        refine s_py q9 ?_
        refine aops_nil (aw_yes rfl (rfl) (aw_exit ?_))
        show ∃ _x : Unit, _ = _ ∧ Weak _ _
        exact ⟨(), Option.some.inj j6, wk⟩
      replace j6 := Md.cond_f j6 q9
      obtain ⟨g10, j6⟩ := Md.ifp_s j6
      obtain ⟨g11, j6⟩ := Md.ifp_s j6
      obtain ⟨x12, hx12, j6⟩ := Md.bind_s j6
      refine aw_seq ?_
      apply aw_draw 8 ((⟨[], vI (Md.W (((a4.length : Nat) : Int) - ((((x3.getD s4_0 default).takes).length : Nat) : Int)))⟩ : Add) :: ⟨[], vB (decide ((Md.W (((a4.length : Nat) : Int) - ((((x3.getD s4_0 default).takes).length : Nat) : Int))) < 0))⟩ :: ⟨[], vB (decide ((Md.W (((a4.length : Nat) : Int) - ((((x3.getD s4_0 default).takes).length : Nat) : Int))) < 0))⟩ :: ⟨[], .one (CV.ls c_Int a4)⟩ :: ⟨[], vI (Md.W (((a4.length : Nat) : Int) - ((((x3.getD s4_0 default).takes).length : Nat) : Int)))⟩ :: ⟨[], .one (CV.ls c_Int (a4.drop (((Md.W (((a4.length : Nat) : Int) - ((((x3.getD s4_0 default).takes).length : Nat) : Int)))).toNat)))⟩ :: ⟨[], .one (.ptr 4 _)⟩ :: ⟨[], .one (CV.ls c_Int ((x3.getD s4_0 default).takes))⟩ :: []) (by decide) rfl ?hk59x ?hf59x ?ho59x ?hr59x
      case ho59x =>
       refine ob [] (fun S hle hfr => .inl ⟨w0, st_move (hle.e rfl) (hle.d rfl)⟩) (ob [0] (fun S hle hfr => .inl ⟨w0, ev_cmp (hle.e rfl) (hle.e rfl) (hle.d rfl) rfl⟩) ?_)
       refine ob [1, 0] (fun S hle hfr => .inl ⟨w0, st_move (hle.e rfl) (hle.d rfl)⟩) ?_
       refine ob [2, 1, 0] (fun S hle hfr => .inl ⟨wy hle q9, st_move (hle.e rfl) (hle.d rfl)⟩) ?_
       refine ob [2, 1, 0] (fun S hle hfr => .inl ⟨wy hle q9, st_move (hle.e rfl) (hle.d rfl)⟩) ?_
       refine ob [3, 4, 2, 1, 0] (fun S hle hfr => .inl ⟨wy hle q9, st_cut_lo (f := c_Int) (fun _ => rfl) (hle.e rfl) ⟨_, _, (hle.e rfl), (Md.nn_eq g10)⟩ g11 (hle.d rfl)⟩) ?_
       refine ob [2, 1, 0] (fun S hle hfr => .inl ⟨wy hle q9, ev_field (hle.e rfl) rfl (hle.d rfl)⟩) ?_
       refine ob [6, 2, 1, 0] (fun S hle hfr => .inl ⟨wy hle q9, ev_load (hle.e rfl) (hle.heap _ _ rfl) rfl (hle.d rfl)⟩) ?_
       exact trivial
      case hk59x => rfl
      case hf59x => rfl
      refine aops_yes rfl rfl rfl rfl q9 (ev_call_v (slices_Equal_fn k (a4.drop (((Md.W (((a4.length : Nat) : Int) - ((((x3.getD s4_0 default).takes).length : Nat) : Int)))).toNat)) ((x3.getD s4_0 default).takes) x12 hx12) rfl [] ai rfl rfl rfl (.inl rfl) rfl) (y_nt q9 ?_)
      refine s_pn q9 ?_
      refine aops_nil ?_
      refine aw_cond rfl (fun c13 => ?_) (fun c13 => ?_)
      · replace j6 := Md.cond_t j6 c13
        refine aw_exit ?_
        show ∃ _x : Unit, _ = _ ∧ Weak _ _
        exact ⟨(), Option.some.inj j6, wk⟩
      replace j6 := Md.cond_f j6 c13
      refine aw_skip (aw_seq (aw_seq (aw_region (s_mv ?_))))
      refine s_cm ?_
      refine s_mv ?_
      refine aops_mid 9 (⟨92, [], [(4, .one (CV.ls c_Int a4)), (14, .one (.ptr 4 0)), (15, vI (Md.W (((a4.length : Nat) : Int) - ((((x3.getD s4_0 default).takes).length : Nat) : Int)))), (77, vB ((decide ((Md.W (((a4.length : Nat) : Int) - ((((x3.getD s4_0 default).takes).length : Nat) : Int))) > 0)) && ((a3.Op == 32) || (a3.Op == 30))))], [(4, some (.box (c_Bytecodeeffect (x3.getD s4_0 default))))]⟩ : ASt) ?_ ?_
      · rcases Md.bool_or ((decide ((Md.W (((a4.length : Nat) : Int) - ((((x3.getD s4_0 default).takes).length : Nat) : Int))) > 0))) with q14 | q14
        · skip
          refine y_fd q14 ?_
          refine y_ld q14 ?_
          refine y_cm q14 ?_
          refine y_mv q14 ?_
          refine aops_mid 4 (⟨92, [], [(4, .one (CV.ls c_Int a4)), (14, .one (.ptr 4 0)), (15, vI (Md.W (((a4.length : Nat) : Int) - ((((x3.getD s4_0 default).takes).length : Nat) : Int)))), (68, vB (decide ((Md.W (((a4.length : Nat) : Int) - ((((x3.getD s4_0 default).takes).length : Nat) : Int))) > 0))), (76, vB ((a3.Op == 32) || (a3.Op == 30)))], [(4, some (.box (c_Bytecodeeffect (x3.getD s4_0 default))))]⟩ : ASt) ?_ ?_
          · rcases Md.bool_or ((a3.Op == 32)) with q15 | q15
            · skip
              iterate 3 refine np q15 ?_
              refine aops_yes rfl rfl rfl rfl q14 (st_pick_yes rfl (by first | rfl | exact q15) rfl rfl) (aops_nil ?_)
              exact wq q15
            refine y_fd q15 ?_
            refine y_ld q15 ?_
            refine y_cm q15 ?_
            refine aops_yes rfl rfl rfl rfl q14 (st_pick_no rfl (by first | rfl | exact q15) rfl rfl) (aops_nil ?_)
            exact wq q15
          change AOps _ _ _ (⟨92, [], [(4, .one (CV.ls c_Int a4)), (14, .one (.ptr 4 0)), (15, vI (Md.W (((a4.length : Nat) : Int) - ((((x3.getD s4_0 default).takes).length : Nat) : Int)))), (68, vB (decide ((Md.W (((a4.length : Nat) : Int) - ((((x3.getD s4_0 default).takes).length : Nat) : Int))) > 0))), (76, vB ((a3.Op == 32) || (a3.Op == 30)))], [(4, some (.box (c_Bytecodeeffect (x3.getD s4_0 default))))]⟩ : ASt) _
          refine s_py q14 ?_
          refine aops_nil ?_
          exact wq q14
        iterate 4 refine np q14 ?_
        iterate 3 refine aops_und rfl rfl rfl rfl rfl ?_
        refine np q14 ?_
        refine s_pn q14 ?_
        refine aops_nil ?_
        exact wq q14
      refine aops_nil ?_
      refine aw_cond rfl (fun c16 => ?_) (fun c16 => ?_)
      · replace j6 := Md.cond_t j6 c16
        refine aw_seq (aw_region ?_)
        iterate 2 refine s_sa ?_
        refine aops_nil ?_
        cases Option.some.inj j6
        replace l4 := Md.onS_r l4
        cases Option.some.inj l4
        replace j2 := Md.onS_r j2
        cases Option.some.inj j2
        replace h := Md.onS_r h
        cases Option.some.inj h
        exact aw_ret ⟨rfl, rv (rn (.cons o1 (.cons o1 .nil)))⟩
      replace j6 := Md.cond_f j6 c16
      refine aw_skip ?_
      obtain ⟨g17, j6⟩ := Md.ifp_s j6
      obtain ⟨g18, j6⟩ := Md.ifp_s j6
      obtain ⟨g19, j6⟩ := Md.ifp_s j6
      refine aw_seq ?_
      apply aw_draw 14 ((⟨[], .one (CV.ls c_Int a4)⟩ : Add) :: ⟨[], vI (Md.W (((a4.length : Nat) : Int) - ((((x3.getD s4_0 default).takes).length : Nat) : Int)))⟩ :: ⟨[], vI (Md.W (((a4.length : Nat) : Int) - ((((x3.getD s4_0 default).takes).length : Nat) : Int)))⟩ :: ⟨[], .one (.full (a4.take (((Md.W (((a4.length : Nat) : Int) - ((((x3.getD s4_0 default).takes).length : Nat) : Int)))).toNat)).length (lsEl c_Int (a4.take (((Md.W (((a4.length : Nat) : Int) - ((((x3.getD s4_0 default).takes).length : Nat) : Int)))).toNat))))⟩ :: ⟨[], .one (.ptr 4 _)⟩ :: ⟨[], .one (CV.ls c_Int ((x3.getD s4_0 default).puts))⟩ :: ⟨[], .one (CV.ls c_Int ((a4.take (((Md.W (((a4.length : Nat) : Int) - ((((x3.getD s4_0 default).takes).length : Nat) : Int)))).toNat)) ++ ((x3.getD s4_0 default).puts)))⟩ :: ⟨[], vI (Md.W (((a4.length : Nat) : Int) - ((((x3.getD s4_0 default).takes).length : Nat) : Int)))⟩ :: ⟨[], .one (.ptr 4 _)⟩ :: ⟨[], .one (CV.ls c_Int ((x3.getD s4_0 default).puts))⟩ :: ⟨[], vI ((((x3.getD s4_0 default).puts).length : Nat) : Int)⟩ :: ⟨[], vI (Md.W ((Md.W (((a4.length : Nat) : Int) - ((((x3.getD s4_0 default).takes).length : Nat) : Int))) + ((((x3.getD s4_0 default).puts).length : Nat) : Int)))⟩ :: ⟨[], vB (decide ((Md.W ((Md.W (((a4.length : Nat) : Int) - ((((x3.getD s4_0 default).takes).length : Nat) : Int))) + ((((x3.getD s4_0 default).puts).length : Nat) : Int))) ≤ 40))⟩ :: ⟨[], .one (CV.ls c_Int ((a4.take (((Md.W (((a4.length : Nat) : Int) - ((((x3.getD s4_0 default).takes).length : Nat) : Int)))).toNat)) ++ ((x3.getD s4_0 default).puts)))⟩ :: []) (by decide) rfl ?hk60x ?hf60x ?ho60x ?hr60x
      case ho60x =>
       iterate 3 refine ob [] (fun S hle hfr => .inl ⟨w0, st_move (hle.e rfl) (hle.d rfl)⟩) ?_
       refine ob [0, 1, 2] (fun S hle hfr => .inl ⟨w0, st_cut_full (f := c_Int) (fun _ => rfl) (hle.e rfl) ⟨_, _, (hle.e rfl), (Md.nn_eq g17)⟩ ⟨_, _, (hle.e rfl), (Md.nn_eq g17)⟩ g18 (hle.d rfl)⟩) ?_
       refine ob [] (fun S hle hfr => .inl ⟨w0, ev_field (hle.e rfl) rfl (hle.d rfl)⟩) ?_
       refine ob [4] (fun S hle hfr => .inl ⟨w0, ev_load (hle.e rfl) (hle.heap _ _ rfl) rfl (hle.d rfl)⟩) ?_
       refine ob [3, 5, 0, 1, 2, 4] (fun S hle hfr => .inl ⟨w0, st_app_full_z (f := c_Int) (a4.take (((Md.W (((a4.length : Nat) : Int) - ((((x3.getD s4_0 default).takes).length : Nat) : Int)))).toNat)) ((x3.getD s4_0 default).puts) (fun _ => rfl) (hle.e rfl) (.inl (hle.e rfl)) (by omega) (by omega) (hle.d rfl)⟩) ?_
       refine ob [] (fun S hle hfr => .inl ⟨w0, st_move (hle.e rfl) (hle.d rfl)⟩) (ob [] (fun S hle hfr => .inl ⟨w0, ev_field (hle.e rfl) rfl (hle.d rfl)⟩) ?_)
       refine ob [8] (fun S hle hfr => .inl ⟨w0, ev_load (hle.e rfl) (hle.heap _ _ rfl) rfl (hle.d rfl)⟩) ?_
       refine ob [9, 8] (fun S hle hfr => .inl ⟨w0, ev_len_slc (hle.e rfl) (hle.d rfl)⟩) ?_
       refine ob [7, 10, 9, 8] (fun S hle hfr => .inl ⟨w0, ev_add (hle.e rfl) (hle.e rfl) (hle.d rfl) (Md.wrap_W _)⟩) ?_
       refine ob [11, 7, 10, 9, 8] (fun S hle hfr => .inl ⟨w0, ev_cmp (hle.e rfl) (hle.e rfl) (hle.d rfl) rfl⟩) ?_
       refine ob [6, 0, 1, 2, 3, 4, 5] (fun S hle hfr => .inl ⟨w0, st_assign (hle.e rfl) (hle.d rfl)⟩) ?_
       exact trivial
      case hk60x => rfl
      case hf60x => rfl
      refine s_sa ?_
      refine aops_nil ?_
      cases Option.some.inj j6
      replace l4 := Md.onS_r l4
      cases Option.some.inj l4
      replace j2 := Md.onS_r j2
      cases Option.some.inj j2
      replace h := Md.onS_r h
      cases Option.some.inj h
      exact aw_ret ⟨rfl, rv (rn (.cons o1 (.cons o1 .nil)))⟩
    replace l4 := Md.cond_f l4 c5
    refine aw_exit ?_
    have e4 := Option.some.inj l4
    subst e4
    replace j2 := Md.onS_l j2
    show ∃ _x : Unit, _ = _ ∧ Weak _ _
    exact ⟨(), Option.some.inj j2, wk⟩
  refine aw_seq (aw_region (s_mv ?_))
  refine s_ln ?_
  refine s_cm ?_
  refine aops_nil ?_
  refine aw_cond rfl (fun c20 => ?_) (fun c20 => ?_)
  · replace j1 := Md.cond_t j1 c20
    refine aw_region ?_
    iterate 2 refine s_mv ?_
    refine s_ln ?_
    refine aops_step1 rfl (ev_sub rfl rfl rfl (Md.wrap_W _)) ?_
    obtain ⟨g21, j1⟩ := Md.ifp_s j1
    refine aops_step1 rfl (ev_index_in rfl rfl (Md.idx_eq g21) (Md.idx_lt g21) rfl rfl) (aops_step1 rfl (ev_load_in rfl rfl rfl) (s_sa ?_))
    refine aops_nil ?_
    show ∃ _x : Int, _ = _ ∧ Weak _ _
    exact ⟨(a4.getD (((Md.W (((a4.length : Nat) : Int) - 1))).toNat) default), Option.some.inj j1, wk⟩
  replace j1 := Md.cond_f j1 c20
  refine aw_seq (aw_region (s_fd ?_))
  refine s_ld ?_
  refine s_cm ?_
  refine s_mv ?_
  refine aops_mid 4 (⟨92, [], [(4, .one (CV.ls c_Int a4)), (5, .one (.ptr 0 0)), (6, .one (.ptr 1 0)), (7, .one (.ptr 2 0)), (8, .one (.ptr 3 0)), (12, vI 0), (32, vB ((a3.Op == 15) || (a3.Op == 16)))], [(0, some (.box [CV.ls c_CodeType a0.Types])), (1, some (.box (c_CodeType a1))), (2, some (.box (c_CodeMethod a2))), (3, some (.box (c_Instr a3)))]⟩ : ASt) ?_ ?_
  · rcases Md.bool_or ((a3.Op == 15)) with q22 | q22
    · skip
      iterate 3 refine np q22 ?_
      refine s_py q22 ?_
      refine aops_nil ?_
      exact wq q22
    refine y_fd q22 ?_
    refine y_ld q22 ?_
    refine y_cm q22 ?_
    refine s_pn q22 ?_
    refine aops_nil ?_
    exact wq q22
  refine s_mv ?_
  refine aops_mid 4 (⟨92, [], [(4, .one (CV.ls c_Int a4)), (5, .one (.ptr 0 0)), (6, .one (.ptr 1 0)), (7, .one (.ptr 2 0)), (8, .one (.ptr 3 0)), (12, vI 0), (37, vB (((a3.Op == 15) || (a3.Op == 16)) || (a3.Op == 31)))], [(0, some (.box [CV.ls c_CodeType a0.Types])), (1, some (.box (c_CodeType a1))), (2, some (.box (c_CodeMethod a2))), (3, some (.box (c_Instr a3)))]⟩ : ASt) ?_ ?_
  · rcases Md.bool_or (((a3.Op == 15) || (a3.Op == 16))) with q23 | q23
    · skip
      iterate 3 refine np q23 ?_
      refine s_py q23 ?_
      refine aops_nil ?_
      exact wq q23
    refine y_fd q23 ?_
    refine y_ld q23 ?_
    refine y_cm q23 ?_
    refine s_pn q23 ?_
    refine aops_nil ?_
    exact wq q23
  refine aops_nil ?_
  refine aw_cond rfl (fun c24 => ?_) (fun c24 => ?_)
  · replace j1 := Md.cond_t j1 c24
    refine aw_seq (aw_region ?_)
    iterate 2 refine s_sa ?_
    refine aops_nil ?_
    cases Option.some.inj j1
    replace h := Md.onS_r h
    cases Option.some.inj h
    exact aw_ret ⟨rfl, rv (rn (.cons o1 (.cons o1 .nil)))⟩
  replace j1 := Md.cond_f j1 c24
  refine aw_skip ?_
  show ∃ _x : Int, _ = _ ∧ Weak _ _
  exact ⟨0, Option.some.inj j1, wk⟩
end Md
end Go.Proofs.Ytclffekkjfhpdaa
