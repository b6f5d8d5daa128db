import Derived.Test.YtclffekkjfhpdaaQMo
import Derived.Test.YtclffekkjfhpdaaQTy
import Derived.Test.YtclffekkjfhpdaaQAbsT
import Derived.Test.YtclffekkjfhpdaaQAbsG
import Derived.Test.YtclffekkjfhpdaaQCodeF
namespace Go.Proofs.Ytclffekkjfhpdaa
open Go.ChangeShapes Go.WideShapes Go.RowKit
open Abs
set_option linter.unusedVariables false
set_option linter.unusedSimpArgs false
set_option maxRecDepth 10000
namespace Md
def c_Bytecodestate (x : Bytecodestate) : List CV := [cB x.reached, CV.ls c_Int x.stack, .val (.int .u64 (x.set.toNat : Int))]
set_option maxHeartbeats 2000000 in
theorem bytecode_analyze_fn (k : Nat) (a0 : Code) (a1 : CodeType) (a2 : CodeMethod) (r : (List Bytecodestate) × Bool) (h : bytecode_analyze k a0 a1 a2 = some r) : FnC Try.prog 17 [.agg [CV.ls c_CodeType a0.Types], .agg (c_CodeType a1), .agg (c_CodeMethod a2)] [] (Det (.tup [.one (CV.ls c_Bytecodestate r.1), vB r.2]) []) := by
  unfold bytecode_analyze at h
  refine fn_intro' 177 Try.func17 rfl rfl rfl (aw_seq (aw_region (aops_step1 rfl (st_box 0 rfl rfl rfl rfl) (aops_step1 rfl (st_box 1 rfl rfl rfl rfl) ?_))))
  refine aops_step1 rfl (st_box 2 rfl rfl rfl rfl) ?_
  iterate 2 refine s_sa ?_
  refine aops_nil (aw_seq (aw_region (s_fd ?_)))
  refine s_ld ?_
  refine s_ln ?_
  obtain ⟨g1, h⟩ := Md.ifp_s h
  refine aops_step1 rfl (st_makes (zs := [.bool false, .slice none 0 0, .int .u64 0]) (f := c_Bytecodestate) 3 a2.Code.length a2.Code.length (⟨false, ([] : List Int), (0 : UInt64)⟩ : Bytecodestate) rfl rfl rfl (Nat.le_refl _) g1 rfl (fun A w => by repeat' (first | exact .nil | refine .cons ?_ ?_ | exact RepC.val _ rfl | exact RepC.nil _ | fail)) (fun _ => rfl) (by decide) (Nat.le_trans (Nat.mul_le_mul_right _ g1) (by decide)) rfl) (s_sa ?_)
  refine aops_nil (aw_seq (aw_region (s_mv ?_)))
  refine s_fd ?_
  refine s_ld ?_
  refine s_ln ?_
  refine aops_step1 rfl (ev_shl rfl rfl rfl (Md.nn _) (Md.shl_u64 (1 : UInt64) (Md.nat_toNat a2.Params.length))) ?_
  refine aops_step1 rfl (ev_sub rfl rfl rfl (Md.sub_u64 (Md.shl64 (1 : UInt64) a2.Params.length) (1 : UInt64))) ?_
  refine aops_step1 rfl (ev_build' (out := [_, _, _]) rfl rfl rfl rfl rfl) ?_
  obtain ⟨g2, h⟩ := Md.ifp_s h
  refine aops_step1 rfl (ev_index_row rfl rfl rfl rfl g2 rfl) ?_
  refine aops_step1 rfl (st_store_rows (l := (List.replicate a2.Code.length (⟨false, ([] : List Int), (0 : UInt64)⟩ : Bytecodestate))) (f := c_Bytecodestate) (⟨true, ([] : List Int), ((Md.shl64 (1 : UInt64) a2.Params.length) - (1 : UInt64))⟩ : Bytecodestate) (fun _ => rfl) rfl rfl g2 rfl rfl (by repeat' (first | exact .nil | refine .cons ?_ ?_ | exact .refl _ | exact .nil _ | fail)) rfl rfl rfl rfl rfl) ?_
  refine aops_nil (aw_seq (aw_region (aops_step1 rfl (st_slice_lit (el := lsEl c_Int [0]) 4 rfl rfl rfl rfl rfl rfl rfl rfl (lit_el c_Int 1 [0] (fun _ => rfl)) rfl) (s_sa ?_))))
  refine aops_nil ?_
  obtain ⟨o3, j3, h⟩ := Md.bind_s h
  refine aw_cut (ε := (List Bytecodestate)) (fun x => (⟨177, [], [(5, .one (.ptr 2 0)), (8, .one (.own 3))], [(2, some (.box (c_CodeMethod a2))), (3, some (.row 87 3 x.length (lsEl c_Bytecodestate x)))]⟩ : ASt)) (fun x => Sum.inl x = o3) ?_ ?_
  · intro x3_0 hI3
    subst hI3
    replace h := Md.onS_l h
    change AW _ _ (⟨177, [], [(5, .one (.ptr 2 0)), (8, .one (.own 3))], [(2, some (.box (c_CodeMethod a2))), (3, some (.row 87 3 x3_0.length (lsEl c_Bytecodestate x3_0)))]⟩ : ASt) _
    obtain ⟨o4, j4, h⟩ := Md.bind_s h
    refine aw_cut (ε := Unit) (fun x => (⟨177, [], [(8, .one (.own 3))], [(3, some (.row 87 3 x3_0.length (lsEl c_Bytecodestate x3_0)))]⟩ : ASt)) (fun x => Sum.inl x = o4) ?_ ?_
    · intro x4_0 hI4
      subst hI4
      replace h := Md.onS_l h
      change AW _ _ (⟨177, [], [(8, .one (.own 3))], [(3, some (.row 87 3 x3_0.length (lsEl c_Bytecodestate x3_0)))]⟩ : ASt) _
      refine aw_seq (aw_region (s_mv ?_))
      iterate 2 refine s_sa ?_
      refine aops_nil ?_
      cases Option.some.inj h
      refine aw_freeze 3 rfl ?_
      exact aw_ret ⟨rfl, rv (rn (.cons o1 (.cons o1 .nil)))⟩
    refine aw_seq (aw_region (s_mv ?_))
    refine aops_step1 rfl (ev_len_own rfl rfl rfl) (s_mv ?_)
    refine aops_nil (aw_block ?_)
    obtain ⟨o5, ho5, j4⟩ := Md.bind_s j4
    refine aw_loop (ι := {p : Nat × Nat // bytecode_analyze_loop1 k a2 x3_0 p.1 p.2 = some o5}) (fun p => (⟨177, [], [(5, .one (.ptr 2 0)), (8, .one (.own 3)), (146, .one (.own 3)), (147, vI ((x3_0.length : Nat) : Int)), (148, vI ((p.1.2 : Nat) : Int))], [(2, some (.box (c_CodeMethod a2))), (3, some (.row 87 3 x3_0.length (lsEl c_Bytecodestate x3_0)))]⟩ : ASt)) (fun p => p.1.1) ⟨(k, 0), ho5⟩ wk ?_
    intro p5
    obtain ⟨⟨n5, s5_0⟩, l5⟩ := p5
    change AW _ _ (⟨177, [], [(5, .one (.ptr 2 0)), (8, .one (.own 3)), (146, .one (.own 3)), (147, vI ((x3_0.length : Nat) : Int)), (148, vI ((s5_0 : Nat) : Int))], [(2, some (.box (c_CodeMethod a2))), (3, some (.row 87 3 x3_0.length (lsEl c_Bytecodestate x3_0)))]⟩ : ASt) _
    replace l5 : bytecode_analyze_loop1 k a2 x3_0 n5 s5_0 = some o5 := l5
    rcases n5 with _ | n5
    · exact absurd (show none = some o5 from l5) nofun
    rw [bytecode_analyze_loop1] at l5
    refine aw_seq (aw_region (s_cm ?_))
    refine aops_nil (aw_seq ?_)
    refine aw_cond rfl (fun c6 => ?_) (fun c6 => ?_)
    · replace l5 := Md.cond_t l5 c6
      refine aw_skip (aw_seq (aw_block (aw_seq (aw_region (s_mv ?_)))))
      obtain ⟨g7, l5⟩ := Md.ifp_s l5
      refine aops_step1 rfl (ev_index_row rfl rfl rfl rfl g7 rfl) (aops_step1 rfl (st_loads_row (ds := [_, _, _]) rfl rfl g7 rfl rfl rfl) ?_)
      refine aops_step1 rfl (st_alloc (cs := [cB false, .val (.slice none 0 0), .val (.int .u64 0)]) 5 rfl rfl rfl rfl rfl) (s_sa ?_)
      refine s_st [_, _, _] ?_
      refine aops_nil (aw_seq (aw_region (s_fd ?_)))
      refine s_ld ?_
      refine s_mv ?_
      obtain ⟨g8, l5⟩ := Md.ifp_s l5
      refine aops_step1 rfl (ev_index_in rfl rfl rfl g8 rfl rfl) (aops_step1 rfl (ev_loads_in (ds := [_, _, _, _, _, _, _, _]) rfl rfl rfl rfl) ?_)
      refine aops_step1 rfl (st_alloc (cs := [cI 0, cI 0, cI 0, cI 0, cI 0, .val (Sv []), .val (.slice none 0 0), .val (.slice none 0 0)]) 6 rfl rfl rfl rfl rfl) (s_st [_, _, _, _, _, _, _, _] ?_)
      refine aops_nil (aw_seq (aw_region (s_fd ?_)))
      refine s_ld ?_
      refine s_nt ?_
      refine s_mv ?_
      obtain ⟨o9, j9, l5⟩ := Md.bind_s l5
      refine aops_cut 13 (ε := Bool) (fun x9 => (⟨177, [], [(5, .one (.ptr 2 0)), (8, .one (.own 3)), (146, .one (.own 3)), (147, vI ((x3_0.length : Nat) : Int)), (148, vI ((s5_0 : Nat) : Int)), (174, vB x9)], [(2, some (.box (c_CodeMethod a2))), (3, some (.row 87 3 x3_0.length (lsEl c_Bytecodestate x3_0)))]⟩ : ASt)) (fun x9 => x9 = o9) ?_ ?_
      · intro x9 hI9
        subst hI9
        change AOps _ _ _ (⟨177, [], [(5, .one (.ptr 2 0)), (8, .one (.own 3)), (146, .one (.own 3)), (147, vI ((x3_0.length : Nat) : Int)), (148, vI ((s5_0 : Nat) : Int)), (174, vB x9)], [(2, some (.box (c_CodeMethod a2))), (3, some (.row 87 3 x3_0.length (lsEl c_Bytecodestate x3_0)))]⟩ : ASt) _
        refine aops_nil ?_
        refine aw_cond rfl (fun c10 => ?_) (fun c10 => ?_)
        · replace l5 := Md.cond_t l5 c10
          refine aw_seq (aw_region ?_)
          iterate 2 refine s_sa ?_
          refine aops_nil ?_
          cases Option.some.inj l5
          replace j4 := Md.onS_r j4
          cases Option.some.inj j4
          replace h := Md.onS_r h
          cases Option.some.inj h
          exact aw_ret ⟨rfl, rv (rn (.cons o1 (.cons o1 .nil)))⟩
        replace l5 := Md.cond_f l5 c10
        refine aw_skip (aw_region ?_)
        obtain ⟨g11, l5⟩ := Md.ifp_s l5
        refine aops_step1 rfl (ev_add rfl rfl rfl (Md.nat_add g11)) (s_mv ?_)
        refine aops_nil ?_
        exact ⟨⟨(n5, (s5_0 + 1)), l5⟩, Nat.lt_succ_self _, wk⟩
      rcases Md.bool_or ((!((x3_0.getD s5_0 default).reached))) with q9 | q9
      · replace j9 := Md.cond_t j9 q9
        iterate 4 refine np q9 ?_
        iterate 7 refine aops_und rfl rfl rfl rfl rfl ?_
        refine np q9 ?_
        refine s_py q9 ?_
        refine aops_nil ?_
        show ∃ _x : Bool, _ = _ ∧ Weak _ _
        exact ⟨true, Option.some.inj j9, wk⟩
      replace j9 := Md.cond_f j9 q9
      refine y_fd q9 ?_
      refine y_ld q9 ?_
      refine y_cm q9 ?_
      refine y_mv q9 ?_
      obtain ⟨o12, j12, j9⟩ := Md.bind_s j9
      refine aops_cut 8 (ε := Bool) (fun x12 => (⟨177, [], [(5, .one (.ptr 2 0)), (8, .one (.own 3)), (146, .one (.own 3)), (147, vI ((x3_0.length : Nat) : Int)), (148, vI ((s5_0 : Nat) : Int)), (161, vB (!((x3_0.getD s5_0 default).reached))), (173, vB x12)], [(2, some (.box (c_CodeMethod a2))), (3, some (.row 87 3 x3_0.length (lsEl c_Bytecodestate x3_0)))]⟩ : ASt)) (fun x12 => x12 = o12) ?_ ?_
      · intro x12 hI12
        subst hI12
        change AOps _ _ _ (⟨177, [], [(5, .one (.ptr 2 0)), (8, .one (.own 3)), (146, .one (.own 3)), (147, vI ((x3_0.length : Nat) : Int)), (148, vI ((s5_0 : Nat) : Int)), (161, vB (!((x3_0.getD s5_0 default).reached))), (173, vB x12)], [(2, some (.box (c_CodeMethod a2))), (3, some (.row 87 3 x3_0.length (lsEl c_Bytecodestate x3_0)))]⟩ : ASt) _
        refine s_pn q9 ?_
        refine aops_nil ?_
        show ∃ _x : Bool, _ = _ ∧ Weak _ _
        exact ⟨x12, Option.some.inj j9, wk⟩
      rcases Md.bool_or ((((a2.Code.getD s5_0 default).Op) == 2)) with q12 | q12
      · replace j12 := Md.cond_t j12 q12
        refine y_fd q12 ?_
        refine y_ld q12 ?_
        refine y_fd q12 ?_
        refine y_ld q12 ?_
        obtain ⟨g13, j12⟩ := Md.ifp_s j12
        refine aops_yes rfl rfl rfl rfl q12 (ev_shr rfl rfl rfl g13 (Md.shr_u64 ((x3_0.getD s5_0 default).set) (Md.int_toNat ((a2.Code.getD s5_0 default).A)))) ?_
        refine aops_yes rfl rfl rfl rfl q12 (ev_bits rfl rfl rfl rfl (Md.and_u64 (Md.shr64 ((x3_0.getD s5_0 default).set) ((((a2.Code.getD s5_0 default).A)).toNat)) (1 : UInt64))) (y_cm q12 ?_)
        refine aops_yes rfl rfl rfl rfl q9 (st_pick_yes rfl (by first | rfl | exact q12) rfl rfl) (aops_nil ?_)
        show ∃ _x : Bool, _ = _ ∧ Weak _ _
        exact ⟨(((((Md.shr64 ((x3_0.getD s5_0 default).set) ((((a2.Code.getD s5_0 default).A)).toNat)) &&& (1 : UInt64))).toNat : Int) == 0), Option.some.inj j12, wk⟩
      replace j12 := Md.cond_f j12 q12
      iterate 7 refine np q12 ?_
      refine aops_yes rfl rfl rfl rfl q9 (st_pick_no rfl (by first | rfl | exact q12) rfl rfl) (aops_nil ?_)
      show ∃ _x : Bool, _ = _ ∧ Weak _ _
      exact ⟨false, Option.some.inj j12, wk⟩
    replace l5 := Md.cond_f l5 c6
    refine aw_exit ?_
    have e5 := Option.some.inj l5
    subst e5
    replace j4 := Md.onS_l j4
    show ∃ _x : Unit, _ = _ ∧ Weak _ _
    exact ⟨(), Option.some.inj j4, wk⟩
  refine aw_block ?_
  obtain ⟨o14, ho14, j3⟩ := Md.bind_s j3
  refine aw_loop (ι := {p : Nat × (List Bytecodestate) × (List Int) // bytecode_analyze_loop2 k a0 a1 a2 p.1 p.2.1 p.2.2 = some o14}) (fun p => (⟨177, [], [(3, .one (.ptr 0 0)), (4, .one (.ptr 1 0)), (5, .one (.ptr 2 0)), (8, .one (.own 3)), (9, .one (.own 4))], [(0, some (.box [CV.ls c_CodeType a0.Types])), (1, some (.box (c_CodeType a1))), (2, some (.box (c_CodeMethod a2))), (3, some (.row 87 3 p.1.2.1.length (lsEl c_Bytecodestate p.1.2.1))), (4, some (.row 3 1 p.1.2.2.length (lsEl c_Int p.1.2.2)))]⟩ : ASt)) (fun p => p.1.1) ⟨(k, ((List.replicate a2.Code.length (⟨false, ([] : List Int), (0 : UInt64)⟩ : Bytecodestate)).set 0 (⟨true, ([] : List Int), ((Md.shl64 (1 : UInt64) a2.Params.length) - (1 : UInt64))⟩ : Bytecodestate)), [0]), ho14⟩ wk ?_
  intro p14
  obtain ⟨⟨n14, s14_0, s14_1⟩, l14⟩ := p14
  change AW _ _ (⟨177, [], [(3, .one (.ptr 0 0)), (4, .one (.ptr 1 0)), (5, .one (.ptr 2 0)), (8, .one (.own 3)), (9, .one (.own 4))], [(0, some (.box [CV.ls c_CodeType a0.Types])), (1, some (.box (c_CodeType a1))), (2, some (.box (c_CodeMethod a2))), (3, some (.row 87 3 s14_0.length (lsEl c_Bytecodestate s14_0))), (4, some (.row 3 1 s14_1.length (lsEl c_Int s14_1)))]⟩ : ASt) _
  replace l14 : bytecode_analyze_loop2 k a0 a1 a2 n14 s14_0 s14_1 = some o14 := l14
  rcases n14 with _ | n14
  · exact absurd (show none = some o14 from l14) nofun
  rw [bytecode_analyze_loop2] at l14
  refine aw_seq (aw_seq (aw_region (s_mv ?_)))
  refine aops_step1 rfl (ev_len_own rfl rfl rfl) (s_cm ?_)
  refine aops_nil ?_
  refine aw_cond rfl (fun c15 => ?_) (fun c15 => ?_)
  · replace l14 := Md.cond_t l14 c15
    refine aw_skip (aw_block (aw_seq (aw_region ?_)))
    iterate 2 refine s_mv ?_
    refine aops_step1 rfl (ev_len_own rfl rfl rfl) (aops_step1 rfl (ev_sub rfl rfl rfl (Md.wrap_W _)) ?_)
    obtain ⟨g16, l14⟩ := Md.ifp_s l14
    refine aops_step1 rfl (ev_index_row rfl rfl rfl (Md.idx_eq g16) (Md.idx_lt g16) rfl) (aops_step1 rfl (st_load_row rfl rfl (Md.idx_lt g16) rfl rfl) (s_sa ?_))
    refine aops_nil (aw_seq (aw_region ?_))
    iterate 2 refine s_mv ?_
    refine aops_step1 rfl (ev_len_own rfl rfl rfl) (aops_step1 rfl (ev_sub rfl rfl rfl (Md.wrap_W _)) ?_)
    obtain ⟨g17, l14⟩ := Md.ifp_s l14
    obtain ⟨g18, l14⟩ := Md.ifp_s l14
    refine aops_step1 rfl (st_shrink (f := c_Int) rfl rfl ⟨_, _, rfl, (Md.nn_eq g17)⟩ g18 rfl) (s_sa ?_)
    refine aops_nil ?_
    obtain ⟨g19, l14⟩ := Md.ifp_s l14
    obtain ⟨g20, l14⟩ := Md.ifp_s l14
    refine aw_seq ?_
    apply aw_draw_over 12 [(11, [9, 4, 0, 1, 2, 3, 10], 5, (c_Instr (a2.Code.getD (((s14_1.getD (((Md.W (((s14_1.length : Nat) : Int) - 1))).toNat) default)).toNat) default)))] ((⟨[], .one (.ptr 2 _)⟩ : Add) :: ⟨[], .one (CV.ls c_Instr a2.Code)⟩ :: ⟨[], vI (s14_1.getD (((Md.W (((s14_1.length : Nat) : Int) - 1))).toNat) default)⟩ :: ⟨[], .one (.cptr _)⟩ :: ⟨[], .agg (c_Instr (a2.Code.getD (((s14_1.getD (((Md.W (((s14_1.length : Nat) : Int) - 1))).toNat) default)).toNat) default))⟩ :: ⟨[], .one (.own 3)⟩ :: ⟨[], vI (s14_1.getD (((Md.W (((s14_1.length : Nat) : Int) - 1))).toNat) default)⟩ :: ⟨[], .one (.rptr 3 _ _ _)⟩ :: ⟨[], .agg (c_Bytecodestate (s14_0.getD (((s14_1.getD (((Md.W (((s14_1.length : Nat) : Int) - 1))).toNat) default)).toNat) default))⟩ :: ⟨[(5, some (.box [cI 0, cI 0, cI 0, cI 0, cI 0, .val (Sv []), .val (.slice none 0 0), .val (.slice none 0 0)]))], .one (.ptr 5 _)⟩ :: ⟨[(6, some (.box [cB false, .val (.slice none 0 0), .val (.int .u64 0)]))], .one (.ptr 6 _)⟩ :: ⟨[], .one .any⟩ :: []) (by decide) rfl ?hk36x ?hf36x ?ho36x ?hv36x ?hr36x
    case ho36x =>
     refine ⟨.inr ⟨[], [], (by decide +kernel), (by decide +kernel), ⟨?_, .inl rfl⟩⟩, ?_⟩
     · refine .inr (.inr fun S hle hfr => ?_)
       exact .inl ⟨w0, ev_field (hle.e rfl) rfl (hle.d rfl)⟩
     refine ⟨.inr ⟨0 :: [], [], (by decide +kernel), (by decide +kernel), ⟨?_, .inl rfl⟩⟩, ?_⟩
     · refine .inr (.inr fun S hle hfr => ?_)
       exact .inl ⟨w0, ev_load (hle.e rfl) (hle.heap _ _ rfl) rfl (hle.d rfl)⟩
     refine ⟨.inr ⟨[], [], (by decide +kernel), (by decide +kernel), ⟨?_, .inl rfl⟩⟩, ?_⟩
     · refine .inr (.inr fun S hle hfr => ?_)
       exact .inl ⟨w0, st_move (hle.e rfl) (hle.d rfl)⟩
     refine ⟨.inr ⟨1 :: 2 :: 0 :: [], [], (by decide +kernel), (by decide +kernel), ⟨?_, .inl rfl⟩⟩, ?_⟩
     · refine .inr (.inr fun S hle hfr => ?_)
       exact .inl ⟨w0, ev_index_in (hle.e rfl) (hle.e rfl) (Md.idx_eq g19) (Md.idx_lt g19) rfl (hle.d rfl)⟩
     refine ⟨.inr ⟨3 :: 1 :: 2 :: 0 :: [], [], (by decide +kernel), (by decide +kernel), ⟨?_, .inl rfl⟩⟩, ?_⟩
     · refine .inr (.inr fun S hle hfr => ?_)
       exact .inl ⟨w0, ev_loads_in (ds := [_, _, _, _, _, _, _, _]) (hle.e rfl) rfl rfl (hle.d rfl)⟩
     refine ⟨.inr ⟨[], [], (by decide +kernel), (by decide +kernel), ⟨?_, ?_⟩⟩, ?_⟩
     · refine .inr (.inr fun S hle hfr => ?_)
       exact .inl ⟨w0, st_move (hle.e rfl) (hle.d rfl)⟩
     · refine .inr fun S hle hfr => ?_
       exact .inl ⟨w0, st_move (hle.e rfl) (hle.d rfl)⟩
     refine ⟨.inr ⟨[], [], (by decide +kernel), (by decide +kernel), ⟨?_, ?_⟩⟩, ?_⟩
     · refine .inr (.inr fun S hle hfr => ?_)
       exact .inl ⟨w0, st_move (hle.e rfl) (hle.d rfl)⟩
     · refine .inr fun S hle hfr => ?_
       exact .inl ⟨w0, st_move (hle.e rfl) (hle.d rfl)⟩
     refine ⟨.inr ⟨5 :: 6 :: [], [], (by decide +kernel), (by decide +kernel), ⟨?_, ?_⟩⟩, ?_⟩
     · refine .inr (.inr fun S hle hfr => ?_)
       exact .inl ⟨w0, ev_index_row (hle.e rfl) (hle.heap _ _ rfl) (hle.e rfl) (Md.idx_eq g20) (Md.idx_lt g20) (hle.d rfl)⟩
     · refine .inr fun S hle hfr => ?_
       exact .inl ⟨w0, ev_index_row (hle.e rfl) (hle.heap _ _ rfl) (hle.e rfl) (Md.idx_eq g20) (Md.idx_lt g20) (hle.d rfl)⟩
     refine ⟨.inr ⟨7 :: 5 :: 6 :: [], [], (by decide +kernel), (by decide +kernel), ⟨?_, ?_⟩⟩, ?_⟩
     · refine .inr (.inr fun S hle hfr => ?_)
       exact .inl ⟨w0, st_loads_row (ds := [_, _, _]) (hle.e rfl) (hle.heap _ _ rfl) (Md.idx_lt g20) rfl rfl (hle.d rfl)⟩
     · refine .inr fun S hle hfr => ?_
       exact .inl ⟨w0, st_loads_row (ds := [_, _, _]) (hle.e rfl) (hle.heap _ _ rfl) (Md.idx_lt g20) rfl rfl (hle.d rfl)⟩
     refine ⟨.inr ⟨[], [], (by decide +kernel), (by decide +kernel), ⟨?_, .inl rfl⟩⟩, ?_⟩
     · refine .inr (.inr fun S hle hfr => ?_)
       exact .inl ⟨w0, st_alloc (cs := [cI 0, cI 0, cI 0, cI 0, cI 0, .val (Sv []), .val (.slice none 0 0), .val (.slice none 0 0)]) 5 (hfr _ (List.mem_singleton.2 rfl)) rfl rfl rfl (hle.d rfl)⟩
     refine ⟨.inr ⟨[], [], (by decide +kernel), (by decide +kernel), ⟨?_, .inl rfl⟩⟩, ?_⟩
     · refine .inr (.inr fun S hle hfr => ?_)
       exact .inl ⟨w0, st_alloc (cs := [cB false, .val (.slice none 0 0), .val (.int .u64 0)]) 6 (hfr _ (List.mem_singleton.2 rfl)) rfl rfl rfl (hle.d rfl)⟩
     refine ⟨.inl rfl, ?_⟩
     exact trivial
    case hv36x =>
     refine ⟨⟨rfl, rfl, (by decide +kernel), rfl, rfl, _, _, rfl, rfl, rfl, fun S hle => st_store (cs' := [_, _, _, _, _, _, _, _]) (hle.e rfl) (hle.heap _ _ rfl) (hle.e rfl) rfl rfl rfl rfl (hle.d rfl) rfl⟩, ?_⟩
     exact trivial
    case hk36x => rfl
    case hf36x => rfl
    refine s_st [_, _, _] ?_
    refine aops_nil (aw_seq (aw_region (s_ls [_] ?_)))
    refine s_ls [_, _, _] ?_
    refine s_ls [_, _, _, _, _] ?_
    refine s_ls [_, _, _, _, _, _, _, _] ?_
    refine s_fd ?_
    refine s_ld ?_
    obtain ⟨x21, hx21, l14⟩ := Md.bind_s l14
    refine aops_step1 rfl (ev_call_v (bytecode_after_fn k a0 a1 a2 (a2.Code.getD (((s14_1.getD (((Md.W (((s14_1.length : Nat) : Int) - 1))).toNat) default)).toNat) default) ((s14_0.getD (((s14_1.getD (((Md.W (((s14_1.length : Nat) : Int) - 1))).toNat) default)).toNat) default).stack) x21 hx21) rfl [] ai rfl rfl rfl (.inl rfl) rfl) (s_mt ?_)
    iterate 2 refine s_ex ?_
    iterate 2 refine s_sa ?_
    refine aops_nil (aw_seq (aw_region (s_ls [_, _, _, _, _] ?_)))
    refine s_mv ?_
    obtain ⟨x22, hx22, l14⟩ := Md.bind_s l14
    refine aops_step1 rfl (ev_call_v (bytecode_successors_fn k a2 (s14_1.getD (((Md.W (((s14_1.length : Nat) : Int) - 1))).toNat) default) x22 hx22) rfl [] ai rfl rfl rfl (.inl rfl) rfl) (s_mt ?_)
    iterate 2 refine s_ex ?_
    iterate 2 refine s_sa ?_
    refine aops_nil (aw_seq (aw_seq (aw_region (s_mv ?_))))
    refine s_nt ?_
    refine s_mv ?_
    refine aops_mid 3 (⟨177, [], [(3, .one (.ptr 0 0)), (4, .one (.ptr 1 0)), (5, .one (.ptr 2 0)), (8, .one (.own 3)), (9, .one (.own 4)), (11, .one (.ptr 5 0)), (12, .one (.ptr 6 0)), (13, .one (CV.ls c_Int x21.1)), (15, .one (CV.ls c_Int x22.1)), (81, vB ((!x21.2) || (!x22.2)))], [(0, some (.box [CV.ls c_CodeType a0.Types])), (1, some (.box (c_CodeType a1))), (2, some (.box (c_CodeMethod a2))), (3, some (.row 87 3 s14_0.length (lsEl c_Bytecodestate s14_0))), (4, some (.row 3 1 (s14_1.take (((Md.W (((s14_1.length : Nat) : Int) - 1))).toNat)).length (lsEl c_Int (s14_1.take (((Md.W (((s14_1.length : Nat) : Int) - 1))).toNat))))), (5, some (.box (c_Instr (a2.Code.getD (((s14_1.getD (((Md.W (((s14_1.length : Nat) : Int) - 1))).toNat) default)).toNat) default)))), (6, some (.box (c_Bytecodestate (s14_0.getD (((s14_1.getD (((Md.W (((s14_1.length : Nat) : Int) - 1))).toNat) default)).toNat) default))))]⟩ : ASt) ?_ ?_
    · rcases Md.bool_or ((!x21.2)) with q23 | q23
      · skip
        iterate 2 refine np q23 ?_
        refine s_py q23 ?_
        refine aops_nil ?_
        exact wq q23
      refine y_mv q23 ?_
      refine y_nt q23 ?_
      refine s_pn q23 ?_
      refine aops_nil ?_
      exact wq q23
    refine aops_nil ?_
    refine aw_cond rfl (fun c24 => ?_) (fun c24 => ?_)
    · replace l14 := Md.cond_t l14 c24
      refine aw_seq (aw_region ?_)
      iterate 2 refine s_sa ?_
      refine aops_nil ?_
      cases Option.some.inj l14
      replace j3 := Md.onS_r j3
      cases Option.some.inj j3
      replace h := Md.onS_r h
      cases Option.some.inj h
      exact aw_ret ⟨rfl, rv (rn (.cons o1 (.cons o1 .nil)))⟩
    replace l14 := Md.cond_f l14 c24
    refine aw_skip (aw_seq (aw_region (s_fd ?_)))
    refine s_ld ?_
    refine s_sa ?_
    refine aops_nil ?_
    obtain ⟨o25, j25, l14⟩ := Md.bind_s l14
    refine aw_cut (ε := UInt64) (fun x => (⟨177, [], [(3, .one (.ptr 0 0)), (4, .one (.ptr 1 0)), (5, .one (.ptr 2 0)), (8, .one (.own 3)), (9, .one (.own 4)), (13, .one (CV.ls c_Int x21.1)), (15, .one (CV.ls c_Int x22.1)), (17, .one (.val (.int .u64 (x.toNat : Int))))], [(0, some (.box [CV.ls c_CodeType a0.Types])), (1, some (.box (c_CodeType a1))), (2, some (.box (c_CodeMethod a2))), (3, some (.row 87 3 s14_0.length (lsEl c_Bytecodestate s14_0))), (4, some (.row 3 1 (s14_1.take (((Md.W (((s14_1.length : Nat) : Int) - 1))).toNat)).length (lsEl c_Int (s14_1.take (((Md.W (((s14_1.length : Nat) : Int) - 1))).toNat)))))]⟩ : ASt)) (fun x => x = o25) ?_ ?_
    · intro x25_0 hI25
      subst hI25
      change AW _ _ (⟨177, [], [(3, .one (.ptr 0 0)), (4, .one (.ptr 1 0)), (5, .one (.ptr 2 0)), (8, .one (.own 3)), (9, .one (.own 4)), (13, .one (CV.ls c_Int x21.1)), (15, .one (CV.ls c_Int x22.1)), (17, .one (.val (.int .u64 (x25_0.toNat : Int))))], [(0, some (.box [CV.ls c_CodeType a0.Types])), (1, some (.box (c_CodeType a1))), (2, some (.box (c_CodeMethod a2))), (3, some (.row 87 3 s14_0.length (lsEl c_Bytecodestate s14_0))), (4, some (.row 3 1 (s14_1.take (((Md.W (((s14_1.length : Nat) : Int) - 1))).toNat)).length (lsEl c_Int (s14_1.take (((Md.W (((s14_1.length : Nat) : Int) - 1))).toNat)))))]⟩ : ASt) _
      refine aw_seq (aw_region (s_mv ?_))
      refine s_ln ?_
      refine s_mv ?_
      refine aops_nil (aw_block ?_)
      obtain ⟨o26, ho26, l14⟩ := Md.bind_s l14
      refine aw_loop (ι := {p : Nat × Nat × (List Bytecodestate) × (List Int) // bytecode_analyze_loop3 k x21 x22 x25_0 p.1 p.2.1 p.2.2.1 p.2.2.2 = some o26}) (fun p => (⟨177, [], [(3, .one (.ptr 0 0)), (4, .one (.ptr 1 0)), (5, .one (.ptr 2 0)), (8, .one (.own 3)), (9, .one (.own 4)), (13, .one (CV.ls c_Int x21.1)), (17, .one (.val (.int .u64 (x25_0.toNat : Int)))), (92, .one (CV.ls c_Int x22.1)), (93, vI ((x22.1.length : Nat) : Int)), (94, vI ((p.1.2.1 : Nat) : Int))], [(0, some (.box [CV.ls c_CodeType a0.Types])), (1, some (.box (c_CodeType a1))), (2, some (.box (c_CodeMethod a2))), (3, some (.row 87 3 p.1.2.2.1.length (lsEl c_Bytecodestate p.1.2.2.1))), (4, some (.row 3 1 p.1.2.2.2.length (lsEl c_Int p.1.2.2.2)))]⟩ : ASt)) (fun p => p.1.1) ⟨(k, 0, s14_0, (s14_1.take (((Md.W (((s14_1.length : Nat) : Int) - 1))).toNat))), ho26⟩ wk ?_
      intro p26
      obtain ⟨⟨n26, s26_0, s26_1, s26_2⟩, l26⟩ := p26
      change AW _ _ (⟨177, [], [(3, .one (.ptr 0 0)), (4, .one (.ptr 1 0)), (5, .one (.ptr 2 0)), (8, .one (.own 3)), (9, .one (.own 4)), (13, .one (CV.ls c_Int x21.1)), (17, .one (.val (.int .u64 (x25_0.toNat : Int)))), (92, .one (CV.ls c_Int x22.1)), (93, vI ((x22.1.length : Nat) : Int)), (94, vI ((s26_0 : Nat) : Int))], [(0, some (.box [CV.ls c_CodeType a0.Types])), (1, some (.box (c_CodeType a1))), (2, some (.box (c_CodeMethod a2))), (3, some (.row 87 3 s26_1.length (lsEl c_Bytecodestate s26_1))), (4, some (.row 3 1 s26_2.length (lsEl c_Int s26_2)))]⟩ : ASt) _
      replace l26 : bytecode_analyze_loop3 k x21 x22 x25_0 n26 s26_0 s26_1 s26_2 = some o26 := l26
      rcases n26 with _ | n26
      · exact absurd (show none = some o26 from l26) nofun
      rw [bytecode_analyze_loop3] at l26
      refine aw_seq (aw_region (s_cm ?_))
      refine aops_nil (aw_seq ?_)
      refine aw_cond rfl (fun c27 => ?_) (fun c27 => ?_)
      · replace l26 := Md.cond_t l26 c27
        refine aw_skip ?_
        obtain ⟨o28, j28, l26⟩ := Md.bind_s l26
        refine aw_cut (ε := ((List Bytecodestate) × (List Int))) (fun x => (⟨177, [], [(3, .one (.ptr 0 0)), (4, .one (.ptr 1 0)), (5, .one (.ptr 2 0)), (8, .one (.own 3)), (9, .one (.own 4)), (13, .one (CV.ls c_Int x21.1)), (17, .one (.val (.int .u64 (x25_0.toNat : Int)))), (92, .one (CV.ls c_Int x22.1)), (93, vI ((x22.1.length : Nat) : Int)), (94, vI ((s26_0 : Nat) : Int))], [(0, some (.box [CV.ls c_CodeType a0.Types])), (1, some (.box (c_CodeType a1))), (2, some (.box (c_CodeMethod a2))), (3, some (.row 87 3 x.1.length (lsEl c_Bytecodestate x.1))), (4, some (.row 3 1 x.2.length (lsEl c_Int x.2)))]⟩ : ASt)) (fun x => Sum.inl x = o28) ?_ ?_
        · intro x28_0 hI28
          subst hI28
          replace l26 := Md.onS_l l26
          change AW _ _ (⟨177, [], [(3, .one (.ptr 0 0)), (4, .one (.ptr 1 0)), (5, .one (.ptr 2 0)), (8, .one (.own 3)), (9, .one (.own 4)), (13, .one (CV.ls c_Int x21.1)), (17, .one (.val (.int .u64 (x25_0.toNat : Int)))), (92, .one (CV.ls c_Int x22.1)), (93, vI ((x22.1.length : Nat) : Int)), (94, vI ((s26_0 : Nat) : Int))], [(0, some (.box [CV.ls c_CodeType a0.Types])), (1, some (.box (c_CodeType a1))), (2, some (.box (c_CodeMethod a2))), (3, some (.row 87 3 x28_0.1.length (lsEl c_Bytecodestate x28_0.1))), (4, some (.row 3 1 x28_0.2.length (lsEl c_Int x28_0.2)))]⟩ : ASt) _
          refine aw_region ?_
          obtain ⟨g29, l26⟩ := Md.ifp_s l26
          refine aops_step1 rfl (ev_add rfl rfl rfl (Md.nat_add g29)) (s_mv ?_)
          refine aops_nil ?_
          exact ⟨⟨(n26, (s26_0 + 1), x28_0.1, x28_0.2), l26⟩, Nat.lt_succ_self _, wk⟩
        refine aw_block (aw_seq (aw_region ?_))
        obtain ⟨g30, j28⟩ := Md.ifp_s j28
        refine aops_step1 rfl (ev_index_in rfl rfl rfl g30 rfl rfl) (aops_step1 rfl (ev_load_in rfl rfl rfl) (s_sa ?_))
        refine aops_nil (aw_seq (aw_region ?_))
        iterate 2 refine s_mv ?_
        obtain ⟨g31, j28⟩ := Md.ifp_s j28
        refine aops_step1 rfl (ev_index_row rfl rfl rfl (Md.idx_eq g31) (Md.idx_lt g31) rfl) (s_sa ?_)
        refine aops_nil (aw_seq (aw_seq (aw_region (s_mv ?_))))
        refine aops_step1 rfl (ev_nilc_row rfl rfl) (aops_step1 rfl (ev_field_row rfl rfl rfl) (aops_step1 rfl (st_load_row rfl rfl (Md.idx_lt g31) rfl rfl) (s_nt ?_)))
        refine aops_nil ?_
        refine aw_cond rfl (fun c32 => ?_) (fun c32 => ?_)
        · replace j28 := Md.cond_t j28 c32
          refine aw_seq (aw_region ?_)
          iterate 3 refine s_mv ?_
          refine aops_step1 rfl (ev_build' (out := [_, _, _]) rfl rfl rfl rfl rfl) (aops_step1 rfl (ev_nilc_row rfl rfl) ?_)
          refine aops_step1 rfl (st_store_rows (l := s26_1) (f := c_Bytecodestate) (⟨true, x21.1, x25_0⟩ : Bytecodestate) (fun _ => rfl) rfl rfl (Md.idx_lt g31) rfl rfl (by repeat' (first | exact .nil | refine .cons ?_ ?_ | exact .refl _ | exact .nil _ | fail)) rfl rfl rfl rfl rfl) ?_
          refine aops_nil (aw_seq (aw_region ?_))
          iterate 2 refine s_mv ?_
          refine aops_step1 rfl (st_slice_lit (el := lsEl c_Int [(x22.1.getD s26_0 default)]) 7 rfl rfl rfl rfl rfl rfl rfl rfl (lit_el c_Int 1 [(x22.1.getD s26_0 default)] (fun _ => rfl)) rfl) ?_
          obtain ⟨g33, j28⟩ := Md.ifp_s j28
          refine aops_step1 rfl (st_app_ls (f := c_Int) s26_2 [(x22.1.getD s26_0 default)] (fun _ => rfl) rfl rfl (.inr ⟨_, _, rfl, rfl⟩) (by omega) (by omega) rfl) (s_sa ?_)
          refine aops_nil (aw_exit ?_)
          show ∃ _x : (List Bytecodestate) × (List Int), _ = _ ∧ Weak _ _
          exact ⟨((s26_1.set (((x22.1.getD s26_0 default)).toNat) (⟨true, x21.1, x25_0⟩ : Bytecodestate)), (s26_2 ++ [(x22.1.getD s26_0 default)])), Option.some.inj j28, wk⟩
        replace j28 := Md.cond_f j28 c32
        refine aw_skip (aw_seq (aw_seq (aw_region (s_mv ?_))))
        refine aops_step1 rfl (ev_nilc_row rfl rfl) (aops_step1 rfl (ev_field_row rfl rfl rfl) (aops_step1 rfl (st_load_row rfl rfl (Md.idx_lt g31) rfl rfl) (s_mv ?_)))
        obtain ⟨x34, hx34, j28⟩ := Md.bind_s j28
        refine aops_step1 rfl (ev_call_v (slices_Equal_fn k ((s26_1.getD (((x22.1.getD s26_0 default)).toNat) default).stack) x21.1 x34 hx34) rfl [] ai rfl rfl rfl (.inl rfl) rfl) (s_nt ?_)
        refine aops_nil ?_
        refine aw_cond rfl (fun c35 => ?_) (fun c35 => ?_)
        · replace j28 := Md.cond_t j28 c35
          refine aw_seq (aw_region ?_)
          iterate 2 refine s_sa ?_
          refine aops_nil ?_
          cases Option.some.inj j28
          replace l26 := Md.onS_r l26
          cases Option.some.inj l26
          replace l14 := Md.onS_r l14
          cases Option.some.inj l14
          replace j3 := Md.onS_r j3
          cases Option.some.inj j3
          replace h := Md.onS_r h
          cases Option.some.inj h
          exact aw_ret ⟨rfl, rv (rn (.cons o1 (.cons o1 .nil)))⟩
        replace j28 := Md.cond_f j28 c35
        refine aw_skip (aw_seq ?_)
        apply aw_draw 10 ((⟨[], .one (.rptr 3 _ _ _)⟩ : Add) :: ⟨[], .one (.rptr 3 _ _ _)⟩ :: ⟨[], .one (.rptr 3 _ _ _)⟩ :: ⟨[], .one (.val (.int .u64 (((s26_1.getD (((x22.1.getD s26_0 default)).toNat) default).set).toNat : Int)))⟩ :: ⟨[], .one (.val (.int .u64 (x25_0.toNat : Int)))⟩ :: ⟨[], .one (.val (.int .u64 (((((s26_1.getD (((x22.1.getD s26_0 default)).toNat) default).set) &&& x25_0)).toNat : Int)))⟩ :: ⟨[], .one (.rptr 3 _ _ _)⟩ :: ⟨[], .one (.rptr 3 _ _ _)⟩ :: ⟨[], .one (.rptr 3 _ _ _)⟩ :: ⟨[], .one (.val (.int .u64 (((s26_1.getD (((x22.1.getD s26_0 default)).toNat) default).set).toNat : Int)))⟩ :: []) (by decide) rfl ?hk42x ?hf42x ?ho42x ?hr42x
        case ho42x =>
         refine ob [] (fun S hle hfr => .inl ⟨w0, st_move (hle.e rfl) (hle.d rfl)⟩) (ob [0] (fun S hle hfr => .inl ⟨w0, ev_nilc_row (hle.e rfl) (hle.d rfl)⟩) ?_)
         refine ob [1, 0] (fun S hle hfr => .inl ⟨w0, ev_field_row (hle.e rfl) rfl (hle.d rfl)⟩) ?_
         refine ob [2, 1, 0] (fun S hle hfr => .inl ⟨w0, st_load_row (hle.e rfl) (hle.heap _ _ rfl) (Md.idx_lt g31) rfl (hle.d rfl)⟩) ?_
         refine ob [] (fun S hle hfr => .inl ⟨w0, st_move (hle.e rfl) (hle.d rfl)⟩) ?_
         refine ob [3, 4, 2, 1, 0] (fun S hle hfr => .inl ⟨w0, ev_bits (hle.e rfl) (hle.e rfl) (hle.d rfl) rfl (Md.and_u64 ((s26_1.getD (((x22.1.getD s26_0 default)).toNat) default).set) x25_0)⟩) ?_
         refine ob [] (fun S hle hfr => .inl ⟨w0, st_move (hle.e rfl) (hle.d rfl)⟩) (ob [6] (fun S hle hfr => .inl ⟨w0, ev_nilc_row (hle.e rfl) (hle.d rfl)⟩) ?_)
         refine ob [7, 6] (fun S hle hfr => .inl ⟨w0, ev_field_row (hle.e rfl) rfl (hle.d rfl)⟩) ?_
         refine ob [8, 7, 6] (fun S hle hfr => .inl ⟨w0, st_load_row (hle.e rfl) (hle.heap _ _ rfl) (Md.idx_lt g31) rfl (hle.d rfl)⟩) ?_
         exact trivial
        case hk42x => rfl
        case hf42x => rfl
        refine s_cm ?_
        refine aops_nil ?_
        refine aw_cond rfl (fun c36 => ?_) (fun c36 => ?_)
        · replace j28 := Md.cond_t j28 c36
          refine aw_seq (aw_region (s_mv ?_))
          refine aops_step1 rfl (ev_nilc_row rfl rfl) (aops_step1 rfl (ev_field_row rfl rfl rfl) (aops_step1 rfl (st_load_row rfl rfl (Md.idx_lt g31) rfl rfl) (s_mv ?_)))
          refine aops_step1 rfl (ev_bits rfl rfl rfl rfl (Md.and_u64 ((s26_1.getD (((x22.1.getD s26_0 default)).toNat) default).set) x25_0)) ?_
          refine aops_step1 rfl (ev_nilc_row rfl rfl) (aops_step1 rfl (ev_field_row rfl rfl rfl) ?_)
          refine aops_step1 rfl (st_store_rows (l := s26_1) (f := c_Bytecodestate) (⟨((s26_1.getD (((x22.1.getD s26_0 default)).toNat) default).reached), ((s26_1.getD (((x22.1.getD s26_0 default)).toNat) default).stack), (((s26_1.getD (((x22.1.getD s26_0 default)).toNat) default).set) &&& x25_0)⟩ : Bytecodestate) (fun _ => rfl) rfl rfl (Md.idx_lt g31) rfl rfl (by repeat' (first | exact .nil | refine .cons ?_ ?_ | exact .refl _ | exact .nil _ | fail)) rfl rfl rfl rfl rfl) ?_
          refine aops_nil (aw_region ?_)
          iterate 2 refine s_mv ?_
          refine aops_step1 rfl (st_slice_lit (el := lsEl c_Int [(x22.1.getD s26_0 default)]) 7 rfl rfl rfl rfl rfl rfl rfl rfl (lit_el c_Int 1 [(x22.1.getD s26_0 default)] (fun _ => rfl)) rfl) ?_
          obtain ⟨g37, j28⟩ := Md.ifp_s j28
          refine aops_step1 rfl (st_app_ls (f := c_Int) s26_2 [(x22.1.getD s26_0 default)] (fun _ => rfl) rfl rfl (.inr ⟨_, _, rfl, rfl⟩) (by omega) (by omega) rfl) (s_sa ?_)
          refine aops_nil ?_
          show ∃ _x : (List Bytecodestate) × (List Int), _ = _ ∧ Weak _ _
          exact ⟨((s26_1.set (((x22.1.getD s26_0 default)).toNat) (⟨((s26_1.getD (((x22.1.getD s26_0 default)).toNat) default).reached), ((s26_1.getD (((x22.1.getD s26_0 default)).toNat) default).stack), (((s26_1.getD (((x22.1.getD s26_0 default)).toNat) default).set) &&& x25_0)⟩ : Bytecodestate)), (s26_2 ++ [(x22.1.getD s26_0 default)])), Option.some.inj j28, wk⟩
        replace j28 := Md.cond_f j28 c36
        refine aw_skip ?_
        show ∃ _x : (List Bytecodestate) × (List Int), _ = _ ∧ Weak _ _
        exact ⟨(s26_1, s26_2), Option.some.inj j28, wk⟩
      replace l26 := Md.cond_f l26 c27
      refine aw_exit ?_
      have e26 := Option.some.inj l26
      subst e26
      replace l14 := Md.onS_l l14
      exact ⟨⟨(n14, s26_1, s26_2), l14⟩, Nat.lt_succ_self _, wk⟩
    refine aw_seq (aw_region (s_fd ?_))
    refine s_ld ?_
    refine s_cm ?_
    refine aops_nil ?_
    refine aw_cond rfl (fun c38 => ?_) (fun c38 => ?_)
    · replace j25 := Md.cond_t j25 c38
      refine aw_region (s_mv ?_)
      refine s_fd ?_
      refine s_ld ?_
      obtain ⟨g39, j25⟩ := Md.ifp_s j25
      refine aops_step1 rfl (ev_shl rfl rfl rfl g39 (Md.shl_u64 (1 : UInt64) (Md.int_toNat ((a2.Code.getD (((s14_1.getD (((Md.W (((s14_1.length : Nat) : Int) - 1))).toNat) default)).toNat) default).A)))) ?_
      refine aops_step1 rfl (ev_bits rfl rfl rfl rfl (Md.or_u64 ((s14_0.getD (((s14_1.getD (((Md.W (((s14_1.length : Nat) : Int) - 1))).toNat) default)).toNat) default).set) (Md.shl64 (1 : UInt64) ((((a2.Code.getD (((s14_1.getD (((Md.W (((s14_1.length : Nat) : Int) - 1))).toNat) default)).toNat) default).A)).toNat)))) (s_sa ?_)
      refine aops_nil ?_
      show ∃ _x : UInt64, _ = _ ∧ Weak _ _
      exact ⟨(((s14_0.getD (((s14_1.getD (((Md.W (((s14_1.length : Nat) : Int) - 1))).toNat) default)).toNat) default).set) ||| (Md.shl64 (1 : UInt64) ((((a2.Code.getD (((s14_1.getD (((Md.W (((s14_1.length : Nat) : Int) - 1))).toNat) default)).toNat) default).A)).toNat))), Option.some.inj j25, wk⟩
    replace j25 := Md.cond_f j25 c38
    refine aw_skip ?_
    show ∃ _x : UInt64, _ = _ ∧ Weak _ _
    exact ⟨((s14_0.getD (((s14_1.getD (((Md.W (((s14_1.length : Nat) : Int) - 1))).toNat) default)).toNat) default).set), Option.some.inj j25, wk⟩
  replace l14 := Md.cond_f l14 c15
  refine aw_exit ?_
  have e14 := Option.some.inj l14
  subst e14
  replace j3 := Md.onS_l j3
  show ∃ _x : (List Bytecodestate), _ = _ ∧ Weak _ _
  exact ⟨s14_0, Option.some.inj j3, wk⟩
end Md
end Go.Proofs.Ytclffekkjfhpdaa
