import Derived.Test.YtclffekkjfhpdaaQMo
import Derived.Test.YtclffekkjfhpdaaQTy
import Derived.Test.YtclffekkjfhpdaaQAbsQ
import Derived.Test.YtclffekkjfhpdaaQAbsG
import Derived.Test.YtclffekkjfhpdaaQCodeC
import Derived.Test.YtclffekkjfhpdaaQCodeD
namespace Go.Proofs.Ytclffekkjfhpdaa
open Go.ChangeShapes Go.WideShapes Go.RowKit
open Abs
set_option linter.unusedVariables false
set_option linter.unusedSimpArgs false
set_option maxRecDepth 10000
namespace Md
set_option maxHeartbeats 2000000 in
theorem bytecode_Encode_fn (k : Nat) (a0 : Code) (r : (List UInt8)) (h : bytecode_Encode k a0 = some r) : FnC Try.prog 9 [.agg [CV.ls c_CodeType a0.Types]] [] (Det (.one (.own 0)) [(0, some (.row 5 1 r.length (lsEl byC r)))]) := by
  unfold bytecode_Encode at h
  refine fn_intro' 83 Try.func9 rfl rfl rfl (aw_seq (aw_region (aops_step1 rfl (st_box 0 rfl rfl rfl rfl) (s_sa ?_))))
  refine aops_nil (aw_seq (aw_seq (aw_region (s_ls [_] ?_))))
  obtain ⟨x1, hx1, h⟩ := Md.bind_s h
  refine aops_step1 rfl (ev_call_v (bytecode_rightForm_fn k a0 x1 hx1) rfl [] ai rfl rfl rfl (.inl rfl) rfl) (s_nt ?_)
  refine aops_nil ?_
  refine aw_cond rfl (fun c2 => ?_) (fun c2 => ?_)
  · replace h := Md.cond_t h c2
    refine aw_seq (aw_region (s_sa ?_))
    refine aops_nil ?_
    cases Option.some.inj h
    refine aw_own_nil 2 1 5 1 (lsEl byC []) rfl rfl ?_
    refine aw_ret ⟨rfl, ret_r 1 r1 rfl rfl rfl ?_ ?_ ?_⟩
    · first | exact TLe.refl _ | (repeat' (first | exact .refl _ | exact .nil | refine .tup ?_ | refine .v ?_ | refine .cons ?_ ?_ | refine .agg ?_ | refine .one ?_ | exact .nil _ | exact .emp _ | refine .val ?_ | refine .slc ?_ ?_ | fail))
    · rfl
    · rfl
  replace h := Md.cond_f h c2
  refine aw_skip (aw_seq (aw_region (aops_step1 rfl (ev_build' (out := [_]) rfl rfl rfl rfl rfl) (aops_step1 rfl (st_box 1 rfl rfl rfl rfl) (s_sa ?_)))))
  refine aops_nil (aw_seq (aw_region (s_mv ?_)))
  refine s_fd ?_
  refine s_ld ?_
  refine s_ln ?_
  refine aops_own_nil_box 1 0 2 5 1 (lsEl byC []) rfl rfl rfl ?_
  obtain ⟨x3, hx3, h⟩ := Md.bind_s h
  refine aops_step1 rfl (ev_call_w 1 2 (bytecode_writer_number_fn k (⟨([] : List UInt8)⟩ : Bytecodewriter) ((a0.Types.length : Nat) : Int) x3 hx3) rfl [] ai rfl rfl rfl rfl rfl rfl (.inl rfl) rfl) ?_
  refine aops_nil (aw_seq (aw_seq (aw_region (s_fd ?_))))
  refine s_ld ?_
  refine s_ln ?_
  refine s_mv ?_
  refine aops_nil (aw_block ?_)
  obtain ⟨o4, ho4, h⟩ := Md.bind_s h
  refine aw_loop_x (ι := {p : Nat × Nat × (List UInt8) // bytecode_Encode_loop1 k a0 p.1 p.2.1 p.2.2 = some o4}) (fun p => (⟨83, [], [(3, .one (.ptr 1 0)), (21, .one (CV.ls c_CodeType a0.Types)), (22, vI ((a0.Types.length : Nat) : Int)), (23, vI ((p.1.2.1 : Nat) : Int))], [(1, some (.box [.own 2])), (2, some (.row 5 1 p.1.2.2.length (lsEl byC p.1.2.2)))]⟩ : ASt)) (fun p => p.1.1) ⟨(k, 0, x3.b), ho4⟩ wk 0 (ε := (List UInt8)) (fun x => (⟨83, [], [(3, .one (.ptr 1 0))], [(1, some (.box [.own 2])), (2, some (.row 5 1 x.length (lsEl byC x)))]⟩ : ASt)) (fun x => x = o4) (fun _ _ w h => aw_weak w h) ?_ ?_
  · intro x4_0 hI4
    subst hI4
    change AW _ _ (⟨83, [], [(3, .one (.ptr 1 0))], [(1, some (.box [.own 2])), (2, some (.row 5 1 x4_0.length (lsEl byC x4_0)))]⟩ : ASt) _
    refine aw_seq (aw_region (s_mv ?_))
    refine aops_step1 rfl (ev_nilc rfl rfl) (s_fd ?_)
    refine s_ld ?_
    refine s_sa ?_
    refine aops_nil ?_
    cases Option.some.inj h
    refine aw_ret ⟨rfl, ret_r 2 r1 rfl rfl rfl ?_ ?_ ?_⟩
    · first | exact TLe.refl _ | (repeat' (first | exact .refl _ | exact .nil | refine .tup ?_ | refine .v ?_ | refine .cons ?_ ?_ | refine .agg ?_ | refine .one ?_ | exact .nil _ | exact .emp _ | refine .val ?_ | refine .slc ?_ ?_ | fail))
    · rfl
    · rfl
  intro p4
  obtain ⟨⟨n4, s4_0, s4_1⟩, l4⟩ := p4
  change AW _ _ (⟨83, [], [(3, .one (.ptr 1 0)), (21, .one (CV.ls c_CodeType a0.Types)), (22, vI ((a0.Types.length : Nat) : Int)), (23, vI ((s4_0 : Nat) : Int))], [(1, some (.box [.own 2])), (2, some (.row 5 1 s4_1.length (lsEl byC s4_1)))]⟩ : ASt) _
  replace l4 : bytecode_Encode_loop1 k a0 n4 s4_0 s4_1 = some o4 := l4
  rcases n4 with _ | n4
  · exact absurd (show none = some o4 from l4) nofun
  rw [bytecode_Encode_loop1] at l4
  refine aw_seq (aw_region (s_cm ?_))
  refine aops_nil (aw_seq ?_)
  refine aw_cond rfl (fun c5 => ?_) (fun c5 => ?_)
  · replace l4 := Md.cond_t l4 c5
    refine aw_skip ?_
    obtain ⟨o6, j6, l4⟩ := Md.bind_s l4
    refine aw_cut (ε := (List UInt8)) (fun x => (⟨83, [], [(3, .one (.ptr 1 0)), (21, .one (CV.ls c_CodeType a0.Types)), (22, vI ((a0.Types.length : Nat) : Int)), (23, vI ((s4_0 : Nat) : Int))], [(1, some (.box [.own 2])), (2, some (.row 5 1 x.length (lsEl byC x)))]⟩ : ASt)) (fun x => x = o6) ?_ ?_
    · intro x6_0 hI6
      subst hI6
      change AW _ _ (⟨83, [], [(3, .one (.ptr 1 0)), (21, .one (CV.ls c_CodeType a0.Types)), (22, vI ((a0.Types.length : Nat) : Int)), (23, vI ((s4_0 : Nat) : Int))], [(1, some (.box [.own 2])), (2, some (.row 5 1 x6_0.length (lsEl byC x6_0)))]⟩ : ASt) _
      refine aw_region ?_
      obtain ⟨g7, l4⟩ := Md.ifp_s l4
      refine aops_step1 rfl (ev_add rfl rfl rfl (Md.nat_add g7)) (s_mv ?_)
      refine aops_nil ?_
      exact ⟨⟨(n4, (s4_0 + 1), x6_0), l4⟩, Nat.lt_succ_self _, wk⟩
    refine aw_block (aw_seq (aw_region ?_))
    obtain ⟨g8, j6⟩ := Md.ifp_s j6
    refine aops_step1 rfl (ev_index_in rfl rfl rfl g8 rfl rfl) (aops_step1 rfl (ev_loads_in (ds := [_, _, _]) rfl rfl rfl rfl) ?_)
    refine aops_step1 rfl (st_alloc (cs := [.val (Sv []), .val (.slice none 0 0), .val (.slice none 0 0)]) 3 rfl rfl rfl rfl rfl) (s_st [_, _, _] ?_)
    refine aops_nil (aw_seq (aw_region (s_mv ?_)))
    refine s_fd ?_
    refine s_ld ?_
    obtain ⟨x9, hx9, j6⟩ := Md.bind_s j6
    refine aops_step1 rfl (ev_call_w 1 2 (bytecode_writer_text_fn k (⟨s4_1⟩ : Bytecodewriter) ((a0.Types.getD s4_0 default).Name) x9 hx9) rfl [] ai rfl rfl rfl rfl rfl rfl (.inl rfl) rfl) ?_
    refine aops_nil (aw_seq (aw_region (s_mv ?_)))
    refine s_fd ?_
    refine s_ld ?_
    refine s_ln ?_
    obtain ⟨x10, hx10, j6⟩ := Md.bind_s j6
    refine aops_step1 rfl (ev_call_w 1 2 (bytecode_writer_number_fn k x9 ((((a0.Types.getD s4_0 default).Fields).length : Nat) : Int) x10 hx10) rfl [] ai rfl rfl rfl rfl rfl rfl (.inl rfl) rfl) ?_
    refine aops_nil (aw_seq (aw_seq (aw_region (s_fd ?_))))
    refine s_ld ?_
    refine s_ln ?_
    refine s_mv ?_
    refine aops_nil (aw_block ?_)
    obtain ⟨o11, ho11, j6⟩ := Md.bind_s j6
    refine aw_loop_x (ι := {p : Nat × Nat × (List UInt8) // bytecode_Encode_loop2 k a0 s4_0 p.1 p.2.1 p.2.2 = some o11}) (fun p => (⟨83, [], [(3, .one (.ptr 1 0)), (5, .one (.ptr 3 0)), (21, .one (CV.ls c_CodeType a0.Types)), (22, vI ((a0.Types.length : Nat) : Int)), (23, vI ((s4_0 : Nat) : Int)), (37, .one (CV.ls c_Field ((a0.Types.getD s4_0 default).Fields))), (38, vI ((((a0.Types.getD s4_0 default).Fields).length : Nat) : Int)), (39, vI ((p.1.2.1 : Nat) : Int))], [(1, some (.box [.own 2])), (2, some (.row 5 1 p.1.2.2.length (lsEl byC p.1.2.2))), (3, some (.box (c_CodeType (a0.Types.getD s4_0 default))))]⟩ : ASt)) (fun p => p.1.1) ⟨(k, 0, x10.b), ho11⟩ wk 2 (ε := (List UInt8)) (fun x => (⟨83, [], [(3, .one (.ptr 1 0)), (5, .one (.ptr 3 0)), (21, .one (CV.ls c_CodeType a0.Types)), (22, vI ((a0.Types.length : Nat) : Int)), (23, vI ((s4_0 : Nat) : Int))], [(1, some (.box [.own 2])), (2, some (.row 5 1 x.length (lsEl byC x))), (3, some (.box (c_CodeType (a0.Types.getD s4_0 default))))]⟩ : ASt)) (fun x => x = o11) (fun _ _ w h => aw_weak w h) ?_ ?_
    · intro x11_0 hI11
      subst hI11
      change AW _ _ (⟨83, [], [(3, .one (.ptr 1 0)), (5, .one (.ptr 3 0)), (21, .one (CV.ls c_CodeType a0.Types)), (22, vI ((a0.Types.length : Nat) : Int)), (23, vI ((s4_0 : Nat) : Int))], [(1, some (.box [.own 2])), (2, some (.row 5 1 x11_0.length (lsEl byC x11_0))), (3, some (.box (c_CodeType (a0.Types.getD s4_0 default))))]⟩ : ASt) _
      refine aw_seq (aw_region (s_mv ?_))
      refine s_fd ?_
      refine s_ld ?_
      refine s_ln ?_
      obtain ⟨x12, hx12, j6⟩ := Md.bind_s j6
      refine aops_step1 rfl (ev_call_w 1 2 (bytecode_writer_number_fn k (⟨x11_0⟩ : Bytecodewriter) ((((a0.Types.getD s4_0 default).Methods).length : Nat) : Int) x12 hx12) rfl [] ai rfl rfl rfl rfl rfl rfl (.inl rfl) rfl) ?_
      refine aops_nil (aw_seq (aw_region (s_fd ?_)))
      refine s_ld ?_
      refine s_ln ?_
      refine s_mv ?_
      refine aops_nil (aw_block ?_)
      obtain ⟨o13, ho13, j6⟩ := Md.bind_s j6
      refine aw_loop (ι := {p : Nat × Nat × (List UInt8) // bytecode_Encode_loop3 k a0 s4_0 p.1 p.2.1 p.2.2 = some o13}) (fun p => (⟨83, [], [(3, .one (.ptr 1 0)), (21, .one (CV.ls c_CodeType a0.Types)), (22, vI ((a0.Types.length : Nat) : Int)), (23, vI ((s4_0 : Nat) : Int)), (68, .one (CV.ls c_CodeMethod ((a0.Types.getD s4_0 default).Methods))), (69, vI ((((a0.Types.getD s4_0 default).Methods).length : Nat) : Int)), (70, vI ((p.1.2.1 : Nat) : Int))], [(1, some (.box [.own 2])), (2, some (.row 5 1 p.1.2.2.length (lsEl byC p.1.2.2)))]⟩ : ASt)) (fun p => p.1.1) ⟨(k, 0, x12.b), ho13⟩ wk ?_
      intro p13
      obtain ⟨⟨n13, s13_0, s13_1⟩, l13⟩ := p13
      change AW _ _ (⟨83, [], [(3, .one (.ptr 1 0)), (21, .one (CV.ls c_CodeType a0.Types)), (22, vI ((a0.Types.length : Nat) : Int)), (23, vI ((s4_0 : Nat) : Int)), (68, .one (CV.ls c_CodeMethod ((a0.Types.getD s4_0 default).Methods))), (69, vI ((((a0.Types.getD s4_0 default).Methods).length : Nat) : Int)), (70, vI ((s13_0 : Nat) : Int))], [(1, some (.box [.own 2])), (2, some (.row 5 1 s13_1.length (lsEl byC s13_1)))]⟩ : ASt) _
      replace l13 : bytecode_Encode_loop3 k a0 s4_0 n13 s13_0 s13_1 = some o13 := l13
      rcases n13 with _ | n13
      · exact absurd (show none = some o13 from l13) nofun
      rw [bytecode_Encode_loop3] at l13
      refine aw_seq (aw_region (s_cm ?_))
      refine aops_nil (aw_seq ?_)
      refine aw_cond rfl (fun c14 => ?_) (fun c14 => ?_)
      · replace l13 := Md.cond_t l13 c14
        refine aw_skip (aw_seq (aw_block (aw_seq (aw_region ?_))))
        obtain ⟨g15, l13⟩ := Md.ifp_s l13
        refine aops_step1 rfl (ev_index_in rfl rfl rfl g15 rfl rfl) (aops_step1 rfl (ev_loads_in (ds := [_, _, _, _, _]) rfl rfl rfl rfl) ?_)
        refine aops_step1 rfl (st_alloc (cs := [.val (Sv []), .val (.slice none 0 0), cI 0, .val (.slice none 0 0), .val (.slice none 0 0)]) 4 rfl rfl rfl rfl rfl) (s_st [_, _, _, _, _] ?_)
        refine aops_nil (aw_region (s_mv ?_))
        refine s_ls [_, _, _, _, _] ?_
        obtain ⟨x16, hx16, l13⟩ := Md.bind_s l13
        refine aops_step1 rfl (ev_call_w 1 2 (bytecode_writer_method_fn k (⟨s13_1⟩ : Bytecodewriter) (((a0.Types.getD s4_0 default).Methods).getD s13_0 default) x16 hx16) rfl [] ai rfl rfl rfl rfl rfl rfl (.inl rfl) rfl) ?_
        refine aops_nil (aw_region ?_)
        obtain ⟨g17, l13⟩ := Md.ifp_s l13
        refine aops_step1 rfl (ev_add rfl rfl rfl (Md.nat_add g17)) (s_mv ?_)
        refine aops_nil ?_
        exact ⟨⟨(n13, (s13_0 + 1), x16.b), l13⟩, Nat.lt_succ_self _, wk⟩
      replace l13 := Md.cond_f l13 c14
      refine aw_exit ?_
      have e13 := Option.some.inj l13
      subst e13
      show ∃ _x : (List UInt8), _ = _ ∧ Weak _ _
      exact ⟨s13_1, Option.some.inj j6, wk⟩
    intro p11
    obtain ⟨⟨n11, s11_0, s11_1⟩, l11⟩ := p11
    change AW _ _ (⟨83, [], [(3, .one (.ptr 1 0)), (5, .one (.ptr 3 0)), (21, .one (CV.ls c_CodeType a0.Types)), (22, vI ((a0.Types.length : Nat) : Int)), (23, vI ((s4_0 : Nat) : Int)), (37, .one (CV.ls c_Field ((a0.Types.getD s4_0 default).Fields))), (38, vI ((((a0.Types.getD s4_0 default).Fields).length : Nat) : Int)), (39, vI ((s11_0 : Nat) : Int))], [(1, some (.box [.own 2])), (2, some (.row 5 1 s11_1.length (lsEl byC s11_1))), (3, some (.box (c_CodeType (a0.Types.getD s4_0 default))))]⟩ : ASt) _
    replace l11 : bytecode_Encode_loop2 k a0 s4_0 n11 s11_0 s11_1 = some o11 := l11
    rcases n11 with _ | n11
    · exact absurd (show none = some o11 from l11) nofun
    rw [bytecode_Encode_loop2] at l11
    refine aw_seq (aw_region (s_cm ?_))
    refine aops_nil (aw_seq ?_)
    refine aw_cond rfl (fun c18 => ?_) (fun c18 => ?_)
    · replace l11 := Md.cond_t l11 c18
      refine aw_skip (aw_seq (aw_block (aw_seq (aw_region ?_))))
      obtain ⟨g19, l11⟩ := Md.ifp_s l11
      refine aops_step1 rfl (ev_index_in rfl rfl rfl g19 rfl rfl) (aops_step1 rfl (ev_loads_in (ds := [_, _, _, _, _, _, _]) rfl rfl rfl rfl) ?_)
      refine aops_step1 rfl (st_alloc (cs := [.val (Sv []), cI 0, cI 0, cI 0, .val (Sv []), .val (.slice none 0 0), .val (.slice none 0 0)]) 4 rfl rfl rfl rfl rfl) (s_st [_, _, _, _, _, _, _] ?_)
      refine aops_nil (aw_seq (aw_region (s_mv ?_)))
      refine s_fd ?_
      refine s_ld ?_
      obtain ⟨x20, hx20, l11⟩ := Md.bind_s l11
      refine aops_step1 rfl (ev_call_w 1 2 (bytecode_writer_text_fn k (⟨s11_1⟩ : Bytecodewriter) ((((a0.Types.getD s4_0 default).Fields).getD s11_0 default).Name) x20 hx20) rfl [] ai rfl rfl rfl rfl rfl rfl (.inl rfl) rfl) ?_
      refine aops_nil (aw_seq (aw_region (s_mv ?_)))
      refine s_fd ?_
      refine s_ld ?_
      obtain ⟨x21, hx21, l11⟩ := Md.bind_s l11
      refine aops_step1 rfl (ev_call_w 1 2 (bytecode_writer_number_fn k x20 ((((a0.Types.getD s4_0 default).Fields).getD s11_0 default).Kind) x21 hx21) rfl [] ai rfl rfl rfl rfl rfl rfl (.inl rfl) rfl) ?_
      refine aops_nil ?_
      obtain ⟨x22, hx22, l11⟩ := Md.bind_s l11
      apply aw_draw 8 ((⟨[], .one (.ptr 1 _)⟩ : Add) :: ⟨[], .one (.ptr 1 _)⟩ :: ⟨[], .one (.ptr 1 _)⟩ :: ⟨[], .one (.ptr 1 _)⟩ :: ⟨[], .one (.own 2)⟩ :: ⟨[], .one (.ptr 4 _)⟩ :: ⟨[], .agg (c_Value ((((a0.Types.getD s4_0 default).Fields).getD s11_0 default).Init))⟩ :: ⟨[(5, some (.row 5 1 x22.length (lsEl byC x22)))], .one (.own 5)⟩ :: []) (by decide) rfl ?hk36x ?hf36x ?ho36x ?hr36x
      case ho36x =>
       refine ob [] (fun S hle hfr => .inl ⟨w0, st_move (hle.e rfl) (hle.d rfl)⟩) (ob [] (fun S hle hfr => .inl ⟨w0, st_move (hle.e rfl) (hle.d rfl)⟩) ?_)
       refine ob [1] (fun S hle hfr => .inl ⟨w0, ev_nilc (hle.e rfl) (hle.d rfl)⟩) (ob [2, 1] (fun S hle hfr => .inl ⟨w0, ev_field (hle.e rfl) rfl (hle.d rfl)⟩) ?_)
       refine ob [3, 2, 1] (fun S hle hfr => .inl ⟨w0, ev_load (hle.e rfl) (hle.heap _ _ rfl) rfl (hle.d rfl)⟩) ?_
       refine ob [] (fun S hle hfr => .inl ⟨w0, ev_field (hle.e rfl) rfl (hle.d rfl)⟩) ?_
       refine ob [5] (fun S hle hfr => .inl ⟨w0, ev_loads (ds := [_, _, _, _, _]) (hle.e rfl) (hle.heap _ _ rfl) rfl rfl (hle.d rfl)⟩) ?_
       refine ob [4, 6, 3, 5, 2, 1] (fun S hle hfr => .inl ⟨w0, st_call_r (r' := .one (.own 5)) 5 (hfr _ (List.mem_singleton.2 rfl)) (wire_AppendValue_fn k x21.b ((((a0.Types.getD s4_0 default).Fields).getD s11_0 default).Init) x22 hx22) (map_ev (.cons (hle.e rfl) (.cons (hle.e rfl) (.nil)))) [2] (by repeat' (first | exact .nil | refine .cons ?_ ?_ | refine .one ?_ | refine .agg ?_ | exact .mk rfl | exact .lend (hle.heap _ _ rfl) (by simp) | exact .le (.nil _) rfl | exact .le (.emp _) rfl | exact .le (.any _) rfl | fail)) rfl rfl rfl (.inr ⟨rfl, fun _ _ => rfl⟩) (hle.d rfl) rfl⟩) ?_
       exact trivial
      case hk36x => rfl
      case hf36x => rfl
      refine aops_step1 rfl (ev_nilc rfl rfl) (s_fd ?_)
      refine s_st [_] ?_
      refine aops_swap 2 5 (aops_nil (aw_region ?_))
      obtain ⟨g23, l11⟩ := Md.ifp_s l11
      refine aops_step1 rfl (ev_add rfl rfl rfl (Md.nat_add g23)) (s_mv ?_)
      refine aops_nil ?_
      exact ⟨⟨(n11, (s11_0 + 1), x22), l11⟩, Nat.lt_succ_self _, wk⟩
    replace l11 := Md.cond_f l11 c18
    refine aw_exit ?_
    show ∃ _x : (List UInt8), _ = _ ∧ Weak _ _
    exact ⟨s11_1, Option.some.inj l11, wk⟩
  replace l4 := Md.cond_f l4 c5
  refine aw_exit ?_
  show ∃ _x : (List UInt8), _ = _ ∧ Weak _ _
  exact ⟨s4_1, Option.some.inj l4, wk⟩
end Md
end Go.Proofs.Ytclffekkjfhpdaa
