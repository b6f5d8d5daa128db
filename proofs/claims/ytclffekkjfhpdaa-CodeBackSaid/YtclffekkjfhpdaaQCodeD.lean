import Derived.Test.YtclffekkjfhpdaaQMo
import Derived.Test.YtclffekkjfhpdaaQTy
import Derived.Test.YtclffekkjfhpdaaQAbsQ
import Derived.Test.YtclffekkjfhpdaaQAbsG
import Derived.Test.YtclffekkjfhpdaaQCodeB
namespace Go.Proofs.Ytclffekkjfhpdaa
open Go.ChangeShapes Go.WideShapes Go.RowKit
open Abs
set_option linter.unusedVariables false
set_option linter.unusedSimpArgs false
set_option maxRecDepth 10000
namespace Md
set_option maxHeartbeats 2000000 in
theorem wire_extend_fn (k : Nat) (a0 : List UInt8) (a1 : Int) (r : (List UInt8)) (h : wire_extend k a0 a1 = some r) : FnC Try.prog 48 [.one (CV.ls byC a0), vI a1] [] (Det (.one (.own 0)) [(0, some (.row 5 1 r.length (lsEl byC r)))]) := by
  unfold wire_extend at h
  refine fn_intro' 17 Try.func48 rfl rfl rfl (aw_seq (aw_region (s_sa ?_)))
  refine aops_nil (aw_seq (aw_region (s_mv ?_)))
  refine s_ln ?_
  refine s_mv ?_
  refine s_ln ?_
  refine s_mv ?_
  refine aops_step1 rfl (ev_add rfl rfl rfl (Md.wrap_W _)) ?_
  obtain ⟨g1, h⟩ := Md.ifp_s h
  obtain ⟨g2, h⟩ := Md.ifp_s h
  obtain ⟨g3, h⟩ := Md.ifp_s h
  refine aops_step1 rfl (st_make (f := byC) 0 a0.length (((Md.W (((a0.length : Nat) : Int) + a1))).toNat) (0 : UInt8) rfl rfl (Md.ev_nn rfl g1) g3 g2 rfl rfl rfl (fun _ => rfl) (by decide) rfl) (s_sa ?_)
  refine aops_nil (aw_seq (aw_region ?_))
  iterate 2 refine s_mv ?_
  refine aops_step1 rfl (st_copy (f := byC) (List.replicate a0.length (0 : UInt8)) a0 (fun _ => rfl) rfl rfl (.inl rfl) rfl) (aops_nil (aw_seq (aw_region (s_mv ?_))))
  refine s_sa ?_
  refine aops_nil ?_
  cases Option.some.inj h
  refine aw_ret ⟨rfl, ret_r 0 r1 rfl rfl rfl ?_ ?_ ?_⟩
  · first | exact TLe.refl _ | (repeat' (first | exact .refl _ | exact .nil | refine .tup ?_ | refine .v ?_ | refine .cons ?_ ?_ | refine .agg ?_ | refine .one ?_ | exact .nil _ | exact .emp _ | refine .val ?_ | refine .slc ?_ ?_ | fail))
  · rfl
  · rfl
set_option maxHeartbeats 2000000 in
theorem wire_putUint_fn (k : Nat) (a0 : List UInt8) (a1 : UInt64) (r : (List UInt8)) (h : wire_putUint k a0 a1 = some r) : FnC Try.prog 72 [.one (.own 0), .one (.val (.int .u64 (a1.toNat : Int)))] [(0, some (.row 5 1 a0.length (lsEl byC a0)))] (Det (.one (.own 0)) [(0, some (.row 5 1 r.length (lsEl byC r)))]) := by
  unfold wire_putUint at h
  refine fn_intro' 20 Try.func72 rfl rfl rfl (aw_seq (aw_region (s_sa ?_)))
  refine aops_nil ?_
  obtain ⟨o1, j1, h⟩ := Md.bind_s h
  refine aw_cut (ε := (UInt64 × (List UInt8))) (fun x => (⟨20, [], [(0, .one (.own 0)), (1, .one (.val (.int .u64 (x.1.toNat : Int))))], [(0, some (.row 5 1 x.2.length (lsEl byC x.2)))]⟩ : ASt)) (fun x => x = o1) ?_ ?_
  · intro x1_0 hI1
    subst hI1
    change AW _ _ (⟨20, [], [(0, .one (.own 0)), (1, .one (.val (.int .u64 (x1_0.1.toNat : Int))))], [(0, some (.row 5 1 x1_0.2.length (lsEl byC x1_0.2)))]⟩ : ASt) _
    refine aw_seq (aw_region ?_)
    iterate 2 refine s_mv ?_
    refine aops_step1 rfl (st_conv_int rfl rfl Try.underlying97 Try.underlying5 (Md.conv_u64_u8 x1_0.1)) ?_
    refine aops_step1 rfl (st_slice_lit (el := lsEl byC [(x1_0.1.toUInt8)]) 1 rfl rfl rfl rfl rfl rfl rfl rfl (lit_el byC 1 [(x1_0.1.toUInt8)] (fun _ => rfl)) rfl) ?_
    obtain ⟨g2, h⟩ := Md.ifp_s h
    refine aops_step1 rfl (st_app_ls (f := byC) x1_0.2 [(x1_0.1.toUInt8)] (fun _ => rfl) rfl rfl (.inr ⟨_, _, rfl, rfl⟩) (by omega) (by omega) rfl) (s_sa ?_)
    refine aops_nil ?_
    cases Option.some.inj h
    refine aw_ret ⟨rfl, ret_r 0 r1 rfl rfl rfl ?_ ?_ ?_⟩
    · first | exact TLe.refl _ | (repeat' (first | exact .refl _ | exact .nil | refine .tup ?_ | refine .v ?_ | refine .cons ?_ ?_ | refine .agg ?_ | refine .one ?_ | exact .nil _ | exact .emp _ | refine .val ?_ | refine .slc ?_ ?_ | fail))
    · rfl
    · rfl
  refine aw_block ?_
  obtain ⟨o3, ho3, j1⟩ := Md.bind_s j1
  refine aw_loop (ι := {p : Nat × UInt64 × (List UInt8) // wire_putUint_loop1 k p.1 p.2.1 p.2.2 = some o3}) (fun p => (⟨20, [], [(0, .one (.own 0)), (1, .one (.val (.int .u64 (p.1.2.1.toNat : Int))))], [(0, some (.row 5 1 p.1.2.2.length (lsEl byC p.1.2.2)))]⟩ : ASt)) (fun p => p.1.1) ⟨(k, a1, a0), ho3⟩ wk ?_
  intro p3
  obtain ⟨⟨n3, s3_0, s3_1⟩, l3⟩ := p3
  change AW _ _ (⟨20, [], [(0, .one (.own 0)), (1, .one (.val (.int .u64 (s3_0.toNat : Int))))], [(0, some (.row 5 1 s3_1.length (lsEl byC s3_1)))]⟩ : ASt) _
  replace l3 : wire_putUint_loop1 k n3 s3_0 s3_1 = some o3 := l3
  rcases n3 with _ | n3
  · exact absurd (show none = some o3 from l3) nofun
  rw [wire_putUint_loop1] at l3
  refine aw_seq (aw_seq (aw_region (s_mv ?_)))
  refine s_cm ?_
  refine aops_nil ?_
  refine aw_cond rfl (fun c4 => ?_) (fun c4 => ?_)
  · replace l3 := Md.cond_t l3 c4
    refine aw_skip (aw_block (aw_seq (aw_region ?_)))
    iterate 2 refine s_mv ?_
    refine aops_step1 rfl (st_conv_int rfl rfl Try.underlying97 Try.underlying5 (Md.conv_u64_u8 s3_0)) ?_
    refine aops_step1 rfl (ev_bits rfl rfl rfl rfl (Md.or_u8 (s3_0.toUInt8) (128 : UInt8))) ?_
    refine aops_step1 rfl (st_slice_lit (el := lsEl byC [((s3_0.toUInt8) ||| (128 : UInt8))]) 1 rfl rfl rfl rfl rfl rfl rfl rfl (lit_el byC 1 [((s3_0.toUInt8) ||| (128 : UInt8))] (fun _ => rfl)) rfl) ?_
    obtain ⟨g5, l3⟩ := Md.ifp_s l3
    refine aops_step1 rfl (st_app_ls (f := byC) s3_1 [((s3_0.toUInt8) ||| (128 : UInt8))] (fun _ => rfl) rfl rfl (.inr ⟨_, _, rfl, rfl⟩) (by omega) (by omega) rfl) (s_sa ?_)
    refine aops_nil (aw_region (s_mv ?_))
    refine aops_step1 rfl (ev_shr rfl rfl rfl (by decide) (Md.shr_u64 s3_0 (Md.nat_toNat 7))) (s_sa ?_)
    refine aops_nil ?_
    exact ⟨⟨(n3, (Md.shr64 s3_0 7), (s3_1 ++ [((s3_0.toUInt8) ||| (128 : UInt8))])), l3⟩, Nat.lt_succ_self _, wk⟩
  replace l3 := Md.cond_f l3 c4
  refine aw_exit ?_
  have e3 := Option.some.inj l3
  subst e3
  show ∃ _x : UInt64 × (List UInt8), _ = _ ∧ Weak _ _
  exact ⟨(s3_0, s3_1), Option.some.inj j1, wk⟩
set_option maxHeartbeats 2000000 in
theorem wire_AppendUint_fn (k : Nat) (a0 : List UInt8) (a1 : UInt64) (r : (List UInt8)) (h : wire_AppendUint k a0 a1 = some r) : FnC Try.prog 45 [.one (CV.ls byC a0), .one (.val (.int .u64 (a1.toNat : Int)))] [] (Det (.one (.own 0)) [(0, some (.row 5 1 r.length (lsEl byC r)))]) := by
  unfold wire_AppendUint at h
  refine fn_intro' 9 Try.func45 rfl rfl rfl (aw_seq (aw_region (s_sa ?_)))
  refine aops_nil (aw_seq (aw_region (s_mv ?_)))
  obtain ⟨x1, hx1, h⟩ := Md.bind_s h
  refine aops_step1 rfl (st_call_r (r' := .one (.own 0)) 0 rfl (wire_extend_fn k a0 10 x1 hx1) rfl [] ai rfl rfl rfl (.inl rfl) rfl rfl) (s_mv ?_)
  obtain ⟨x2, hx2, h⟩ := Md.bind_s h
  refine aops_step1 rfl (st_call_o (r' := .one (.own 0)) 0 rfl (wire_putUint_fn k x1 a1 x2 hx2) rfl [] ai rfl rfl rfl (.inl rfl) rfl rfl) (s_sa ?_)
  refine aops_nil ?_
  cases Option.some.inj h
  refine aw_ret ⟨rfl, ret_r 0 r1 rfl rfl rfl ?_ ?_ ?_⟩
  · first | exact TLe.refl _ | (repeat' (first | exact .refl _ | exact .nil | refine .tup ?_ | refine .v ?_ | refine .cons ?_ ?_ | refine .agg ?_ | refine .one ?_ | exact .nil _ | exact .emp _ | refine .val ?_ | refine .slc ?_ ?_ | fail))
  · rfl
  · rfl
set_option maxHeartbeats 2000000 in
theorem bytecode_writer_number_fn (k : Nat) (a0 : Bytecodewriter) (a1 : Int) (r : Bytecodewriter) (h : bytecode_writer_number k a0 a1 = some r) : FnC Try.prog 18 [.one (.ptr 0 0), vI a1] (boxRow 5 1 a0.b.length (lsEl byC a0.b)) (Det (.tup []) (boxRow 5 1 r.b.length (lsEl byC r.b))) := by
  unfold bytecode_writer_number at h
  refine fn_intro' 14 Try.func18 rfl rfl rfl (aw_region ?_)
  iterate 2 refine s_mv ?_
  refine aops_step1 rfl (ev_nilc rfl rfl) (s_fd ?_)
  refine s_ld ?_
  refine s_mv ?_
  refine aops_step1 rfl (st_conv_int rfl rfl Try.underlying3 Try.underlying97 (Md.ofInt_u64 a1)) ?_
  obtain ⟨x1, hx1, h⟩ := Md.bind_s h
  refine aops_step1 rfl (st_call_r (r' := .one (.own 2)) 2 rfl (wire_AppendUint_fn k a0.b (UInt64.ofInt a1) x1 hx1) rfl [1] ai rfl rfl rfl (.inr ⟨rfl, fun _ _ => rfl⟩) rfl rfl) ?_
  refine aops_step1 rfl (ev_nilc rfl rfl) (s_fd ?_)
  refine s_st [_] ?_
  refine aops_swap 1 2 (aops_nil ?_)
  cases Option.some.inj h
  refine ⟨rfl, ret_w 1 (rn (.nil)) rfl rfl (fun _ => rfl) rfl rfl rfl rfl ?_⟩
  (repeat' (first | exact .refl _ | exact .nil | refine .tup ?_ | refine .v ?_ | refine .cons ?_ ?_ | refine .agg ?_ | refine .one ?_ | exact .nil _ | exact .emp _ | refine .val ?_ | refine .slc ?_ ?_ | fail))
set_option maxHeartbeats 2000000 in
theorem wire_putString_fn (k : Nat) (a0 : List UInt8) (a1 : List UInt8) (r : (List UInt8)) (h : wire_putString k a0 a1 = some r) : FnC Try.prog 50 [.one (.own 0), .one (.val (Sv a1))] [(0, some (.row 5 1 a0.length (lsEl byC a0)))] (Det (.one (.own 0)) [(0, some (.row 5 1 r.length (lsEl byC r)))]) := by
  unfold wire_putString at h
  refine fn_intro' 12 Try.func50 rfl rfl rfl (aw_seq (aw_region (s_sa ?_)))
  refine aops_nil (aw_seq (aw_region ?_))
  iterate 2 refine s_mv ?_
  refine aops_step1 rfl (st_len_str rfl rfl) (aops_step1 rfl (st_conv_int rfl rfl Try.underlying3 Try.underlying97 (Md.ofNat_u64 a1.length)) ?_)
  obtain ⟨x1, hx1, h⟩ := Md.bind_s h
  refine aops_step1 rfl (st_call_o (r' := .one (.own 0)) 0 rfl (wire_putUint_fn k a0 (UInt64.ofNat a1.length) x1 hx1) rfl [] ai rfl rfl rfl (.inl rfl) rfl rfl) (s_mv ?_)
  obtain ⟨g2, h⟩ := Md.ifp_s h
  refine aops_step1 rfl (st_app_str x1 a1 rfl rfl rfl g2 rfl) (s_sa ?_)
  refine aops_nil ?_
  cases Option.some.inj h
  refine aw_ret ⟨rfl, ret_r 0 r1 rfl rfl rfl ?_ ?_ ?_⟩
  · first | exact TLe.refl _ | (repeat' (first | exact .refl _ | exact .nil | refine .tup ?_ | refine .v ?_ | refine .cons ?_ ?_ | refine .agg ?_ | refine .one ?_ | exact .nil _ | exact .emp _ | refine .val ?_ | refine .slc ?_ ?_ | fail))
  · rfl
  · rfl
set_option maxHeartbeats 2000000 in
theorem wire_AppendString_fn (k : Nat) (a0 : List UInt8) (a1 : List UInt8) (r : (List UInt8)) (h : wire_AppendString k a0 a1 = some r) : FnC Try.prog 46 [.one (CV.ls byC a0), .one (.val (Sv a1))] [] (Det (.one (.own 0)) [(0, some (.row 5 1 r.length (lsEl byC r)))]) := by
  unfold wire_AppendString at h
  refine fn_intro' 12 Try.func46 rfl rfl rfl (aw_seq (aw_region (s_sa ?_)))
  refine aops_nil (aw_seq (aw_region ?_))
  iterate 2 refine s_mv ?_
  refine aops_step1 rfl (st_len_str rfl rfl) ?_
  obtain ⟨g1, h⟩ := Md.ifp_s h
  refine aops_step1 rfl (ev_add rfl rfl rfl (Md.nat_add g1)) ?_
  obtain ⟨x2, hx2, h⟩ := Md.bind_s h
  refine aops_step1 rfl (st_call_r (r' := .one (.own 0)) 0 rfl (wire_extend_fn k a0 (((a1.length + 10) : Nat) : Int) x2 hx2) rfl [] ai rfl rfl rfl (.inl rfl) rfl rfl) (s_mv ?_)
  obtain ⟨x3, hx3, h⟩ := Md.bind_s h
  refine aops_step1 rfl (st_call_o (r' := .one (.own 0)) 0 rfl (wire_putString_fn k x2 a1 x3 hx3) rfl [] ai rfl rfl rfl (.inl rfl) rfl rfl) (s_sa ?_)
  refine aops_nil ?_
  cases Option.some.inj h
  refine aw_ret ⟨rfl, ret_r 0 r1 rfl rfl rfl ?_ ?_ ?_⟩
  · first | exact TLe.refl _ | (repeat' (first | exact .refl _ | exact .nil | refine .tup ?_ | refine .v ?_ | refine .cons ?_ ?_ | refine .agg ?_ | refine .one ?_ | exact .nil _ | exact .emp _ | refine .val ?_ | refine .slc ?_ ?_ | fail))
  · rfl
  · rfl
set_option maxHeartbeats 2000000 in
theorem bytecode_writer_text_fn (k : Nat) (a0 : Bytecodewriter) (a1 : List UInt8) (r : Bytecodewriter) (h : bytecode_writer_text k a0 a1 = some r) : FnC Try.prog 19 [.one (.ptr 0 0), .one (.val (Sv a1))] (boxRow 5 1 a0.b.length (lsEl byC a0.b)) (Det (.tup []) (boxRow 5 1 r.b.length (lsEl byC r.b))) := by
  unfold bytecode_writer_text at h
  refine fn_intro' 13 Try.func19 rfl rfl rfl (aw_region ?_)
  iterate 2 refine s_mv ?_
  refine aops_step1 rfl (ev_nilc rfl rfl) (s_fd ?_)
  refine s_ld ?_
  refine s_mv ?_
  obtain ⟨x1, hx1, h⟩ := Md.bind_s h
  refine aops_step1 rfl (st_call_r (r' := .one (.own 2)) 2 rfl (wire_AppendString_fn k a0.b a1 x1 hx1) rfl [1] ai rfl rfl rfl (.inr ⟨rfl, fun _ _ => rfl⟩) rfl rfl) ?_
  refine aops_step1 rfl (ev_nilc rfl rfl) (s_fd ?_)
  refine s_st [_] ?_
  refine aops_swap 1 2 (aops_nil ?_)
  cases Option.some.inj h
  refine ⟨rfl, ret_w 1 (rn (.nil)) rfl rfl (fun _ => rfl) rfl rfl rfl rfl ?_⟩
  (repeat' (first | exact .refl _ | exact .nil | refine .tup ?_ | refine .v ?_ | refine .cons ?_ ?_ | refine .agg ?_ | refine .one ?_ | exact .nil _ | exact .emp _ | refine .val ?_ | refine .slc ?_ ?_ | fail))
set_option maxHeartbeats 2000000 in
theorem wire_putInt_fn (k : Nat) (a0 : List UInt8) (a1 : Int) (r : (List UInt8)) (h : wire_putInt k a0 a1 = some r) : FnC Try.prog 49 [.one (.own 0), vI a1] [(0, some (.row 5 1 a0.length (lsEl byC a0)))] (Det (.one (.own 0)) [(0, some (.row 5 1 r.length (lsEl byC r)))]) := by
  unfold wire_putInt at h
  refine fn_intro' 14 Try.func49 rfl rfl rfl (aw_seq (aw_region (s_sa ?_)))
  refine aops_nil (aw_seq (aw_region ?_))
  iterate 2 refine s_mv ?_
  refine aops_step1 rfl (st_conv_int rfl rfl Try.underlying3 Try.underlying97 (Md.ofInt_u64 a1)) ?_
  refine aops_step1 rfl (ev_shl rfl rfl rfl (by decide) (Md.shl_u64 (UInt64.ofInt a1) (Md.nat_toNat 1))) (s_mv ?_)
  refine aops_step1 rfl (ev_shr rfl rfl rfl (by decide) (Md.ishr_i64 a1 (Md.nat_toNat 63))) ?_
  refine aops_step1 rfl (st_conv_int rfl rfl Try.underlying3 Try.underlying97 (Md.ofInt_u64 (Md.ishr a1 63))) ?_
  refine aops_step1 rfl (ev_bits rfl rfl rfl rfl (Md.xor_u64 (Md.shl64 (UInt64.ofInt a1) 1) (UInt64.ofInt (Md.ishr a1 63)))) ?_
  obtain ⟨x1, hx1, h⟩ := Md.bind_s h
  refine aops_step1 rfl (st_call_o (r' := .one (.own 0)) 0 rfl (wire_putUint_fn k a0 ((Md.shl64 (UInt64.ofInt a1) 1) ^^^ (UInt64.ofInt (Md.ishr a1 63))) x1 hx1) rfl [] ai rfl rfl rfl (.inl rfl) rfl rfl) (s_sa ?_)
  refine aops_nil ?_
  cases Option.some.inj h
  refine aw_ret ⟨rfl, ret_r 0 r1 rfl rfl rfl ?_ ?_ ?_⟩
  · first | exact TLe.refl _ | (repeat' (first | exact .refl _ | exact .nil | refine .tup ?_ | refine .v ?_ | refine .cons ?_ ?_ | refine .agg ?_ | refine .one ?_ | exact .nil _ | exact .emp _ | refine .val ?_ | refine .slc ?_ ?_ | fail))
  · rfl
  · rfl
set_option maxHeartbeats 2000000 in
theorem wire_AppendInts_fn (k : Nat) (a0 : List UInt8) (a1 : List Int) (r : (List UInt8)) (h : wire_AppendInts k a0 a1 = some r) : FnC Try.prog 51 [.one (CV.ls byC a0), .one (CV.ls c_Int a1)] [] (Det (.one (.own 0)) [(0, some (.row 5 1 r.length (lsEl byC r)))]) := by
  unfold wire_AppendInts at h
  refine fn_intro' 29 Try.func51 rfl rfl rfl (aw_seq (aw_region (s_sa ?_)))
  refine aops_nil (aw_seq (aw_region ?_))
  iterate 2 refine s_mv ?_
  refine s_ln ?_
  obtain ⟨g1, h⟩ := Md.ifp_s h
  refine aops_step1 rfl (ev_mul rfl rfl rfl (Md.nat_mul g1)) ?_
  obtain ⟨g2, h⟩ := Md.ifp_s h
  refine aops_step1 rfl (ev_add rfl rfl rfl (Md.nat_add g2)) ?_
  obtain ⟨x3, hx3, h⟩ := Md.bind_s h
  refine aops_step1 rfl (st_call_r (r' := .one (.own 0)) 0 rfl (wire_extend_fn k a0 (((10 + (2 * a1.length)) : Nat) : Int) x3 hx3) rfl [] ai rfl rfl rfl (.inl rfl) rfl rfl) (s_mv ?_)
  refine s_ln ?_
  refine aops_step1 rfl (st_conv_int rfl rfl Try.underlying3 Try.underlying97 (Md.ofNat_u64 a1.length)) ?_
  obtain ⟨x4, hx4, h⟩ := Md.bind_s h
  refine aops_step1 rfl (st_call_o (r' := .one (.own 0)) 0 rfl (wire_putUint_fn k x3 (UInt64.ofNat a1.length) x4 hx4) rfl [] ai rfl rfl rfl (.inl rfl) rfl rfl) (s_sa ?_)
  refine aops_nil (aw_seq (aw_seq (aw_region (s_mv ?_))))
  refine s_ln ?_
  refine s_mv ?_
  refine aops_nil (aw_block ?_)
  obtain ⟨o5, ho5, h⟩ := Md.bind_s h
  refine aw_loop_x (ι := {p : Nat × Nat × (List UInt8) // wire_AppendInts_loop1 k a1 p.1 p.2.1 p.2.2 = some o5}) (fun p => (⟨29, [], [(5, .one (.own 0)), (18, .one (CV.ls c_Int a1)), (19, vI ((a1.length : Nat) : Int)), (20, vI ((p.1.2.1 : Nat) : Int))], [(0, some (.row 5 1 p.1.2.2.length (lsEl byC p.1.2.2)))]⟩ : ASt)) (fun p => p.1.1) ⟨(k, 0, x4), ho5⟩ wk 0 (ε := (List UInt8)) (fun x => (⟨29, [], [(5, .one (.own 0))], [(0, some (.row 5 1 x.length (lsEl byC x)))]⟩ : ASt)) (fun x => x = o5) (fun _ _ w h => aw_weak w h) ?_ ?_
  · intro x5_0 hI5
    subst hI5
    change AW _ _ (⟨29, [], [(5, .one (.own 0))], [(0, some (.row 5 1 x5_0.length (lsEl byC x5_0)))]⟩ : ASt) _
    refine aw_seq (aw_region (s_mv ?_))
    refine s_sa ?_
    refine aops_nil ?_
    cases Option.some.inj h
    refine aw_ret ⟨rfl, ret_r 0 r1 rfl rfl rfl ?_ ?_ ?_⟩
    · first | exact TLe.refl _ | (repeat' (first | exact .refl _ | exact .nil | refine .tup ?_ | refine .v ?_ | refine .cons ?_ ?_ | refine .agg ?_ | refine .one ?_ | exact .nil _ | exact .emp _ | refine .val ?_ | refine .slc ?_ ?_ | fail))
    · rfl
    · rfl
  intro p5
  obtain ⟨⟨n5, s5_0, s5_1⟩, l5⟩ := p5
  change AW _ _ (⟨29, [], [(5, .one (.own 0)), (18, .one (CV.ls c_Int a1)), (19, vI ((a1.length : Nat) : Int)), (20, vI ((s5_0 : Nat) : Int))], [(0, some (.row 5 1 s5_1.length (lsEl byC s5_1)))]⟩ : ASt) _
  replace l5 : wire_AppendInts_loop1 k a1 n5 s5_0 s5_1 = some o5 := l5
  rcases n5 with _ | n5
  · exact absurd (show none = some o5 from l5) nofun
  rw [wire_AppendInts_loop1] at l5
  refine aw_seq (aw_region (s_cm ?_))
  refine aops_nil (aw_seq ?_)
  refine aw_cond rfl (fun c6 => ?_) (fun c6 => ?_)
  · replace l5 := Md.cond_t l5 c6
    refine aw_skip (aw_seq (aw_block (aw_seq (aw_region ?_))))
    obtain ⟨g7, l5⟩ := Md.ifp_s l5
    refine aops_step1 rfl (ev_index_in rfl rfl rfl g7 rfl rfl) (aops_step1 rfl (ev_load_in rfl rfl rfl) (s_sa ?_))
    refine aops_nil (aw_region ?_)
    iterate 2 refine s_mv ?_
    obtain ⟨x8, hx8, l5⟩ := Md.bind_s l5
    refine aops_step1 rfl (st_call_o (r' := .one (.own 0)) 0 rfl (wire_putInt_fn k s5_1 (a1.getD s5_0 default) x8 hx8) rfl [] ai rfl rfl rfl (.inl rfl) rfl rfl) (s_sa ?_)
    refine aops_nil (aw_region ?_)
    obtain ⟨g9, l5⟩ := Md.ifp_s l5
    refine aops_step1 rfl (ev_add rfl rfl rfl (Md.nat_add g9)) (s_mv ?_)
    refine aops_nil ?_
    exact ⟨⟨(n5, (s5_0 + 1), x8), l5⟩, Nat.lt_succ_self _, wk⟩
  replace l5 := Md.cond_f l5 c6
  refine aw_exit ?_
  show ∃ _x : (List UInt8), _ = _ ∧ Weak _ _
  exact ⟨s5_1, Option.some.inj l5, wk⟩
set_option maxHeartbeats 2000000 in
theorem wire_AppendStrings_fn (k : Nat) (a0 : List UInt8) (a1 : List (List UInt8)) (r : (List UInt8)) (h : wire_AppendStrings k a0 a1 = some r) : FnC Try.prog 52 [.one (CV.ls byC a0), .one (CV.ls c_Str a1)] [] (Det (.one (.own 0)) [(0, some (.row 5 1 r.length (lsEl byC r)))]) := by
  unfold wire_AppendStrings at h
  refine fn_intro' 29 Try.func52 rfl rfl rfl (aw_seq (aw_region (s_sa ?_)))
  refine aops_nil (aw_seq (aw_region ?_))
  iterate 2 refine s_mv ?_
  refine s_ln ?_
  obtain ⟨g1, h⟩ := Md.ifp_s h
  refine aops_step1 rfl (ev_mul rfl rfl rfl (Md.nat_mul g1)) ?_
  obtain ⟨g2, h⟩ := Md.ifp_s h
  refine aops_step1 rfl (ev_add rfl rfl rfl (Md.nat_add g2)) ?_
  obtain ⟨x3, hx3, h⟩ := Md.bind_s h
  refine aops_step1 rfl (st_call_r (r' := .one (.own 0)) 0 rfl (wire_extend_fn k a0 (((10 + (10 * a1.length)) : Nat) : Int) x3 hx3) rfl [] ai rfl rfl rfl (.inl rfl) rfl rfl) (s_mv ?_)
  refine s_ln ?_
  refine aops_step1 rfl (st_conv_int rfl rfl Try.underlying3 Try.underlying97 (Md.ofNat_u64 a1.length)) ?_
  obtain ⟨x4, hx4, h⟩ := Md.bind_s h
  refine aops_step1 rfl (st_call_o (r' := .one (.own 0)) 0 rfl (wire_putUint_fn k x3 (UInt64.ofNat a1.length) x4 hx4) rfl [] ai rfl rfl rfl (.inl rfl) rfl rfl) (s_sa ?_)
  refine aops_nil (aw_seq (aw_seq (aw_region (s_mv ?_))))
  refine s_ln ?_
  refine s_mv ?_
  refine aops_nil (aw_block ?_)
  obtain ⟨o5, ho5, h⟩ := Md.bind_s h
  refine aw_loop_x (ι := {p : Nat × Nat × (List UInt8) // wire_AppendStrings_loop1 k a1 p.1 p.2.1 p.2.2 = some o5}) (fun p => (⟨29, [], [(5, .one (.own 0)), (18, .one (CV.ls c_Str a1)), (19, vI ((a1.length : Nat) : Int)), (20, vI ((p.1.2.1 : Nat) : Int))], [(0, some (.row 5 1 p.1.2.2.length (lsEl byC p.1.2.2)))]⟩ : ASt)) (fun p => p.1.1) ⟨(k, 0, x4), ho5⟩ wk 0 (ε := (List UInt8)) (fun x => (⟨29, [], [(5, .one (.own 0))], [(0, some (.row 5 1 x.length (lsEl byC x)))]⟩ : ASt)) (fun x => x = o5) (fun _ _ w h => aw_weak w h) ?_ ?_
  · intro x5_0 hI5
    subst hI5
    change AW _ _ (⟨29, [], [(5, .one (.own 0))], [(0, some (.row 5 1 x5_0.length (lsEl byC x5_0)))]⟩ : ASt) _
    refine aw_seq (aw_region (s_mv ?_))
    refine s_sa ?_
    refine aops_nil ?_
    cases Option.some.inj h
    refine aw_ret ⟨rfl, ret_r 0 r1 rfl rfl rfl ?_ ?_ ?_⟩
    · first | exact TLe.refl _ | (repeat' (first | exact .refl _ | exact .nil | refine .tup ?_ | refine .v ?_ | refine .cons ?_ ?_ | refine .agg ?_ | refine .one ?_ | exact .nil _ | exact .emp _ | refine .val ?_ | refine .slc ?_ ?_ | fail))
    · rfl
    · rfl
  intro p5
  obtain ⟨⟨n5, s5_0, s5_1⟩, l5⟩ := p5
  change AW _ _ (⟨29, [], [(5, .one (.own 0)), (18, .one (CV.ls c_Str a1)), (19, vI ((a1.length : Nat) : Int)), (20, vI ((s5_0 : Nat) : Int))], [(0, some (.row 5 1 s5_1.length (lsEl byC s5_1)))]⟩ : ASt) _
  replace l5 : wire_AppendStrings_loop1 k a1 n5 s5_0 s5_1 = some o5 := l5
  rcases n5 with _ | n5
  · exact absurd (show none = some o5 from l5) nofun
  rw [wire_AppendStrings_loop1] at l5
  refine aw_seq (aw_region (s_cm ?_))
  refine aops_nil (aw_seq ?_)
  refine aw_cond rfl (fun c6 => ?_) (fun c6 => ?_)
  · replace l5 := Md.cond_t l5 c6
    refine aw_skip (aw_seq (aw_block (aw_seq (aw_region ?_))))
    obtain ⟨g7, l5⟩ := Md.ifp_s l5
    refine aops_step1 rfl (ev_index_in rfl rfl rfl g7 rfl rfl) (aops_step1 rfl (ev_load_in rfl rfl rfl) (s_sa ?_))
    refine aops_nil (aw_region ?_)
    iterate 2 refine s_mv ?_
    obtain ⟨x8, hx8, l5⟩ := Md.bind_s l5
    refine aops_step1 rfl (st_call_o (r' := .one (.own 0)) 0 rfl (wire_putString_fn k s5_1 (a1.getD s5_0 default) x8 hx8) rfl [] ai rfl rfl rfl (.inl rfl) rfl rfl) (s_sa ?_)
    refine aops_nil (aw_region ?_)
    obtain ⟨g9, l5⟩ := Md.ifp_s l5
    refine aops_step1 rfl (ev_add rfl rfl rfl (Md.nat_add g9)) (s_mv ?_)
    refine aops_nil ?_
    exact ⟨⟨(n5, (s5_0 + 1), x8), l5⟩, Nat.lt_succ_self _, wk⟩
  replace l5 := Md.cond_f l5 c6
  refine aw_exit ?_
  show ∃ _x : (List UInt8), _ = _ ∧ Weak _ _
  exact ⟨s5_1, Option.some.inj l5, wk⟩
set_option maxHeartbeats 2000000 in
theorem wire_AppendValue_fn (k : Nat) (a0 : List UInt8) (a1 : Value) (r : (List UInt8)) (h : wire_AppendValue k a0 a1 = some r) : FnC Try.prog 20 [.one (CV.ls byC a0), .agg (c_Value a1)] [] (Det (.one (.own 0)) [(0, some (.row 5 1 r.length (lsEl byC r)))]) := by
  unfold wire_AppendValue at h
  refine fn_intro' 51 Try.func20 rfl rfl rfl (aw_seq (aw_region (aops_step1 rfl (st_box 0 rfl rfl rfl rfl) (s_sa ?_))))
  refine aops_nil (aw_seq (aw_seq (aw_region (s_ls [_, _, _, _, _] ?_))))
  obtain ⟨x1, hx1, h⟩ := Md.bind_s h
  refine aops_step1 rfl (ev_call_v (wire_ValidValue_fn k a1 x1 hx1) rfl [] ai rfl rfl rfl (.inl rfl) rfl) (s_nt ?_)
  refine aops_nil ?_
  refine aw_cond rfl (fun c2 => ?_) (fun c2 => ?_)
  · replace h := Md.cond_t h c2
    refine aw_seq (aw_region (s_sa ?_))
    refine aops_nil ?_
    cases Option.some.inj h
    refine aw_own_nil 4 1 5 1 (lsEl byC []) rfl rfl ?_
    refine aw_ret ⟨rfl, ret_r 1 r1 rfl rfl rfl ?_ ?_ ?_⟩
    · first | exact TLe.refl _ | (repeat' (first | exact .refl _ | exact .nil | refine .tup ?_ | refine .v ?_ | refine .cons ?_ ?_ | refine .agg ?_ | refine .one ?_ | exact .nil _ | exact .emp _ | refine .val ?_ | refine .slc ?_ ?_ | fail))
    · rfl
    · rfl
  replace h := Md.cond_f h c2
  refine aw_skip ?_
  obtain ⟨x3, hx3, h⟩ := Md.bind_s h
  obtain ⟨g4, h⟩ := Md.ifp_s h
  refine aw_seq ?_
  apply aw_draw 6 ((⟨[], .one (CV.ls byC a0)⟩ : Add) :: ⟨[(1, some (.row 5 1 x3.length (lsEl byC x3)))], .one (.own 1)⟩ :: ⟨[], .one (.ptr 0 _)⟩ :: ⟨[], vI a1.Kind⟩ :: ⟨[], .one (.val (.int .u8 (((UInt8.ofInt a1.Kind)).toNat : Int)))⟩ :: ⟨[], .one (CV.ls byC [(UInt8.ofInt a1.Kind)])⟩ :: []) (by decide) rfl ?hk1x ?hf1x ?ho1x ?hr1x
  case ho1x =>
   refine ob [] (fun S hle hfr => .inl ⟨w0, st_move (hle.e rfl) (hle.d rfl)⟩) ?_
   refine ob [0] (fun S hle hfr => .inl ⟨w0, st_call_r (r' := .one (.own 1)) 1 (hfr _ (List.mem_singleton.2 rfl)) (wire_extend_fn k a0 16 x3 hx3) (map_ev (.cons (hle.e rfl) (.cons (hle.e rfl) (.nil)))) [] (by repeat' (first | exact .nil | refine .cons ?_ ?_ | refine .one ?_ | refine .agg ?_ | exact .mk rfl | exact .lend (hle.heap _ _ rfl) (by simp) | exact .le (.nil _) rfl | exact .le (.emp _) rfl | exact .le (.any _) rfl | fail)) rfl rfl rfl (.inl rfl) (hle.d rfl) rfl⟩) ?_
   refine ob [] (fun S hle hfr => .inl ⟨w0, ev_field (hle.e rfl) rfl (hle.d rfl)⟩) ?_
   refine ob [2] (fun S hle hfr => .inl ⟨w0, ev_load (hle.e rfl) (hle.heap _ _ rfl) rfl (hle.d rfl)⟩) ?_
   refine ob [3, 2] (fun S hle hfr => .inl ⟨w0, st_conv_int (hle.e rfl) (hle.d rfl) Try.underlying3 Try.underlying5 (Md.ofInt_u8 a1.Kind)⟩) ?_
   refine ob [4, 3, 2] (fun S hle hfr => .inl ⟨w0, st_slice_lit_z (el := lsEl byC [(UInt8.ofInt a1.Kind)]) (map_ev2 (.cons (hle.e rfl) (.nil))) rfl rfl rfl rfl rfl rfl (lit_el byC 1 [(UInt8.ofInt a1.Kind)] (fun _ => rfl)) (hle.d rfl)⟩) ?_
   exact trivial
  case hk1x => rfl
  case hf1x => rfl
  refine aops_step1 rfl (st_app_ls (f := byC) x3 [(UInt8.ofInt a1.Kind)] (fun _ => rfl) rfl rfl (.inl rfl) (by omega) (by omega) rfl) (s_sa ?_)
  refine aops_nil (aw_seq (aw_seq (aw_region (s_fd ?_))))
  refine s_ld ?_
  refine aops_nil (aw_block (aw_seq (aw_region (s_cm ?_))))
  refine s_sa ?_
  refine aops_nil ?_
  refine aw_cond rfl (fun c5 => ?_) (fun c5 => ?_)
  · replace h := Md.cond_t h c5
    refine aw_seq (aw_region (s_mv ?_))
    refine s_fd ?_
    refine s_ld ?_
    obtain ⟨x6, hx6, h⟩ := Md.bind_s h
    refine aops_step1 rfl (st_call_o (r' := .one (.own 1)) 1 rfl (wire_putInt_fn k (x3 ++ [(UInt8.ofInt a1.Kind)]) a1.N x6 hx6) rfl [] ai rfl rfl rfl (.inl rfl) rfl rfl) (s_sa ?_)
    refine aops_nil ?_
    cases Option.some.inj h
    refine aw_ret ⟨rfl, ret_r 1 r1 rfl rfl rfl ?_ ?_ ?_⟩
    · first | exact TLe.refl _ | (repeat' (first | exact .refl _ | exact .nil | refine .tup ?_ | refine .v ?_ | refine .cons ?_ ?_ | refine .agg ?_ | refine .one ?_ | exact .nil _ | exact .emp _ | refine .val ?_ | refine .slc ?_ ?_ | fail))
    · rfl
    · rfl
  replace h := Md.cond_f h c5
  refine aw_seq (aw_region (s_cm ?_))
  refine s_sa ?_
  refine aops_nil ?_
  refine aw_cond rfl (fun c7 => ?_) (fun c7 => ?_)
  · replace h := Md.cond_t h c7
    refine aw_seq (aw_region (s_mv ?_))
    refine s_fd ?_
    refine s_ld ?_
    refine aops_step1 rfl (st_conv_int rfl rfl Try.underlying3 Try.underlying5 (Md.ofInt_u8 a1.N)) ?_
    refine aops_step1 rfl (st_slice_lit (el := lsEl byC [(UInt8.ofInt a1.N)]) 2 rfl rfl rfl rfl rfl rfl rfl rfl (lit_el byC 1 [(UInt8.ofInt a1.N)] (fun _ => rfl)) rfl) ?_
    obtain ⟨g8, h⟩ := Md.ifp_s h
    refine aops_step1 rfl (st_app_ls (f := byC) (x3 ++ [(UInt8.ofInt a1.Kind)]) [(UInt8.ofInt a1.N)] (fun _ => rfl) rfl rfl (.inr ⟨_, _, rfl, rfl⟩) (by omega) (by omega) rfl) (s_sa ?_)
    refine aops_nil ?_
    cases Option.some.inj h
    refine aw_ret ⟨rfl, ret_r 1 r1 rfl rfl rfl ?_ ?_ ?_⟩
    · first | exact TLe.refl _ | (repeat' (first | exact .refl _ | exact .nil | refine .tup ?_ | refine .v ?_ | refine .cons ?_ ?_ | refine .agg ?_ | refine .one ?_ | exact .nil _ | exact .emp _ | refine .val ?_ | refine .slc ?_ ?_ | fail))
    · rfl
    · rfl
  replace h := Md.cond_f h c7
  refine aw_seq (aw_region (s_cm ?_))
  refine s_sa ?_
  refine aops_nil ?_
  refine aw_cond rfl (fun c9 => ?_) (fun c9 => ?_)
  · replace h := Md.cond_t h c9
    refine aw_seq (aw_region (s_mv ?_))
    refine s_fd ?_
    refine s_ld ?_
    obtain ⟨x10, hx10, h⟩ := Md.bind_s h
    refine aops_step1 rfl (st_call_o (r' := .one (.own 1)) 1 rfl (wire_putString_fn k (x3 ++ [(UInt8.ofInt a1.Kind)]) a1.S x10 hx10) rfl [] ai rfl rfl rfl (.inl rfl) rfl rfl) (s_sa ?_)
    refine aops_nil ?_
    cases Option.some.inj h
    refine aw_ret ⟨rfl, ret_r 1 r1 rfl rfl rfl ?_ ?_ ?_⟩
    · first | exact TLe.refl _ | (repeat' (first | exact .refl _ | exact .nil | refine .tup ?_ | refine .v ?_ | refine .cons ?_ ?_ | refine .agg ?_ | refine .one ?_ | exact .nil _ | exact .emp _ | refine .val ?_ | refine .slc ?_ ?_ | fail))
    · rfl
    · rfl
  replace h := Md.cond_f h c9
  refine aw_seq (aw_region (s_cm ?_))
  refine s_sa ?_
  refine aops_nil ?_
  refine aw_cond rfl (fun c11 => ?_) (fun c11 => ?_)
  · replace h := Md.cond_t h c11
    refine aw_seq (aw_region (s_mv ?_))
    refine s_fd ?_
    refine s_ld ?_
    obtain ⟨x12, hx12, h⟩ := Md.bind_s h
    refine aops_step1 rfl (st_call_r (r' := .one (.own 2)) 2 rfl (wire_AppendInts_fn k (x3 ++ [(UInt8.ofInt a1.Kind)]) a1.I x12 hx12) rfl [1] ai rfl rfl rfl (.inr ⟨rfl, fun _ _ => rfl⟩) rfl rfl) (s_sa ?_)
    refine aops_nil ?_
    cases Option.some.inj h
    refine aw_ret ⟨rfl, ret_r 2 r1 rfl rfl rfl ?_ ?_ ?_⟩
    · first | exact TLe.refl _ | (repeat' (first | exact .refl _ | exact .nil | refine .tup ?_ | refine .v ?_ | refine .cons ?_ ?_ | refine .agg ?_ | refine .one ?_ | exact .nil _ | exact .emp _ | refine .val ?_ | refine .slc ?_ ?_ | fail))
    · rfl
    · rfl
  replace h := Md.cond_f h c11
  refine aw_seq (aw_region (s_cm ?_))
  refine s_sa ?_
  refine aops_nil ?_
  refine aw_cond rfl (fun c13 => ?_) (fun c13 => ?_)
  · replace h := Md.cond_t h c13
    refine aw_seq (aw_region (s_mv ?_))
    refine s_fd ?_
    refine s_ld ?_
    obtain ⟨x14, hx14, h⟩ := Md.bind_s h
    refine aops_step1 rfl (st_call_r (r' := .one (.own 2)) 2 rfl (wire_AppendStrings_fn k (x3 ++ [(UInt8.ofInt a1.Kind)]) a1.L x14 hx14) rfl [1] ai rfl rfl rfl (.inr ⟨rfl, fun _ _ => rfl⟩) rfl rfl) (s_sa ?_)
    refine aops_nil ?_
    cases Option.some.inj h
    refine aw_ret ⟨rfl, ret_r 2 r1 rfl rfl rfl ?_ ?_ ?_⟩
    · first | exact TLe.refl _ | (repeat' (first | exact .refl _ | exact .nil | refine .tup ?_ | refine .v ?_ | refine .cons ?_ ?_ | refine .agg ?_ | refine .one ?_ | exact .nil _ | exact .emp _ | refine .val ?_ | refine .slc ?_ ?_ | fail))
    · rfl
    · rfl
  replace h := Md.cond_f h c13
  refine aw_skip (aw_seq (aw_region (s_mv ?_)))
  refine s_sa ?_
  refine aops_nil ?_
  cases Option.some.inj h
  refine aw_ret ⟨rfl, ret_r 1 r1 rfl rfl rfl ?_ ?_ ?_⟩
  · first | exact TLe.refl _ | (repeat' (first | exact .refl _ | exact .nil | refine .tup ?_ | refine .v ?_ | refine .cons ?_ ?_ | refine .agg ?_ | refine .one ?_ | exact .nil _ | exact .emp _ | refine .val ?_ | refine .slc ?_ ?_ | fail))
  · rfl
  · rfl
set_option maxHeartbeats 2000000 in
theorem bytecode_writer_method_fn (k : Nat) (a0 : Bytecodewriter) (a1 : CodeMethod) (r : Bytecodewriter) (h : bytecode_writer_method k a0 a1 = some r) : FnC Try.prog 21 [.one (.ptr 0 0), .agg (c_CodeMethod a1)] (boxRow 5 1 a0.b.length (lsEl byC a0.b)) (Det (.tup []) (boxRow 5 1 r.b.length (lsEl byC r.b))) := by
  unfold bytecode_writer_method at h
  refine fn_intro' 65 Try.func21 rfl rfl rfl (aw_seq (aw_region (aops_step1 rfl (st_box 2 rfl rfl rfl rfl) (aops_nil (aw_seq (aw_region (s_mv ?_)))))))
  refine s_fd ?_
  refine s_ld ?_
  obtain ⟨x1, hx1, h⟩ := Md.bind_s h
  refine aops_step1 rfl (ev_call_w 0 1 (bytecode_writer_text_fn k a0 a1.Name x1 hx1) rfl [] ai rfl rfl rfl rfl rfl rfl (.inl rfl) rfl) (aops_nil ?_)
  obtain ⟨x2, hx2, h⟩ := Md.bind_s h
  obtain ⟨x3, hx3, h⟩ := Md.bind_s h
  refine aw_seq ?_
  apply aw_draw 11 ((⟨[], .one (.ptr 0 _)⟩ : Add) :: ⟨[], .one (.ptr 0 _)⟩ :: ⟨[], .one (.ptr 0 _)⟩ :: ⟨[], .one (.ptr 0 _)⟩ :: ⟨[], .one (.own 1)⟩ :: ⟨[], .one (.ptr 2 _)⟩ :: ⟨[], .one (CV.ls c_Int a1.Params)⟩ :: ⟨[(3, some (.row 5 1 x2.length (lsEl byC x2)))], .one (.own 3)⟩ :: ⟨[], .one (.ptr 2 _)⟩ :: ⟨[], .one (CV.ls c_Int a1.Locals)⟩ :: ⟨[(4, some (.row 5 1 x3.length (lsEl byC x3)))], .one (.own 4)⟩ :: []) (by decide) rfl ?hk1x ?hf1x ?ho1x ?hr1x
  case ho1x =>
   refine ob [] (fun S hle hfr => .inl ⟨w0, st_move (hle.e rfl) (hle.d rfl)⟩) (ob [] (fun S hle hfr => .inl ⟨w0, st_move (hle.e rfl) (hle.d rfl)⟩) ?_)
   refine ob [1] (fun S hle hfr => .inl ⟨w0, ev_nilc (hle.e rfl) (hle.d rfl)⟩) (ob [2, 1] (fun S hle hfr => .inl ⟨w0, ev_field (hle.e rfl) rfl (hle.d rfl)⟩) ?_)
   refine ob [3, 2, 1] (fun S hle hfr => .inl ⟨w0, ev_load (hle.e rfl) (hle.heap _ _ rfl) rfl (hle.d rfl)⟩) ?_
   refine ob [] (fun S hle hfr => .inl ⟨w0, ev_field (hle.e rfl) rfl (hle.d rfl)⟩) ?_
   refine ob [5] (fun S hle hfr => .inl ⟨w0, ev_load (hle.e rfl) (hle.heap _ _ rfl) rfl (hle.d rfl)⟩) ?_
   refine ob [4, 6, 3, 5, 2, 1] (fun S hle hfr => .inl ⟨w0, st_call_r (r' := .one (.own 3)) 3 (hfr _ (List.mem_singleton.2 rfl)) (wire_AppendInts_fn k x1.b a1.Params x2 hx2) (map_ev (.cons (hle.e rfl) (.cons (hle.e rfl) (.nil)))) [1] (by repeat' (first | exact .nil | refine .cons ?_ ?_ | refine .one ?_ | refine .agg ?_ | exact .mk rfl | exact .lend (hle.heap _ _ rfl) (by simp) | exact .le (.nil _) rfl | exact .le (.emp _) rfl | exact .le (.any _) rfl | fail)) rfl rfl rfl (.inr ⟨rfl, fun _ _ => rfl⟩) (hle.d rfl) rfl⟩) ?_
   refine ob [] (fun S hle hfr => .inl ⟨w0, ev_field (hle.e rfl) rfl (hle.d rfl)⟩) ?_
   refine ob [8] (fun S hle hfr => .inl ⟨w0, ev_load (hle.e rfl) (hle.heap _ _ rfl) rfl (hle.d rfl)⟩) ?_
   refine ob [7, 9, 4, 6, 8, 3, 5, 2, 1] (fun S hle hfr => .inl ⟨w0, st_call_r (r' := .one (.own 4)) 4 (hfr _ (List.mem_singleton.2 rfl)) (wire_AppendInts_fn k x2 a1.Locals x3 hx3) (map_ev (.cons (hle.e rfl) (.cons (hle.e rfl) (.nil)))) [3] (by repeat' (first | exact .nil | refine .cons ?_ ?_ | refine .one ?_ | refine .agg ?_ | exact .mk rfl | exact .lend (hle.heap _ _ rfl) (by simp) | exact .le (.nil _) rfl | exact .le (.emp _) rfl | exact .le (.any _) rfl | fail)) rfl rfl rfl (.inr ⟨rfl, fun _ _ => rfl⟩) (hle.d rfl) rfl⟩) ?_
   exact trivial
  case hk1x => rfl
  case hf1x => rfl
  refine aops_step1 rfl (ev_nilc rfl rfl) (s_fd ?_)
  refine s_st [_] ?_
  refine aops_swap 1 4 (aops_nil (aw_seq (aw_region (s_mv ?_))))
  refine s_fd ?_
  refine s_ld ?_
  obtain ⟨x4, hx4, h⟩ := Md.bind_s h
  refine aops_step1 rfl (ev_call_w 0 1 (bytecode_writer_number_fn k (⟨x3⟩ : Bytecodewriter) a1.Result x4 hx4) rfl [] ai rfl rfl rfl rfl rfl rfl (.inl rfl) rfl) ?_
  refine aops_nil (aw_seq (aw_region (s_mv ?_)))
  refine s_fd ?_
  refine s_ld ?_
  refine s_ln ?_
  obtain ⟨x5, hx5, h⟩ := Md.bind_s h
  refine aops_step1 rfl (ev_call_w 0 1 (bytecode_writer_number_fn k x4 ((a1.Code.length : Nat) : Int) x5 hx5) rfl [] ai rfl rfl rfl rfl rfl rfl (.inl rfl) rfl) ?_
  refine aops_nil (aw_seq (aw_region (s_fd ?_)))
  refine s_ld ?_
  refine s_ln ?_
  refine s_mv ?_
  refine aops_nil (aw_block ?_)
  obtain ⟨o6, ho6, h⟩ := Md.bind_s h
  refine aw_loop (ι := {p : Nat × Nat × (List UInt8) // zqam k a1 p.1 p.2.1 p.2.2 = some o6}) (fun p => (⟨65, [0], [(0, .one (.ptr 0 0)), (33, .one (CV.ls c_Instr a1.Code)), (34, vI ((a1.Code.length : Nat) : Int)), (35, vI ((p.1.2.1 : Nat) : Int))], [(0, some (.box [.own 1])), (1, some (.row 5 1 p.1.2.2.length (lsEl byC p.1.2.2)))]⟩ : ASt)) (fun p => p.1.1) ⟨(k, 0, x5.b), ho6⟩ wk ?_
  intro p6
  obtain ⟨⟨n6, s6_0, s6_1⟩, l6⟩ := p6
  change AW _ _ (⟨65, [0], [(0, .one (.ptr 0 0)), (33, .one (CV.ls c_Instr a1.Code)), (34, vI ((a1.Code.length : Nat) : Int)), (35, vI ((s6_0 : Nat) : Int))], [(0, some (.box [.own 1])), (1, some (.row 5 1 s6_1.length (lsEl byC s6_1)))]⟩ : ASt) _
  replace l6 : zqam k a1 n6 s6_0 s6_1 = some o6 := l6
  rcases n6 with _ | n6
  · exact absurd (show none = some o6 from l6) nofun
  rw [zqam] at l6
  refine aw_seq (aw_region (s_cm ?_))
  refine aops_nil (aw_seq ?_)
  refine aw_cond rfl (fun c7 => ?_) (fun c7 => ?_)
  · replace l6 := Md.cond_t l6 c7
    refine aw_skip ?_
    obtain ⟨o8, j8, l6⟩ := Md.bind_s l6
    refine aw_cut (ε := (List UInt8)) (fun x => (⟨65, [0], [(0, .one (.ptr 0 0)), (33, .one (CV.ls c_Instr a1.Code)), (34, vI ((a1.Code.length : Nat) : Int)), (35, vI ((s6_0 : Nat) : Int))], [(0, some (.box [.own 1])), (1, some (.row 5 1 x.length (lsEl byC x)))]⟩ : ASt)) (fun x => x = o8) ?_ ?_
    · intro x8_0 hI8
      subst hI8
      change AW _ _ (⟨65, [0], [(0, .one (.ptr 0 0)), (33, .one (CV.ls c_Instr a1.Code)), (34, vI ((a1.Code.length : Nat) : Int)), (35, vI ((s6_0 : Nat) : Int))], [(0, some (.box [.own 1])), (1, some (.row 5 1 x8_0.length (lsEl byC x8_0)))]⟩ : ASt) _
      refine aw_region ?_
      obtain ⟨g9, l6⟩ := Md.ifp_s l6
      refine aops_step1 rfl (ev_add rfl rfl rfl (Md.nat_add g9)) (s_mv ?_)
      refine aops_nil ?_
      exact ⟨⟨(n6, (s6_0 + 1), x8_0), l6⟩, Nat.lt_succ_self _, wk⟩
    refine aw_block (aw_seq (aw_region ?_))
    obtain ⟨g10, j8⟩ := Md.ifp_s j8
    refine aops_step1 rfl (ev_index_in rfl rfl rfl g10 rfl rfl) (aops_step1 rfl (ev_loads_in (ds := [_, _, _, _, _, _, _, _]) rfl rfl rfl rfl) ?_)
    refine aops_step1 rfl (st_alloc (cs := [cI 0, cI 0, cI 0, cI 0, cI 0, .val (Sv []), .val (.slice none 0 0), .val (.slice none 0 0)]) 5 rfl rfl rfl rfl rfl) (s_st [_, _, _, _, _, _, _, _] ?_)
    refine aops_nil (aw_seq (aw_region (s_mv ?_)))
    refine s_fd ?_
    refine s_ld ?_
    obtain ⟨x11, hx11, j8⟩ := Md.bind_s j8
    refine aops_step1 rfl (ev_call_w 0 1 (bytecode_writer_number_fn k (⟨s6_1⟩ : Bytecodewriter) ((a1.Code.getD s6_0 default).Op) x11 hx11) rfl [] ai rfl rfl rfl rfl rfl rfl (.inl rfl) rfl) ?_
    refine aops_nil (aw_seq (aw_region (s_mv ?_)))
    refine s_fd ?_
    refine s_ld ?_
    obtain ⟨x12, hx12, j8⟩ := Md.bind_s j8
    refine aops_step1 rfl (ev_call_w 0 1 (bytecode_writer_number_fn k x11 ((a1.Code.getD s6_0 default).A) x12 hx12) rfl [] ai rfl rfl rfl rfl rfl rfl (.inl rfl) rfl) ?_
    refine aops_nil (aw_seq (aw_region (s_mv ?_)))
    refine s_fd ?_
    refine s_ld ?_
    obtain ⟨x13, hx13, j8⟩ := Md.bind_s j8
    refine aops_step1 rfl (ev_call_w 0 1 (bytecode_writer_number_fn k x12 ((a1.Code.getD s6_0 default).B) x13 hx13) rfl [] ai rfl rfl rfl rfl rfl rfl (.inl rfl) rfl) ?_
    refine aops_nil (aw_seq (aw_region (s_fd ?_)))
    refine s_ld ?_
    refine s_cm ?_
    refine aops_nil ?_
    refine aw_cond rfl (fun c14 => ?_) (fun c14 => ?_)
    · replace j8 := Md.cond_t j8 c14
      obtain ⟨x15, hx15, j8⟩ := Md.bind_s j8
      apply aw_draw 8 ((⟨[], .one (.ptr 0 _)⟩ : Add) :: ⟨[], .one (.ptr 0 _)⟩ :: ⟨[], .one (.ptr 0 _)⟩ :: ⟨[], .one (.ptr 0 _)⟩ :: ⟨[], .one (.own 1)⟩ :: ⟨[], .one (.ptr 5 _)⟩ :: ⟨[], .agg (c_Value ((a1.Code.getD s6_0 default).Value))⟩ :: ⟨[(6, some (.row 5 1 x15.length (lsEl byC x15)))], .one (.own 6)⟩ :: []) (by decide) rfl ?hk7x ?hf7x ?ho7x ?hr7x
      case ho7x =>
       refine ob [] (fun S hle hfr => .inl ⟨w0, st_move (hle.e rfl) (hle.d rfl)⟩) (ob [] (fun S hle hfr => .inl ⟨w0, st_move (hle.e rfl) (hle.d rfl)⟩) ?_)
       refine ob [1] (fun S hle hfr => .inl ⟨w0, ev_nilc (hle.e rfl) (hle.d rfl)⟩) (ob [2, 1] (fun S hle hfr => .inl ⟨w0, ev_field (hle.e rfl) rfl (hle.d rfl)⟩) ?_)
       refine ob [3, 2, 1] (fun S hle hfr => .inl ⟨w0, ev_load (hle.e rfl) (hle.heap _ _ rfl) rfl (hle.d rfl)⟩) ?_
       refine ob [] (fun S hle hfr => .inl ⟨w0, ev_field (hle.e rfl) rfl (hle.d rfl)⟩) ?_
       refine ob [5] (fun S hle hfr => .inl ⟨w0, ev_loads (ds := [_, _, _, _, _]) (hle.e rfl) (hle.heap _ _ rfl) rfl rfl (hle.d rfl)⟩) ?_
       refine ob [4, 6, 3, 5, 2, 1] (fun S hle hfr => .inl ⟨w0, st_call_r (r' := .one (.own 6)) 6 (hfr _ (List.mem_singleton.2 rfl)) (wire_AppendValue_fn k x13.b ((a1.Code.getD s6_0 default).Value) x15 hx15) (map_ev (.cons (hle.e rfl) (.cons (hle.e rfl) (.nil)))) [1] (by repeat' (first | exact .nil | refine .cons ?_ ?_ | refine .one ?_ | refine .agg ?_ | exact .mk rfl | exact .lend (hle.heap _ _ rfl) (by simp) | exact .le (.nil _) rfl | exact .le (.emp _) rfl | exact .le (.any _) rfl | fail)) rfl rfl rfl (.inr ⟨rfl, fun _ _ => rfl⟩) (hle.d rfl) rfl⟩) ?_
       exact trivial
      case hk7x => rfl
      case hf7x => rfl
      refine aops_step1 rfl (ev_nilc rfl rfl) (s_fd ?_)
      refine s_st [_] ?_
      refine aops_swap 1 6 (aops_nil ?_)
      show ∃ _x : (List UInt8), _ = _ ∧ Weak _ _
      exact ⟨x15, Option.some.inj j8, wk⟩
    replace j8 := Md.cond_f j8 c14
    refine aw_skip ?_
    show ∃ _x : (List UInt8), _ = _ ∧ Weak _ _
    exact ⟨x13.b, Option.some.inj j8, wk⟩
  replace l6 := Md.cond_f l6 c7
  refine aw_exit ?_
  have e6 := Option.some.inj l6
  subst e6
  cases Option.some.inj h
  refine ⟨rfl, ret_w 1 (rn (.nil)) rfl rfl (fun _ => rfl) rfl rfl rfl rfl ?_⟩
  (repeat' (first | exact .refl _ | exact .nil | refine .tup ?_ | refine .v ?_ | refine .cons ?_ ?_ | refine .agg ?_ | refine .one ?_ | exact .nil _ | exact .emp _ | refine .val ?_ | refine .slc ?_ ?_ | fail))
end Md
end Go.Proofs.Ytclffekkjfhpdaa
