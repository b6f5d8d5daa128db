/-
  WireA: where a function's model gives a value, the function returns what reads as it (printed by wip/tools/auto.py). Condition of each: the model gives a value.
-/
import Derived.Test.YtbnjdkpangmneaaWireAM
import Derived.Test.YtbnjdkpangmneaaTy
import Derived.Test.YtbnjdkpangmneaaAbsZ
namespace Go.Proofs.Ytbnjdkpangmneaa
open Go.ChangeShapes Go.WideShapes Go.RowKit
open Abs
set_option linter.unusedVariables false
set_option linter.unusedSimpArgs false
set_option maxRecDepth 10000
namespace Md
def c_Int (x : Int) : List CV := [.val (.int .i64 x)]
def c_Str (x : List UInt8) : List CV := [.val (Sv x)]
set_option maxHeartbeats 2000000 in
theorem wire_extend_fn (k : Nat) (a0 : List UInt8) (a1 : Int) (r : (List UInt8)) (h : wire_extend k a0 a1 = some r) : FnC Try.prog 58 [.one (CV.ls byC a0), .one (.val (.int .i64 a1))] [] (Det (.one (.own 0)) [(0, some (.row 5 1 r.length (lsEl byC r)))]) := by
  unfold wire_extend at h
  refine fn_intro' 17 Try.func58 rfl rfl rfl ?_
  refine aw_seq ?_
  refine aw_region ?_
  refine aops_step1 rfl (st_assign rfl rfl) ?_
  refine aops_nil ?_
  refine aw_seq ?_
  refine aw_region ?_
  refine aops_step1 rfl (st_move rfl rfl) ?_
  refine aops_step1 rfl (ev_len_slc rfl rfl) ?_
  refine aops_step1 rfl (st_move rfl rfl) ?_
  refine aops_step1 rfl (ev_len_slc rfl rfl) ?_
  refine aops_step1 rfl (st_move rfl rfl) ?_
  refine aops_step1 rfl (ev_add rfl rfl rfl (Md.wrap_W _)) ?_
  obtain ⟨g1, h⟩ := Md.ifp_s h
  obtain ⟨g2, h⟩ := Md.ifp_s h
  obtain ⟨g3, h⟩ := Md.ifp_s h
  refine aops_step1 rfl (st_make (f := byC) 0 a0.length (((Md.W (((a0.length : Nat) : Int) + a1))).toNat) (0 : UInt8) rfl rfl (Md.ev_nn rfl g1) g3 g2 rfl rfl rfl (fun _ => rfl) (by decide) rfl) ?_
  refine aops_step1 rfl (st_assign rfl rfl) ?_
  refine aops_nil ?_
  refine aw_seq ?_
  refine aw_region ?_
  refine aops_step1 rfl (st_move rfl rfl) ?_
  refine aops_step1 rfl (st_move rfl rfl) ?_
  refine aops_step1 rfl (st_copy (f := byC) (List.replicate a0.length (0 : UInt8)) a0 (fun _ => rfl) rfl rfl (.inl rfl) rfl) ?_
  refine aops_nil ?_
  refine aw_seq ?_
  refine aw_region ?_
  refine aops_step1 rfl (st_move rfl rfl) ?_
  refine aops_step1 rfl (st_assign rfl rfl) ?_
  refine aops_nil ?_
  cases Option.some.inj h
  refine aw_ret ⟨rfl, ret_r 0 (.inl ⟨_, rfl, rfl, fun _ e => nomatch e⟩) rfl rfl rfl ?_ ?_ ?_⟩
  · first | exact TLe.refl _ | (repeat' (first | exact TLe.refl _ | exact VLe.refl _ | exact CLe.refl _ | exact All2.nil | refine TLe.tup ?_ | refine TLe.v ?_ | refine All2.cons ?_ ?_ | refine VLe.agg ?_ | refine VLe.one ?_ | exact CLe.nil _ | exact CLe.emp _ | refine CLe.val ?_ | refine CLe.slc ?_ ?_))
  · rfl
  · rfl
set_option maxHeartbeats 2000000 in
theorem wire_putUint_fn (k : Nat) (a0 : List UInt8) (a1 : UInt64) (r : (List UInt8)) (h : wire_putUint k a0 a1 = some r) : FnC Try.prog 59 [.one (.own 0), .one (.val (.int .u64 (a1.toNat : Int)))] [(0, some (.row 5 1 a0.length (lsEl byC a0)))] (Det (.one (.own 0)) [(0, some (.row 5 1 r.length (lsEl byC r)))]) := by
  unfold wire_putUint at h
  refine fn_intro' 20 Try.func59 rfl rfl rfl ?_
  refine aw_seq ?_
  refine aw_region ?_
  refine aops_step1 rfl (st_assign rfl rfl) ?_
  refine aops_nil ?_
  refine aw_seq ?_
  refine aw_block ?_
  obtain ⟨o1, ho1, h⟩ := Md.bind_s h
  refine aw_loop_x (ι := {p : Nat × UInt64 × (List UInt8) // wire_putUint_loop1 k p.1 p.2.1 p.2.2 = some o1}) (fun p => (⟨20, [], [(0, .one (.own 0)), (1, .one (.val (.int .u64 (p.1.2.1.toNat : Int))))], [(0, some (.row 5 1 p.1.2.2.length (lsEl byC p.1.2.2)))]⟩ : ASt)) (fun p => p.1.1) ⟨(k, a1, a0), ho1⟩ (by (refine weak_mk rfl rfl ?_ ?_ rfl <;> repeat' (first | exact trivial | refine ⟨?_, ?_⟩ | exact VLe.refl _ | exact BLe.refl _ | refine VLe.one (CLe.val ?_) | exact VLe.one (CLe.nil _) | exact VLe.one (CLe.emp _)))) 0 (ε := (UInt64 × (List UInt8))) (fun x => (⟨20, [], [(0, .one (.own 0)), (1, .one (.val (.int .u64 (x.1.toNat : Int))))], [(0, some (.row 5 1 x.2.length (lsEl byC x.2)))]⟩ : ASt)) (fun x => x = o1) (fun _ _ w h => aw_weak w h) ?_ ?_
  · intro x1_0 hI1
    subst hI1
    change AW _ _ (⟨20, [], [(0, .one (.own 0)), (1, .one (.val (.int .u64 (x1_0.1.toNat : Int))))], [(0, some (.row 5 1 x1_0.2.length (lsEl byC x1_0.2)))]⟩ : ASt) _
    refine aw_seq ?_
    refine aw_region ?_
    refine aops_step1 rfl (st_move rfl rfl) ?_
    refine aops_step1 rfl (st_move rfl rfl) ?_
    refine aops_step1 rfl (st_conv_int rfl rfl Try.underlying61 Try.underlying5 (Md.conv_u64_u8 x1_0.1)) ?_
    refine aops_step1 rfl (st_slice_lit (el := lsEl byC [(x1_0.1.toUInt8)]) 1 rfl rfl rfl rfl rfl rfl rfl rfl (lit_el byC 1 [(x1_0.1.toUInt8)] (fun _ => rfl)) rfl) ?_
    obtain ⟨g2, h⟩ := Md.ifp_s h
    refine aops_step1 rfl (st_app_ls (f := byC) x1_0.2 [(x1_0.1.toUInt8)] (fun _ => rfl) rfl rfl (.inr ⟨_, _, rfl, rfl⟩) (by omega) (by omega) rfl) ?_
    refine aops_step1 rfl (st_assign rfl rfl) ?_
    refine aops_nil ?_
    cases Option.some.inj h
    refine aw_ret ⟨rfl, ret_r 0 (.inl ⟨_, rfl, rfl, fun _ e => nomatch e⟩) rfl rfl rfl ?_ ?_ ?_⟩
    · first | exact TLe.refl _ | (repeat' (first | exact TLe.refl _ | exact VLe.refl _ | exact CLe.refl _ | exact All2.nil | refine TLe.tup ?_ | refine TLe.v ?_ | refine All2.cons ?_ ?_ | refine VLe.agg ?_ | refine VLe.one ?_ | exact CLe.nil _ | exact CLe.emp _ | refine CLe.val ?_ | refine CLe.slc ?_ ?_))
    · rfl
    · rfl
  intro p1
  obtain ⟨⟨n1, s1_0, s1_1⟩, l1⟩ := p1
  change AW _ _ (⟨20, [], [(0, .one (.own 0)), (1, .one (.val (.int .u64 (s1_0.toNat : Int))))], [(0, some (.row 5 1 s1_1.length (lsEl byC s1_1)))]⟩ : ASt) _
  replace l1 : wire_putUint_loop1 k n1 s1_0 s1_1 = some o1 := l1
  rcases n1 with _ | n1
  · exact absurd (show none = some o1 from l1) nofun
  rw [wire_putUint_loop1] at l1
  refine aw_seq ?_
  refine aw_seq ?_
  refine aw_region ?_
  refine aops_step1 rfl (st_move rfl rfl) ?_
  refine aops_step1 rfl (ev_cmp rfl rfl rfl rfl) ?_
  refine aops_nil ?_
  refine aw_cond rfl (fun c3 => ?_) (fun c3 => ?_)
  · replace l1 := Md.cond_t l1 c3
    refine aw_skip ?_
    refine aw_block ?_
    refine aw_seq ?_
    refine aw_region ?_
    refine aops_step1 rfl (st_move rfl rfl) ?_
    refine aops_step1 rfl (st_move rfl rfl) ?_
    refine aops_step1 rfl (st_conv_int rfl rfl Try.underlying61 Try.underlying5 (Md.conv_u64_u8 s1_0)) ?_
    refine aops_step1 rfl (ev_bits rfl rfl rfl rfl (Md.or_u8 (s1_0.toUInt8) (128 : UInt8))) ?_
    refine aops_step1 rfl (st_slice_lit (el := lsEl byC [((s1_0.toUInt8) ||| (128 : UInt8))]) 1 rfl rfl rfl rfl rfl rfl rfl rfl (lit_el byC 1 [((s1_0.toUInt8) ||| (128 : UInt8))] (fun _ => rfl)) rfl) ?_
    obtain ⟨g4, l1⟩ := Md.ifp_s l1
    refine aops_step1 rfl (st_app_ls (f := byC) s1_1 [((s1_0.toUInt8) ||| (128 : UInt8))] (fun _ => rfl) rfl rfl (.inr ⟨_, _, rfl, rfl⟩) (by omega) (by omega) rfl) ?_
    refine aops_step1 rfl (st_assign rfl rfl) ?_
    refine aops_nil ?_
    refine aw_region ?_
    refine aops_step1 rfl (st_move rfl rfl) ?_
    refine aops_step1 rfl (ev_shr rfl rfl rfl (by decide) (Md.shr_u64 s1_0 (Md.nat_toNat 7))) ?_
    refine aops_step1 rfl (st_assign rfl rfl) ?_
    refine aops_nil ?_
    exact ⟨⟨(n1, (Md.shr64 s1_0 7), (s1_1 ++ [((s1_0.toUInt8) ||| (128 : UInt8))])), l1⟩, Nat.lt_succ_self _, (by (refine weak_mk rfl rfl ?_ ?_ rfl <;> repeat' (first | exact trivial | refine ⟨?_, ?_⟩ | exact VLe.refl _ | exact BLe.refl _ | refine VLe.one (CLe.val ?_) | exact VLe.one (CLe.nil _) | exact VLe.one (CLe.emp _))))⟩
  replace l1 := Md.cond_f l1 c3
  refine aw_exit ?_
  show ∃ _x : UInt64 × (List UInt8), _ = _ ∧ Weak _ _
  exact ⟨(s1_0, s1_1), Option.some.inj l1, (by (refine weak_mk rfl rfl ?_ ?_ rfl <;> repeat' (first | exact trivial | refine ⟨?_, ?_⟩ | exact VLe.refl _ | exact BLe.refl _ | refine VLe.one (CLe.val ?_) | exact VLe.one (CLe.nil _) | exact VLe.one (CLe.emp _))))⟩
set_option maxHeartbeats 2000000 in
theorem wire_putInt_fn (k : Nat) (a0 : List UInt8) (a1 : Int) (r : (List UInt8)) (h : wire_putInt k a0 a1 = some r) : FnC Try.prog 60 [.one (.own 0), .one (.val (.int .i64 a1))] [(0, some (.row 5 1 a0.length (lsEl byC a0)))] (Det (.one (.own 0)) [(0, some (.row 5 1 r.length (lsEl byC r)))]) := by
  unfold wire_putInt at h
  refine fn_intro' 14 Try.func60 rfl rfl rfl ?_
  refine aw_seq ?_
  refine aw_region ?_
  refine aops_step1 rfl (st_assign rfl rfl) ?_
  refine aops_nil ?_
  refine aw_seq ?_
  refine aw_region ?_
  refine aops_step1 rfl (st_move rfl rfl) ?_
  refine aops_step1 rfl (st_move rfl rfl) ?_
  refine aops_step1 rfl (st_conv_int rfl rfl Try.underlying3 Try.underlying61 (Md.ofInt_u64 a1)) ?_
  refine aops_step1 rfl (ev_shl rfl rfl rfl (by decide) (Md.shl_u64 (UInt64.ofInt a1) (Md.nat_toNat 1))) ?_
  refine aops_step1 rfl (st_move rfl rfl) ?_
  refine aops_step1 rfl (ev_shr rfl rfl rfl (by decide) (Md.ishr_i64 a1 (Md.nat_toNat 63))) ?_
  refine aops_step1 rfl (st_conv_int rfl rfl Try.underlying3 Try.underlying61 (Md.ofInt_u64 (Md.ishr a1 63))) ?_
  refine aops_step1 rfl (ev_bits rfl rfl rfl rfl (Md.xor_u64 (Md.shl64 (UInt64.ofInt a1) 1) (UInt64.ofInt (Md.ishr a1 63)))) ?_
  obtain ⟨x1, hx1, h⟩ := Md.bind_s h
  refine aops_step1 rfl (st_call_o (r' := .one (.own 0)) 0 rfl (wire_putUint_fn k a0 ((Md.shl64 (UInt64.ofInt a1) 1) ^^^ (UInt64.ofInt (Md.ishr a1 63))) x1 hx1) rfl [] (by repeat' (first | exact All2.nil | refine All2.cons ?_ ?_ | refine ArgV.one ?_ | refine ArgV.agg ?_ | exact ArgC.mk rfl | exact ArgC.lend rfl (by simp) | exact ArgC.le (CLe.nil _) rfl | exact ArgC.le (CLe.emp _) rfl | exact ArgC.le (CLe.any _) rfl)) rfl rfl rfl (.inl rfl) rfl rfl) ?_
  refine aops_step1 rfl (st_assign rfl rfl) ?_
  refine aops_nil ?_
  cases Option.some.inj h
  refine aw_ret ⟨rfl, ret_r 0 (.inl ⟨_, rfl, rfl, fun _ e => nomatch e⟩) rfl rfl rfl ?_ ?_ ?_⟩
  · first | exact TLe.refl _ | (repeat' (first | exact TLe.refl _ | exact VLe.refl _ | exact CLe.refl _ | exact All2.nil | refine TLe.tup ?_ | refine TLe.v ?_ | refine All2.cons ?_ ?_ | refine VLe.agg ?_ | refine VLe.one ?_ | exact CLe.nil _ | exact CLe.emp _ | refine CLe.val ?_ | refine CLe.slc ?_ ?_))
  · rfl
  · rfl
set_option maxHeartbeats 2000000 in
theorem wire_putString_fn (k : Nat) (a0 : List UInt8) (a1 : List UInt8) (r : (List UInt8)) (h : wire_putString k a0 a1 = some r) : FnC Try.prog 57 [.one (.own 0), .one (.val (Sv a1))] [(0, some (.row 5 1 a0.length (lsEl byC a0)))] (Det (.one (.own 0)) [(0, some (.row 5 1 r.length (lsEl byC r)))]) := by
  unfold wire_putString at h
  refine fn_intro' 12 Try.func57 rfl rfl rfl ?_
  refine aw_seq ?_
  refine aw_region ?_
  refine aops_step1 rfl (st_assign rfl rfl) ?_
  refine aops_nil ?_
  refine aw_seq ?_
  refine aw_region ?_
  refine aops_step1 rfl (st_move rfl rfl) ?_
  refine aops_step1 rfl (st_move rfl rfl) ?_
  refine aops_step1 rfl (st_len_str rfl rfl) ?_
  refine aops_step1 rfl (st_conv_int rfl rfl Try.underlying3 Try.underlying61 (Md.ofNat_u64 a1.length)) ?_
  obtain ⟨x1, hx1, h⟩ := Md.bind_s h
  refine aops_step1 rfl (st_call_o (r' := .one (.own 0)) 0 rfl (wire_putUint_fn k a0 (UInt64.ofNat a1.length) x1 hx1) rfl [] (by repeat' (first | exact All2.nil | refine All2.cons ?_ ?_ | refine ArgV.one ?_ | refine ArgV.agg ?_ | exact ArgC.mk rfl | exact ArgC.lend rfl (by simp) | exact ArgC.le (CLe.nil _) rfl | exact ArgC.le (CLe.emp _) rfl | exact ArgC.le (CLe.any _) rfl)) rfl rfl rfl (.inl rfl) rfl rfl) ?_
  refine aops_step1 rfl (st_move rfl rfl) ?_
  obtain ⟨g2, h⟩ := Md.ifp_s h
  refine aops_step1 rfl (st_app_str x1 a1 rfl rfl rfl g2 rfl) ?_
  refine aops_step1 rfl (st_assign rfl rfl) ?_
  refine aops_nil ?_
  cases Option.some.inj h
  refine aw_ret ⟨rfl, ret_r 0 (.inl ⟨_, rfl, rfl, fun _ e => nomatch e⟩) rfl rfl rfl ?_ ?_ ?_⟩
  · first | exact TLe.refl _ | (repeat' (first | exact TLe.refl _ | exact VLe.refl _ | exact CLe.refl _ | exact All2.nil | refine TLe.tup ?_ | refine TLe.v ?_ | refine All2.cons ?_ ?_ | refine VLe.agg ?_ | refine VLe.one ?_ | exact CLe.nil _ | exact CLe.emp _ | refine CLe.val ?_ | refine CLe.slc ?_ ?_))
  · rfl
  · rfl
set_option maxHeartbeats 2000000 in
theorem wire_AppendUint_fn (k : Nat) (a0 : List UInt8) (a1 : UInt64) (r : (List UInt8)) (h : wire_AppendUint k a0 a1 = some r) : FnC Try.prog 44 [.one (CV.ls byC a0), .one (.val (.int .u64 (a1.toNat : Int)))] [] (Det (.one (.own 0)) [(0, some (.row 5 1 r.length (lsEl byC r)))]) := by
  unfold wire_AppendUint at h
  refine fn_intro' 9 Try.func44 rfl rfl rfl ?_
  refine aw_seq ?_
  refine aw_region ?_
  refine aops_step1 rfl (st_assign rfl rfl) ?_
  refine aops_nil ?_
  refine aw_seq ?_
  refine aw_region ?_
  refine aops_step1 rfl (st_move rfl rfl) ?_
  obtain ⟨x1, hx1, h⟩ := Md.bind_s h
  refine aops_step1 rfl (st_call_r (r' := .one (.own 0)) 0 rfl (wire_extend_fn k a0 10 x1 hx1) rfl [] (by repeat' (first | exact All2.nil | refine All2.cons ?_ ?_ | refine ArgV.one ?_ | refine ArgV.agg ?_ | exact ArgC.mk rfl | exact ArgC.lend rfl (by simp) | exact ArgC.le (CLe.nil _) rfl | exact ArgC.le (CLe.emp _) rfl | exact ArgC.le (CLe.any _) rfl)) rfl rfl rfl (.inl rfl) rfl rfl) ?_
  refine aops_step1 rfl (st_move rfl rfl) ?_
  obtain ⟨x2, hx2, h⟩ := Md.bind_s h
  refine aops_step1 rfl (st_call_o (r' := .one (.own 0)) 0 rfl (wire_putUint_fn k x1 a1 x2 hx2) rfl [] (by repeat' (first | exact All2.nil | refine All2.cons ?_ ?_ | refine ArgV.one ?_ | refine ArgV.agg ?_ | exact ArgC.mk rfl | exact ArgC.lend rfl (by simp) | exact ArgC.le (CLe.nil _) rfl | exact ArgC.le (CLe.emp _) rfl | exact ArgC.le (CLe.any _) rfl)) rfl rfl rfl (.inl rfl) rfl rfl) ?_
  refine aops_step1 rfl (st_assign rfl rfl) ?_
  refine aops_nil ?_
  cases Option.some.inj h
  refine aw_ret ⟨rfl, ret_r 0 (.inl ⟨_, rfl, rfl, fun _ e => nomatch e⟩) rfl rfl rfl ?_ ?_ ?_⟩
  · first | exact TLe.refl _ | (repeat' (first | exact TLe.refl _ | exact VLe.refl _ | exact CLe.refl _ | exact All2.nil | refine TLe.tup ?_ | refine TLe.v ?_ | refine All2.cons ?_ ?_ | refine VLe.agg ?_ | refine VLe.one ?_ | exact CLe.nil _ | exact CLe.emp _ | refine CLe.val ?_ | refine CLe.slc ?_ ?_))
  · rfl
  · rfl
set_option maxHeartbeats 2000000 in
theorem wire_AppendInt_fn (k : Nat) (a0 : List UInt8) (a1 : Int) (r : (List UInt8)) (h : wire_AppendInt k a0 a1 = some r) : FnC Try.prog 46 [.one (CV.ls byC a0), .one (.val (.int .i64 a1))] [] (Det (.one (.own 0)) [(0, some (.row 5 1 r.length (lsEl byC r)))]) := by
  unfold wire_AppendInt at h
  refine fn_intro' 9 Try.func46 rfl rfl rfl ?_
  refine aw_seq ?_
  refine aw_region ?_
  refine aops_step1 rfl (st_assign rfl rfl) ?_
  refine aops_nil ?_
  refine aw_seq ?_
  refine aw_region ?_
  refine aops_step1 rfl (st_move rfl rfl) ?_
  obtain ⟨x1, hx1, h⟩ := Md.bind_s h
  refine aops_step1 rfl (st_call_r (r' := .one (.own 0)) 0 rfl (wire_extend_fn k a0 10 x1 hx1) rfl [] (by repeat' (first | exact All2.nil | refine All2.cons ?_ ?_ | refine ArgV.one ?_ | refine ArgV.agg ?_ | exact ArgC.mk rfl | exact ArgC.lend rfl (by simp) | exact ArgC.le (CLe.nil _) rfl | exact ArgC.le (CLe.emp _) rfl | exact ArgC.le (CLe.any _) rfl)) rfl rfl rfl (.inl rfl) rfl rfl) ?_
  refine aops_step1 rfl (st_move rfl rfl) ?_
  obtain ⟨x2, hx2, h⟩ := Md.bind_s h
  refine aops_step1 rfl (st_call_o (r' := .one (.own 0)) 0 rfl (wire_putInt_fn k x1 a1 x2 hx2) rfl [] (by repeat' (first | exact All2.nil | refine All2.cons ?_ ?_ | refine ArgV.one ?_ | refine ArgV.agg ?_ | exact ArgC.mk rfl | exact ArgC.lend rfl (by simp) | exact ArgC.le (CLe.nil _) rfl | exact ArgC.le (CLe.emp _) rfl | exact ArgC.le (CLe.any _) rfl)) rfl rfl rfl (.inl rfl) rfl rfl) ?_
  refine aops_step1 rfl (st_assign rfl rfl) ?_
  refine aops_nil ?_
  cases Option.some.inj h
  refine aw_ret ⟨rfl, ret_r 0 (.inl ⟨_, rfl, rfl, fun _ e => nomatch e⟩) rfl rfl rfl ?_ ?_ ?_⟩
  · first | exact TLe.refl _ | (repeat' (first | exact TLe.refl _ | exact VLe.refl _ | exact CLe.refl _ | exact All2.nil | refine TLe.tup ?_ | refine TLe.v ?_ | refine All2.cons ?_ ?_ | refine VLe.agg ?_ | refine VLe.one ?_ | exact CLe.nil _ | exact CLe.emp _ | refine CLe.val ?_ | refine CLe.slc ?_ ?_))
  · rfl
  · rfl
set_option maxHeartbeats 2000000 in
theorem wire_AppendString_fn (k : Nat) (a0 : List UInt8) (a1 : List UInt8) (r : (List UInt8)) (h : wire_AppendString k a0 a1 = some r) : FnC Try.prog 23 [.one (CV.ls byC a0), .one (.val (Sv a1))] [] (Det (.one (.own 0)) [(0, some (.row 5 1 r.length (lsEl byC r)))]) := by
  unfold wire_AppendString at h
  refine fn_intro' 12 Try.func23 rfl rfl rfl ?_
  refine aw_seq ?_
  refine aw_region ?_
  refine aops_step1 rfl (st_assign rfl rfl) ?_
  refine aops_nil ?_
  refine aw_seq ?_
  refine aw_region ?_
  refine aops_step1 rfl (st_move rfl rfl) ?_
  refine aops_step1 rfl (st_move rfl rfl) ?_
  refine aops_step1 rfl (st_len_str rfl rfl) ?_
  obtain ⟨g1, h⟩ := Md.ifp_s h
  refine aops_step1 rfl (ev_add rfl rfl rfl (Md.nat_add g1)) ?_
  obtain ⟨x2, hx2, h⟩ := Md.bind_s h
  refine aops_step1 rfl (st_call_r (r' := .one (.own 0)) 0 rfl (wire_extend_fn k a0 (((a1.length + 10) : Nat) : Int) x2 hx2) rfl [] (by repeat' (first | exact All2.nil | refine All2.cons ?_ ?_ | refine ArgV.one ?_ | refine ArgV.agg ?_ | exact ArgC.mk rfl | exact ArgC.lend rfl (by simp) | exact ArgC.le (CLe.nil _) rfl | exact ArgC.le (CLe.emp _) rfl | exact ArgC.le (CLe.any _) rfl)) rfl rfl rfl (.inl rfl) rfl rfl) ?_
  refine aops_step1 rfl (st_move rfl rfl) ?_
  obtain ⟨x3, hx3, h⟩ := Md.bind_s h
  refine aops_step1 rfl (st_call_o (r' := .one (.own 0)) 0 rfl (wire_putString_fn k x2 a1 x3 hx3) rfl [] (by repeat' (first | exact All2.nil | refine All2.cons ?_ ?_ | refine ArgV.one ?_ | refine ArgV.agg ?_ | exact ArgC.mk rfl | exact ArgC.lend rfl (by simp) | exact ArgC.le (CLe.nil _) rfl | exact ArgC.le (CLe.emp _) rfl | exact ArgC.le (CLe.any _) rfl)) rfl rfl rfl (.inl rfl) rfl rfl) ?_
  refine aops_step1 rfl (st_assign rfl rfl) ?_
  refine aops_nil ?_
  cases Option.some.inj h
  refine aw_ret ⟨rfl, ret_r 0 (.inl ⟨_, rfl, rfl, fun _ e => nomatch e⟩) rfl rfl rfl ?_ ?_ ?_⟩
  · first | exact TLe.refl _ | (repeat' (first | exact TLe.refl _ | exact VLe.refl _ | exact CLe.refl _ | exact All2.nil | refine TLe.tup ?_ | refine TLe.v ?_ | refine All2.cons ?_ ?_ | refine VLe.agg ?_ | refine VLe.one ?_ | exact CLe.nil _ | exact CLe.emp _ | refine CLe.val ?_ | refine CLe.slc ?_ ?_))
  · rfl
  · rfl
set_option maxHeartbeats 2000000 in
theorem wire_AppendInts_fn (k : Nat) (a0 : List UInt8) (a1 : List Int) (r : (List UInt8)) (h : wire_AppendInts k a0 a1 = some r) : FnC Try.prog 26 [.one (CV.ls byC a0), .one (CV.ls c_Int a1)] [] (Det (.one (.own 0)) [(0, some (.row 5 1 r.length (lsEl byC r)))]) := by
  unfold wire_AppendInts at h
  refine fn_intro' 29 Try.func26 rfl rfl rfl ?_
  refine aw_seq ?_
  refine aw_region ?_
  refine aops_step1 rfl (st_assign rfl rfl) ?_
  refine aops_nil ?_
  refine aw_seq ?_
  refine aw_region ?_
  refine aops_step1 rfl (st_move rfl rfl) ?_
  refine aops_step1 rfl (st_move rfl rfl) ?_
  refine aops_step1 rfl (ev_len_slc rfl rfl) ?_
  obtain ⟨g1, h⟩ := Md.ifp_s h
  refine aops_step1 rfl (ev_mul rfl rfl rfl (Md.nat_mul g1)) ?_
  obtain ⟨g2, h⟩ := Md.ifp_s h
  refine aops_step1 rfl (ev_add rfl rfl rfl (Md.nat_add g2)) ?_
  obtain ⟨x3, hx3, h⟩ := Md.bind_s h
  refine aops_step1 rfl (st_call_r (r' := .one (.own 0)) 0 rfl (wire_extend_fn k a0 (((10 + (2 * a1.length)) : Nat) : Int) x3 hx3) rfl [] (by repeat' (first | exact All2.nil | refine All2.cons ?_ ?_ | refine ArgV.one ?_ | refine ArgV.agg ?_ | exact ArgC.mk rfl | exact ArgC.lend rfl (by simp) | exact ArgC.le (CLe.nil _) rfl | exact ArgC.le (CLe.emp _) rfl | exact ArgC.le (CLe.any _) rfl)) rfl rfl rfl (.inl rfl) rfl rfl) ?_
  refine aops_step1 rfl (st_move rfl rfl) ?_
  refine aops_step1 rfl (ev_len_slc rfl rfl) ?_
  refine aops_step1 rfl (st_conv_int rfl rfl Try.underlying3 Try.underlying61 (Md.ofNat_u64 a1.length)) ?_
  obtain ⟨x4, hx4, h⟩ := Md.bind_s h
  refine aops_step1 rfl (st_call_o (r' := .one (.own 0)) 0 rfl (wire_putUint_fn k x3 (UInt64.ofNat a1.length) x4 hx4) rfl [] (by repeat' (first | exact All2.nil | refine All2.cons ?_ ?_ | refine ArgV.one ?_ | refine ArgV.agg ?_ | exact ArgC.mk rfl | exact ArgC.lend rfl (by simp) | exact ArgC.le (CLe.nil _) rfl | exact ArgC.le (CLe.emp _) rfl | exact ArgC.le (CLe.any _) rfl)) rfl rfl rfl (.inl rfl) rfl rfl) ?_
  refine aops_step1 rfl (st_assign rfl rfl) ?_
  refine aops_nil ?_
  refine aw_seq ?_
  refine aw_seq ?_
  refine aw_region ?_
  refine aops_step1 rfl (st_move rfl rfl) ?_
  refine aops_step1 rfl (ev_len_slc rfl rfl) ?_
  refine aops_step1 rfl (st_move rfl rfl) ?_
  refine aops_nil ?_
  refine aw_block ?_
  obtain ⟨o5, ho5, h⟩ := Md.bind_s h
  refine aw_loop_x (ι := {p : Nat × Nat × (List UInt8) // wire_AppendInts_loop1 k a1 p.1 p.2.1 p.2.2 = some o5}) (fun p => (⟨29, [], [(5, .one (.own 0)), (18, .one (CV.ls c_Int a1)), (19, .one (.val (.int .i64 ((a1.length : Nat) : Int)))), (20, .one (.val (.int .i64 ((p.1.2.1 : Nat) : Int))))], [(0, some (.row 5 1 p.1.2.2.length (lsEl byC p.1.2.2)))]⟩ : ASt)) (fun p => p.1.1) ⟨(k, 0, x4), ho5⟩ (by (refine weak_mk rfl rfl ?_ ?_ rfl <;> repeat' (first | exact trivial | refine ⟨?_, ?_⟩ | exact VLe.refl _ | exact BLe.refl _ | refine VLe.one (CLe.val ?_) | exact VLe.one (CLe.nil _) | exact VLe.one (CLe.emp _)))) 0 (ε := (List UInt8)) (fun x => (⟨29, [], [(5, .one (.own 0))], [(0, some (.row 5 1 x.length (lsEl byC x)))]⟩ : ASt)) (fun x => x = o5) (fun _ _ w h => aw_weak w h) ?_ ?_
  · intro x5_0 hI5
    subst hI5
    change AW _ _ (⟨29, [], [(5, .one (.own 0))], [(0, some (.row 5 1 x5_0.length (lsEl byC x5_0)))]⟩ : ASt) _
    refine aw_seq ?_
    refine aw_region ?_
    refine aops_step1 rfl (st_move rfl rfl) ?_
    refine aops_step1 rfl (st_assign rfl rfl) ?_
    refine aops_nil ?_
    cases Option.some.inj h
    refine aw_ret ⟨rfl, ret_r 0 (.inl ⟨_, rfl, rfl, fun _ e => nomatch e⟩) rfl rfl rfl ?_ ?_ ?_⟩
    · first | exact TLe.refl _ | (repeat' (first | exact TLe.refl _ | exact VLe.refl _ | exact CLe.refl _ | exact All2.nil | refine TLe.tup ?_ | refine TLe.v ?_ | refine All2.cons ?_ ?_ | refine VLe.agg ?_ | refine VLe.one ?_ | exact CLe.nil _ | exact CLe.emp _ | refine CLe.val ?_ | refine CLe.slc ?_ ?_))
    · rfl
    · rfl
  intro p5
  obtain ⟨⟨n5, s5_0, s5_1⟩, l5⟩ := p5
  change AW _ _ (⟨29, [], [(5, .one (.own 0)), (18, .one (CV.ls c_Int a1)), (19, .one (.val (.int .i64 ((a1.length : Nat) : Int)))), (20, .one (.val (.int .i64 ((s5_0 : Nat) : Int))))], [(0, some (.row 5 1 s5_1.length (lsEl byC s5_1)))]⟩ : ASt) _
  replace l5 : wire_AppendInts_loop1 k a1 n5 s5_0 s5_1 = some o5 := l5
  rcases n5 with _ | n5
  · exact absurd (show none = some o5 from l5) nofun
  rw [wire_AppendInts_loop1] at l5
  refine aw_seq ?_
  refine aw_region ?_
  refine aops_step1 rfl (ev_cmp rfl rfl rfl rfl) ?_
  refine aops_nil ?_
  refine aw_seq ?_
  refine aw_cond rfl (fun c6 => ?_) (fun c6 => ?_)
  · replace l5 := Md.cond_t l5 c6
    refine aw_skip ?_
    refine aw_seq ?_
    refine aw_block ?_
    refine aw_seq ?_
    refine aw_region ?_
    obtain ⟨g7, l5⟩ := Md.ifp_s l5
    refine aops_step1 rfl (ev_index_in rfl rfl rfl g7 rfl rfl) ?_
    refine aops_step1 rfl (ev_load_in rfl rfl rfl) ?_
    refine aops_step1 rfl (st_assign rfl rfl) ?_
    refine aops_nil ?_
    refine aw_region ?_
    refine aops_step1 rfl (st_move rfl rfl) ?_
    refine aops_step1 rfl (st_move rfl rfl) ?_
    obtain ⟨x8, hx8, l5⟩ := Md.bind_s l5
    refine aops_step1 rfl (st_call_o (r' := .one (.own 0)) 0 rfl (wire_putInt_fn k s5_1 (a1.getD s5_0 default) x8 hx8) rfl [] (by repeat' (first | exact All2.nil | refine All2.cons ?_ ?_ | refine ArgV.one ?_ | refine ArgV.agg ?_ | exact ArgC.mk rfl | exact ArgC.lend rfl (by simp) | exact ArgC.le (CLe.nil _) rfl | exact ArgC.le (CLe.emp _) rfl | exact ArgC.le (CLe.any _) rfl)) rfl rfl rfl (.inl rfl) rfl rfl) ?_
    refine aops_step1 rfl (st_assign rfl rfl) ?_
    refine aops_nil ?_
    refine aw_region ?_
    obtain ⟨g9, l5⟩ := Md.ifp_s l5
    refine aops_step1 rfl (ev_add rfl rfl rfl (Md.nat_add g9)) ?_
    refine aops_step1 rfl (st_move rfl rfl) ?_
    refine aops_nil ?_
    exact ⟨⟨(n5, (s5_0 + 1), x8), l5⟩, Nat.lt_succ_self _, (by (refine weak_mk rfl rfl ?_ ?_ rfl <;> repeat' (first | exact trivial | refine ⟨?_, ?_⟩ | exact VLe.refl _ | exact BLe.refl _ | refine VLe.one (CLe.val ?_) | exact VLe.one (CLe.nil _) | exact VLe.one (CLe.emp _))))⟩
  replace l5 := Md.cond_f l5 c6
  refine aw_exit ?_
  show ∃ _x : (List UInt8), _ = _ ∧ Weak _ _
  exact ⟨s5_1, Option.some.inj l5, (by (refine weak_mk rfl rfl ?_ ?_ rfl <;> repeat' (first | exact trivial | refine ⟨?_, ?_⟩ | exact VLe.refl _ | exact BLe.refl _ | refine VLe.one (CLe.val ?_) | exact VLe.one (CLe.nil _) | exact VLe.one (CLe.emp _))))⟩
set_option maxHeartbeats 2000000 in
theorem wire_AppendStrings_fn (k : Nat) (a0 : List UInt8) (a1 : List (List UInt8)) (r : (List UInt8)) (h : wire_AppendStrings k a0 a1 = some r) : FnC Try.prog 28 [.one (CV.ls byC a0), .one (CV.ls c_Str a1)] [] (Det (.one (.own 0)) [(0, some (.row 5 1 r.length (lsEl byC r)))]) := by
  unfold wire_AppendStrings at h
  refine fn_intro' 29 Try.func28 rfl rfl rfl ?_
  refine aw_seq ?_
  refine aw_region ?_
  refine aops_step1 rfl (st_assign rfl rfl) ?_
  refine aops_nil ?_
  refine aw_seq ?_
  refine aw_region ?_
  refine aops_step1 rfl (st_move rfl rfl) ?_
  refine aops_step1 rfl (st_move rfl rfl) ?_
  refine aops_step1 rfl (ev_len_slc rfl rfl) ?_
  obtain ⟨g1, h⟩ := Md.ifp_s h
  refine aops_step1 rfl (ev_mul rfl rfl rfl (Md.nat_mul g1)) ?_
  obtain ⟨g2, h⟩ := Md.ifp_s h
  refine aops_step1 rfl (ev_add rfl rfl rfl (Md.nat_add g2)) ?_
  obtain ⟨x3, hx3, h⟩ := Md.bind_s h
  refine aops_step1 rfl (st_call_r (r' := .one (.own 0)) 0 rfl (wire_extend_fn k a0 (((10 + (10 * a1.length)) : Nat) : Int) x3 hx3) rfl [] (by repeat' (first | exact All2.nil | refine All2.cons ?_ ?_ | refine ArgV.one ?_ | refine ArgV.agg ?_ | exact ArgC.mk rfl | exact ArgC.lend rfl (by simp) | exact ArgC.le (CLe.nil _) rfl | exact ArgC.le (CLe.emp _) rfl | exact ArgC.le (CLe.any _) rfl)) rfl rfl rfl (.inl rfl) rfl rfl) ?_
  refine aops_step1 rfl (st_move rfl rfl) ?_
  refine aops_step1 rfl (ev_len_slc rfl rfl) ?_
  refine aops_step1 rfl (st_conv_int rfl rfl Try.underlying3 Try.underlying61 (Md.ofNat_u64 a1.length)) ?_
  obtain ⟨x4, hx4, h⟩ := Md.bind_s h
  refine aops_step1 rfl (st_call_o (r' := .one (.own 0)) 0 rfl (wire_putUint_fn k x3 (UInt64.ofNat a1.length) x4 hx4) rfl [] (by repeat' (first | exact All2.nil | refine All2.cons ?_ ?_ | refine ArgV.one ?_ | refine ArgV.agg ?_ | exact ArgC.mk rfl | exact ArgC.lend rfl (by simp) | exact ArgC.le (CLe.nil _) rfl | exact ArgC.le (CLe.emp _) rfl | exact ArgC.le (CLe.any _) rfl)) rfl rfl rfl (.inl rfl) rfl rfl) ?_
  refine aops_step1 rfl (st_assign rfl rfl) ?_
  refine aops_nil ?_
  refine aw_seq ?_
  refine aw_seq ?_
  refine aw_region ?_
  refine aops_step1 rfl (st_move rfl rfl) ?_
  refine aops_step1 rfl (ev_len_slc rfl rfl) ?_
  refine aops_step1 rfl (st_move rfl rfl) ?_
  refine aops_nil ?_
  refine aw_block ?_
  obtain ⟨o5, ho5, h⟩ := Md.bind_s h
  refine aw_loop_x (ι := {p : Nat × Nat × (List UInt8) // wire_AppendStrings_loop1 k a1 p.1 p.2.1 p.2.2 = some o5}) (fun p => (⟨29, [], [(5, .one (.own 0)), (18, .one (CV.ls c_Str a1)), (19, .one (.val (.int .i64 ((a1.length : Nat) : Int)))), (20, .one (.val (.int .i64 ((p.1.2.1 : Nat) : Int))))], [(0, some (.row 5 1 p.1.2.2.length (lsEl byC p.1.2.2)))]⟩ : ASt)) (fun p => p.1.1) ⟨(k, 0, x4), ho5⟩ (by (refine weak_mk rfl rfl ?_ ?_ rfl <;> repeat' (first | exact trivial | refine ⟨?_, ?_⟩ | exact VLe.refl _ | exact BLe.refl _ | refine VLe.one (CLe.val ?_) | exact VLe.one (CLe.nil _) | exact VLe.one (CLe.emp _)))) 0 (ε := (List UInt8)) (fun x => (⟨29, [], [(5, .one (.own 0))], [(0, some (.row 5 1 x.length (lsEl byC x)))]⟩ : ASt)) (fun x => x = o5) (fun _ _ w h => aw_weak w h) ?_ ?_
  · intro x5_0 hI5
    subst hI5
    change AW _ _ (⟨29, [], [(5, .one (.own 0))], [(0, some (.row 5 1 x5_0.length (lsEl byC x5_0)))]⟩ : ASt) _
    refine aw_seq ?_
    refine aw_region ?_
    refine aops_step1 rfl (st_move rfl rfl) ?_
    refine aops_step1 rfl (st_assign rfl rfl) ?_
    refine aops_nil ?_
    cases Option.some.inj h
    refine aw_ret ⟨rfl, ret_r 0 (.inl ⟨_, rfl, rfl, fun _ e => nomatch e⟩) rfl rfl rfl ?_ ?_ ?_⟩
    · first | exact TLe.refl _ | (repeat' (first | exact TLe.refl _ | exact VLe.refl _ | exact CLe.refl _ | exact All2.nil | refine TLe.tup ?_ | refine TLe.v ?_ | refine All2.cons ?_ ?_ | refine VLe.agg ?_ | refine VLe.one ?_ | exact CLe.nil _ | exact CLe.emp _ | refine CLe.val ?_ | refine CLe.slc ?_ ?_))
    · rfl
    · rfl
  intro p5
  obtain ⟨⟨n5, s5_0, s5_1⟩, l5⟩ := p5
  change AW _ _ (⟨29, [], [(5, .one (.own 0)), (18, .one (CV.ls c_Str a1)), (19, .one (.val (.int .i64 ((a1.length : Nat) : Int)))), (20, .one (.val (.int .i64 ((s5_0 : Nat) : Int))))], [(0, some (.row 5 1 s5_1.length (lsEl byC s5_1)))]⟩ : ASt) _
  replace l5 : wire_AppendStrings_loop1 k a1 n5 s5_0 s5_1 = some o5 := l5
  rcases n5 with _ | n5
  · exact absurd (show none = some o5 from l5) nofun
  rw [wire_AppendStrings_loop1] at l5
  refine aw_seq ?_
  refine aw_region ?_
  refine aops_step1 rfl (ev_cmp rfl rfl rfl rfl) ?_
  refine aops_nil ?_
  refine aw_seq ?_
  refine aw_cond rfl (fun c6 => ?_) (fun c6 => ?_)
  · replace l5 := Md.cond_t l5 c6
    refine aw_skip ?_
    refine aw_seq ?_
    refine aw_block ?_
    refine aw_seq ?_
    refine aw_region ?_
    obtain ⟨g7, l5⟩ := Md.ifp_s l5
    refine aops_step1 rfl (ev_index_in rfl rfl rfl g7 rfl rfl) ?_
    refine aops_step1 rfl (ev_load_in rfl rfl rfl) ?_
    refine aops_step1 rfl (st_assign rfl rfl) ?_
    refine aops_nil ?_
    refine aw_region ?_
    refine aops_step1 rfl (st_move rfl rfl) ?_
    refine aops_step1 rfl (st_move rfl rfl) ?_
    obtain ⟨x8, hx8, l5⟩ := Md.bind_s l5
    refine aops_step1 rfl (st_call_o (r' := .one (.own 0)) 0 rfl (wire_putString_fn k s5_1 (a1.getD s5_0 default) x8 hx8) rfl [] (by repeat' (first | exact All2.nil | refine All2.cons ?_ ?_ | refine ArgV.one ?_ | refine ArgV.agg ?_ | exact ArgC.mk rfl | exact ArgC.lend rfl (by simp) | exact ArgC.le (CLe.nil _) rfl | exact ArgC.le (CLe.emp _) rfl | exact ArgC.le (CLe.any _) rfl)) rfl rfl rfl (.inl rfl) rfl rfl) ?_
    refine aops_step1 rfl (st_assign rfl rfl) ?_
    refine aops_nil ?_
    refine aw_region ?_
    obtain ⟨g9, l5⟩ := Md.ifp_s l5
    refine aops_step1 rfl (ev_add rfl rfl rfl (Md.nat_add g9)) ?_
    refine aops_step1 rfl (st_move rfl rfl) ?_
    refine aops_nil ?_
    exact ⟨⟨(n5, (s5_0 + 1), x8), l5⟩, Nat.lt_succ_self _, (by (refine weak_mk rfl rfl ?_ ?_ rfl <;> repeat' (first | exact trivial | refine ⟨?_, ?_⟩ | exact VLe.refl _ | exact BLe.refl _ | refine VLe.one (CLe.val ?_) | exact VLe.one (CLe.nil _) | exact VLe.one (CLe.emp _))))⟩
  replace l5 := Md.cond_f l5 c6
  refine aw_exit ?_
  show ∃ _x : (List UInt8), _ = _ ∧ Weak _ _
  exact ⟨s5_1, Option.some.inj l5, (by (refine weak_mk rfl rfl ?_ ?_ rfl <;> repeat' (first | exact trivial | refine ⟨?_, ?_⟩ | exact VLe.refl _ | exact BLe.refl _ | refine VLe.one (CLe.val ?_) | exact VLe.one (CLe.nil _) | exact VLe.one (CLe.emp _))))⟩
set_option maxHeartbeats 2000000 in
theorem wire_ValidValue_fn (k : Nat) (a0 : Value) (r : Bool) (h : wire_ValidValue k a0 = some r) : FnC Try.prog 37 [.agg [.val (.int .i64 a0.Kind), .val (.int .i64 a0.N), .val (Sv a0.S), CV.ls c_Int a0.I, CV.ls c_Str a0.L]] [] (Det (.one (.val (.bool r))) []) := by
  unfold wire_ValidValue at h
  refine fn_intro' 86 Try.func37 rfl rfl rfl ?_
  refine aw_seq ?_
  refine aw_region ?_
  refine aops_step1 rfl (st_box 0 rfl rfl rfl rfl) ?_
  refine aops_step1 rfl (st_assign rfl rfl) ?_
  refine aops_nil ?_
  refine aw_seq ?_
  refine aw_seq ?_
  refine aw_region ?_
  refine aops_step1 rfl (ev_field rfl rfl rfl) ?_
  refine aops_step1 rfl (ev_load rfl rfl rfl rfl) ?_
  refine aops_step1 rfl (ev_cmp rfl rfl rfl rfl) ?_
  refine aops_step1 rfl (st_move rfl rfl) ?_
  refine aops_mid 4 (⟨86, [], [(1, .one (.ptr 0 0)), (12, .one (.val (.bool ((decide (a0.Kind < 0)) || (decide (a0.Kind > 5))))))], [(0, some (.box [.val (.int .i64 a0.Kind), .val (.int .i64 a0.N), .val (Sv a0.S), CV.ls c_Int a0.I, CV.ls c_Str a0.L]))]⟩ : ASt) ?_ ?_
  · rcases Md.bool_or ((decide (a0.Kind < 0))) with q1 | q1
    · skip
      refine aops_no rfl rfl rfl rfl rfl (by first | decide | (rw [q1]; decide)) ?_
      refine aops_no rfl rfl rfl rfl rfl (by first | decide | (rw [q1]; decide)) ?_
      refine aops_no rfl rfl rfl rfl rfl (by first | decide | (rw [q1]; decide)) ?_
      refine aops_step1 rfl (st_pick_yes rfl (by first | rfl | exact q1) rfl rfl) ?_
      refine aops_nil ?_
      show Weak _ _
      (refine weak_mk rfl rfl ?_ ?_ rfl <;> repeat' (first | exact trivial | refine ⟨?_, ?_⟩ | exact VLe.refl _ | exact BLe.refl _ | refine VLe.one (CLe.val ?_) | exact VLe.one (CLe.nil _) | exact VLe.one (CLe.emp _))) <;> (first | (rw [q1]; done) | (rw [q1]; rfl) | (simp [q1]; done))
    refine aops_yes rfl rfl rfl rfl q1 (ev_field rfl rfl rfl) ?_
    refine aops_yes rfl rfl rfl rfl q1 (ev_load rfl rfl rfl rfl) ?_
    refine aops_yes rfl rfl rfl rfl q1 (ev_cmp rfl rfl rfl rfl) ?_
    refine aops_step1 rfl (st_pick_no rfl (by first | rfl | exact q1) rfl rfl) ?_
    refine aops_nil ?_
    show Weak _ _
    (refine weak_mk rfl rfl ?_ ?_ rfl <;> repeat' (first | exact trivial | refine ⟨?_, ?_⟩ | exact VLe.refl _ | exact BLe.refl _ | refine VLe.one (CLe.val ?_) | exact VLe.one (CLe.nil _) | exact VLe.one (CLe.emp _))) <;> (first | (rw [q1]; done) | (rw [q1]; rfl) | (simp [q1]; done))
  change AOps _ _ _ (⟨86, [], [(1, .one (.ptr 0 0)), (12, .one (.val (.bool ((decide (a0.Kind < 0)) || (decide (a0.Kind > 5))))))], [(0, some (.box [.val (.int .i64 a0.Kind), .val (.int .i64 a0.N), .val (Sv a0.S), CV.ls c_Int a0.I, CV.ls c_Str a0.L]))]⟩ : ASt) _
  refine aops_nil ?_
  refine aw_cond rfl (fun c2 => ?_) (fun c2 => ?_)
  · replace h := Md.cond_t h c2
    refine aw_seq ?_
    refine aw_region ?_
    refine aops_step1 rfl (st_assign rfl rfl) ?_
    refine aops_nil ?_
    cases Option.some.inj h
    refine aw_ret ⟨rfl, ret_v (.inl ⟨_, rfl, rfl, fun _ e => nomatch e⟩) rfl rfl rfl ?_⟩
    (repeat' (first | exact TLe.refl _ | exact VLe.refl _ | exact CLe.refl _ | exact All2.nil | refine TLe.tup ?_ | refine TLe.v ?_ | refine All2.cons ?_ ?_ | refine VLe.agg ?_ | refine VLe.one ?_ | exact CLe.nil _ | exact CLe.emp _ | refine CLe.val ?_ | refine CLe.slc ?_ ?_))
  replace h := Md.cond_f h c2
  refine aw_skip ?_
  refine aw_seq ?_
  refine aw_block ?_
  refine aw_seq ?_
  refine aw_region ?_
  refine aops_step1 rfl (ev_field rfl rfl rfl) ?_
  refine aops_step1 rfl (ev_load rfl rfl rfl rfl) ?_
  refine aops_step1 rfl (ev_cmp rfl rfl rfl rfl) ?_
  refine aops_step1 rfl (st_move rfl rfl) ?_
  refine aops_mid 4 (⟨86, [], [(1, .one (.ptr 0 0)), (21, .one (.val (.bool ((a0.N != 0) && (a0.Kind != 1)))))], [(0, some (.box [.val (.int .i64 a0.Kind), .val (.int .i64 a0.N), .val (Sv a0.S), CV.ls c_Int a0.I, CV.ls c_Str a0.L]))]⟩ : ASt) ?_ ?_
  · rcases Md.bool_or ((a0.N != 0)) with q3 | q3
    · skip
      refine aops_yes rfl rfl rfl rfl q3 (ev_field rfl rfl rfl) ?_
      refine aops_yes rfl rfl rfl rfl q3 (ev_load rfl rfl rfl rfl) ?_
      refine aops_yes rfl rfl rfl rfl q3 (ev_cmp rfl rfl rfl rfl) ?_
      refine aops_step1 rfl (st_pick_yes rfl (by first | rfl | exact q3) rfl rfl) ?_
      refine aops_nil ?_
      show Weak _ _
      (refine weak_mk rfl rfl ?_ ?_ rfl <;> repeat' (first | exact trivial | refine ⟨?_, ?_⟩ | exact VLe.refl _ | exact BLe.refl _ | refine VLe.one (CLe.val ?_) | exact VLe.one (CLe.nil _) | exact VLe.one (CLe.emp _))) <;> (first | (rw [q3]; done) | (rw [q3]; rfl) | (simp [q3]; done))
    refine aops_no rfl rfl rfl rfl rfl (by first | decide | (rw [q3]; decide)) ?_
    refine aops_no rfl rfl rfl rfl rfl (by first | decide | (rw [q3]; decide)) ?_
    refine aops_no rfl rfl rfl rfl rfl (by first | decide | (rw [q3]; decide)) ?_
    refine aops_step1 rfl (st_pick_no rfl (by first | rfl | exact q3) rfl rfl) ?_
    refine aops_nil ?_
    show Weak _ _
    (refine weak_mk rfl rfl ?_ ?_ rfl <;> repeat' (first | exact trivial | refine ⟨?_, ?_⟩ | exact VLe.refl _ | exact BLe.refl _ | refine VLe.one (CLe.val ?_) | exact VLe.one (CLe.nil _) | exact VLe.one (CLe.emp _))) <;> (first | (rw [q3]; done) | (rw [q3]; rfl) | (simp [q3]; done))
  change AOps _ _ _ (⟨86, [], [(1, .one (.ptr 0 0)), (21, .one (.val (.bool ((a0.N != 0) && (a0.Kind != 1)))))], [(0, some (.box [.val (.int .i64 a0.Kind), .val (.int .i64 a0.N), .val (Sv a0.S), CV.ls c_Int a0.I, CV.ls c_Str a0.L]))]⟩ : ASt) _
  refine aops_step1 rfl (st_move rfl rfl) ?_
  refine aops_mid 9 (⟨86, [], [(1, .one (.ptr 0 0)), (31, .one (.val (.bool (((a0.N != 0) && (a0.Kind != 1)) && ((a0.Kind != 2) || (a0.N != 1))))))], [(0, some (.box [.val (.int .i64 a0.Kind), .val (.int .i64 a0.N), .val (Sv a0.S), CV.ls c_Int a0.I, CV.ls c_Str a0.L]))]⟩ : ASt) ?_ ?_
  · rcases Md.bool_or (((a0.N != 0) && (a0.Kind != 1))) with q4 | q4
    · skip
      refine aops_yes rfl rfl rfl rfl q4 (ev_field rfl rfl rfl) ?_
      refine aops_yes rfl rfl rfl rfl q4 (ev_load rfl rfl rfl rfl) ?_
      refine aops_yes rfl rfl rfl rfl q4 (ev_cmp rfl rfl rfl rfl) ?_
      refine aops_yes rfl rfl rfl rfl q4 (st_move rfl rfl) ?_
      refine aops_mid 4 (⟨86, [], [(1, .one (.ptr 0 0)), (22, .one (.val (.bool ((a0.N != 0) && (a0.Kind != 1))))), (30, .one (.val (.bool ((a0.Kind != 2) || (a0.N != 1)))))], [(0, some (.box [.val (.int .i64 a0.Kind), .val (.int .i64 a0.N), .val (Sv a0.S), CV.ls c_Int a0.I, CV.ls c_Str a0.L]))]⟩ : ASt) ?_ ?_
      · rcases Md.bool_or ((a0.Kind != 2)) with q5 | q5
        · skip
          refine aops_no rfl rfl rfl rfl rfl (by first | decide | (rw [q5]; decide)) ?_
          refine aops_no rfl rfl rfl rfl rfl (by first | decide | (rw [q5]; decide)) ?_
          refine aops_no rfl rfl rfl rfl rfl (by first | decide | (rw [q5]; decide)) ?_
          refine aops_yes rfl rfl rfl rfl q4 (st_pick_yes rfl (by first | rfl | exact q5) rfl rfl) ?_
          refine aops_nil ?_
          show Weak _ _
          (refine weak_mk rfl rfl ?_ ?_ rfl <;> repeat' (first | exact trivial | refine ⟨?_, ?_⟩ | exact VLe.refl _ | exact BLe.refl _ | refine VLe.one (CLe.val ?_) | exact VLe.one (CLe.nil _) | exact VLe.one (CLe.emp _))) <;> (first | (rw [q5]; done) | (rw [q5]; rfl) | (simp [q5]; done))
        refine aops_yes rfl rfl rfl rfl q5 (ev_field rfl rfl rfl) ?_
        refine aops_yes rfl rfl rfl rfl q5 (ev_load rfl rfl rfl rfl) ?_
        refine aops_yes rfl rfl rfl rfl q5 (ev_cmp rfl rfl rfl rfl) ?_
        refine aops_yes rfl rfl rfl rfl q4 (st_pick_no rfl (by first | rfl | exact q5) rfl rfl) ?_
        refine aops_nil ?_
        show Weak _ _
        (refine weak_mk rfl rfl ?_ ?_ rfl <;> repeat' (first | exact trivial | refine ⟨?_, ?_⟩ | exact VLe.refl _ | exact BLe.refl _ | refine VLe.one (CLe.val ?_) | exact VLe.one (CLe.nil _) | exact VLe.one (CLe.emp _))) <;> (first | (rw [q5]; done) | (rw [q5]; rfl) | (simp [q5]; done))
      change AOps _ _ _ (⟨86, [], [(1, .one (.ptr 0 0)), (22, .one (.val (.bool ((a0.N != 0) && (a0.Kind != 1))))), (30, .one (.val (.bool ((a0.Kind != 2) || (a0.N != 1)))))], [(0, some (.box [.val (.int .i64 a0.Kind), .val (.int .i64 a0.N), .val (Sv a0.S), CV.ls c_Int a0.I, CV.ls c_Str a0.L]))]⟩ : ASt) _
      refine aops_step1 rfl (st_pick_yes rfl (by first | rfl | exact q4) rfl rfl) ?_
      refine aops_nil ?_
      show Weak _ _
      (refine weak_mk rfl rfl ?_ ?_ rfl <;> repeat' (first | exact trivial | refine ⟨?_, ?_⟩ | exact VLe.refl _ | exact BLe.refl _ | refine VLe.one (CLe.val ?_) | exact VLe.one (CLe.nil _) | exact VLe.one (CLe.emp _))) <;> (first | (rw [q4]; done) | (rw [q4]; rfl) | (simp [q4]; done))
    refine aops_no rfl rfl rfl rfl rfl (by first | decide | (rw [q4]; decide)) ?_
    refine aops_no rfl rfl rfl rfl rfl (by first | decide | (rw [q4]; decide)) ?_
    refine aops_no rfl rfl rfl rfl rfl (by first | decide | (rw [q4]; decide)) ?_
    refine aops_no rfl rfl rfl rfl rfl (by first | decide | (rw [q4]; decide)) ?_
    refine aops_und rfl rfl rfl rfl rfl ?_
    refine aops_und rfl rfl rfl rfl rfl ?_
    refine aops_und rfl rfl rfl rfl rfl ?_
    refine aops_no rfl rfl rfl rfl rfl (by first | decide | (rw [q4]; decide)) ?_
    refine aops_step1 rfl (st_pick_no rfl (by first | rfl | exact q4) rfl rfl) ?_
    refine aops_nil ?_
    show Weak _ _
    (refine weak_mk rfl rfl ?_ ?_ rfl <;> repeat' (first | exact trivial | refine ⟨?_, ?_⟩ | exact VLe.refl _ | exact BLe.refl _ | refine VLe.one (CLe.val ?_) | exact VLe.one (CLe.nil _) | exact VLe.one (CLe.emp _))) <;> (first | (rw [q4]; done) | (rw [q4]; rfl) | (simp [q4]; done))
  change AOps _ _ _ (⟨86, [], [(1, .one (.ptr 0 0)), (31, .one (.val (.bool (((a0.N != 0) && (a0.Kind != 1)) && ((a0.Kind != 2) || (a0.N != 1))))))], [(0, some (.box [.val (.int .i64 a0.Kind), .val (.int .i64 a0.N), .val (Sv a0.S), CV.ls c_Int a0.I, CV.ls c_Str a0.L]))]⟩ : ASt) _
  refine aops_step1 rfl (st_assign rfl rfl) ?_
  refine aops_nil ?_
  refine aw_cond rfl (fun c6 => ?_) (fun c6 => ?_)
  · replace h := Md.cond_t h c6
    refine aw_seq ?_
    refine aw_region ?_
    refine aops_step1 rfl (st_assign rfl rfl) ?_
    refine aops_nil ?_
    cases Option.some.inj h
    refine aw_ret ⟨rfl, ret_v (.inl ⟨_, rfl, rfl, fun _ e => nomatch e⟩) rfl rfl rfl ?_⟩
    (repeat' (first | exact TLe.refl _ | exact VLe.refl _ | exact CLe.refl _ | exact All2.nil | refine TLe.tup ?_ | refine TLe.v ?_ | refine All2.cons ?_ ?_ | refine VLe.agg ?_ | refine VLe.one ?_ | exact CLe.nil _ | exact CLe.emp _ | refine CLe.val ?_ | refine CLe.slc ?_ ?_))
  replace h := Md.cond_f h c6
  refine aw_seq ?_
  refine aw_seq ?_
  refine aw_region ?_
  refine aops_step1 rfl (ev_field rfl rfl rfl) ?_
  refine aops_step1 rfl (ev_load rfl rfl rfl rfl) ?_
  refine aops_step1 rfl (st_str_ne rfl rfl rfl) ?_
  refine aops_step1 rfl (st_move rfl rfl) ?_
  refine aops_mid 4 (⟨86, [], [(1, .one (.ptr 0 0)), (40, .one (.val (.bool ((!(decide (a0.S = []))) && (a0.Kind != 3)))))], [(0, some (.box [.val (.int .i64 a0.Kind), .val (.int .i64 a0.N), .val (Sv a0.S), CV.ls c_Int a0.I, CV.ls c_Str a0.L]))]⟩ : ASt) ?_ ?_
  · rcases Md.bool_or ((!(decide (a0.S = [])))) with q7 | q7
    · skip
      refine aops_yes rfl rfl rfl rfl q7 (ev_field rfl rfl rfl) ?_
      refine aops_yes rfl rfl rfl rfl q7 (ev_load rfl rfl rfl rfl) ?_
      refine aops_yes rfl rfl rfl rfl q7 (ev_cmp rfl rfl rfl rfl) ?_
      refine aops_step1 rfl (st_pick_yes rfl (by first | rfl | exact q7) rfl rfl) ?_
      refine aops_nil ?_
      show Weak _ _
      (refine weak_mk rfl rfl ?_ ?_ rfl <;> repeat' (first | exact trivial | refine ⟨?_, ?_⟩ | exact VLe.refl _ | exact BLe.refl _ | refine VLe.one (CLe.val ?_) | exact VLe.one (CLe.nil _) | exact VLe.one (CLe.emp _))) <;> (first | (rw [q7]; done) | (rw [q7]; rfl) | (simp [q7]; done))
    refine aops_no rfl rfl rfl rfl rfl (by first | decide | (rw [q7]; decide)) ?_
    refine aops_no rfl rfl rfl rfl rfl (by first | decide | (rw [q7]; decide)) ?_
    refine aops_no rfl rfl rfl rfl rfl (by first | decide | (rw [q7]; decide)) ?_
    refine aops_step1 rfl (st_pick_no rfl (by first | rfl | exact q7) rfl rfl) ?_
    refine aops_nil ?_
    show Weak _ _
    (refine weak_mk rfl rfl ?_ ?_ rfl <;> repeat' (first | exact trivial | refine ⟨?_, ?_⟩ | exact VLe.refl _ | exact BLe.refl _ | refine VLe.one (CLe.val ?_) | exact VLe.one (CLe.nil _) | exact VLe.one (CLe.emp _))) <;> (first | (rw [q7]; done) | (rw [q7]; rfl) | (simp [q7]; done))
  change AOps _ _ _ (⟨86, [], [(1, .one (.ptr 0 0)), (40, .one (.val (.bool ((!(decide (a0.S = []))) && (a0.Kind != 3)))))], [(0, some (.box [.val (.int .i64 a0.Kind), .val (.int .i64 a0.N), .val (Sv a0.S), CV.ls c_Int a0.I, CV.ls c_Str a0.L]))]⟩ : ASt) _
  refine aops_step1 rfl (st_assign rfl rfl) ?_
  refine aops_nil ?_
  refine aw_cond rfl (fun c8 => ?_) (fun c8 => ?_)
  · replace h := Md.cond_t h c8
    refine aw_skip ?_
    refine aw_yes rfl (c8) ?_
    refine aw_seq ?_
    refine aw_region ?_
    refine aops_step1 rfl (st_assign rfl rfl) ?_
    refine aops_nil ?_
    cases Option.some.inj h
    refine aw_ret ⟨rfl, ret_v (.inl ⟨_, rfl, rfl, fun _ e => nomatch e⟩) rfl rfl rfl ?_⟩
    (repeat' (first | exact TLe.refl _ | exact VLe.refl _ | exact CLe.refl _ | exact All2.nil | refine TLe.tup ?_ | refine TLe.v ?_ | refine All2.cons ?_ ?_ | refine VLe.agg ?_ | refine VLe.one ?_ | exact CLe.nil _ | exact CLe.emp _ | refine CLe.val ?_ | refine CLe.slc ?_ ?_))
  replace h := Md.cond_f h c8
  refine aw_seq ?_
  refine aw_region ?_
  refine aops_step1 rfl (ev_field rfl rfl rfl) ?_
  refine aops_step1 rfl (ev_load rfl rfl rfl rfl) ?_
  refine aops_step1 rfl (ev_len_slc rfl rfl) ?_
  refine aops_step1 rfl (ev_cmp rfl rfl rfl rfl) ?_
  refine aops_step1 rfl (st_move rfl rfl) ?_
  refine aops_mid 4 (⟨86, [], [(1, .one (.ptr 0 0)), (32, .one (.val (.bool ((!(decide (a0.S = []))) && (a0.Kind != 3))))), (49, .one (.val (.bool ((decide (((a0.I.length : Nat) : Int) > 0)) && (a0.Kind != 4)))))], [(0, some (.box [.val (.int .i64 a0.Kind), .val (.int .i64 a0.N), .val (Sv a0.S), CV.ls c_Int a0.I, CV.ls c_Str a0.L]))]⟩ : ASt) ?_ ?_
  · rcases Md.bool_or ((decide (((a0.I.length : Nat) : Int) > 0))) with q9 | q9
    · skip
      refine aops_yes rfl rfl rfl rfl q9 (ev_field rfl rfl rfl) ?_
      refine aops_yes rfl rfl rfl rfl q9 (ev_load rfl rfl rfl rfl) ?_
      refine aops_yes rfl rfl rfl rfl q9 (ev_cmp rfl rfl rfl rfl) ?_
      refine aops_step1 rfl (st_pick_yes rfl (by first | rfl | exact q9) rfl rfl) ?_
      refine aops_nil ?_
      show Weak _ _
      (refine weak_mk rfl rfl ?_ ?_ rfl <;> repeat' (first | exact trivial | refine ⟨?_, ?_⟩ | exact VLe.refl _ | exact BLe.refl _ | refine VLe.one (CLe.val ?_) | exact VLe.one (CLe.nil _) | exact VLe.one (CLe.emp _))) <;> (first | (rw [q9]; done) | (rw [q9]; rfl) | (simp [q9]; done))
    refine aops_no rfl rfl rfl rfl rfl (by first | decide | (rw [q9]; decide)) ?_
    refine aops_no rfl rfl rfl rfl rfl (by first | decide | (rw [q9]; decide)) ?_
    refine aops_no rfl rfl rfl rfl rfl (by first | decide | (rw [q9]; decide)) ?_
    refine aops_step1 rfl (st_pick_no rfl (by first | rfl | exact q9) rfl rfl) ?_
    refine aops_nil ?_
    show Weak _ _
    (refine weak_mk rfl rfl ?_ ?_ rfl <;> repeat' (first | exact trivial | refine ⟨?_, ?_⟩ | exact VLe.refl _ | exact BLe.refl _ | refine VLe.one (CLe.val ?_) | exact VLe.one (CLe.nil _) | exact VLe.one (CLe.emp _))) <;> (first | (rw [q9]; done) | (rw [q9]; rfl) | (simp [q9]; done))
  change AOps _ _ _ (⟨86, [], [(1, .one (.ptr 0 0)), (32, .one (.val (.bool ((!(decide (a0.S = []))) && (a0.Kind != 3))))), (49, .one (.val (.bool ((decide (((a0.I.length : Nat) : Int) > 0)) && (a0.Kind != 4)))))], [(0, some (.box [.val (.int .i64 a0.Kind), .val (.int .i64 a0.N), .val (Sv a0.S), CV.ls c_Int a0.I, CV.ls c_Str a0.L]))]⟩ : ASt) _
  refine aops_step1 rfl (st_assign rfl rfl) ?_
  refine aops_nil ?_
  refine aw_cond rfl (fun c10 => ?_) (fun c10 => ?_)
  · replace h := Md.cond_t h c10
    refine aw_skip ?_
    refine aw_yes rfl (c10) ?_
    refine aw_seq ?_
    refine aw_region ?_
    refine aops_step1 rfl (st_assign rfl rfl) ?_
    refine aops_nil ?_
    cases Option.some.inj h
    refine aw_ret ⟨rfl, ret_v (.inl ⟨_, rfl, rfl, fun _ e => nomatch e⟩) rfl rfl rfl ?_⟩
    (repeat' (first | exact TLe.refl _ | exact VLe.refl _ | exact CLe.refl _ | exact All2.nil | refine TLe.tup ?_ | refine TLe.v ?_ | refine All2.cons ?_ ?_ | refine VLe.agg ?_ | refine VLe.one ?_ | exact CLe.nil _ | exact CLe.emp _ | refine CLe.val ?_ | refine CLe.slc ?_ ?_))
  replace h := Md.cond_f h c10
  refine aw_region ?_
  refine aops_step1 rfl (ev_field rfl rfl rfl) ?_
  refine aops_step1 rfl (ev_load rfl rfl rfl rfl) ?_
  refine aops_step1 rfl (ev_len_slc rfl rfl) ?_
  refine aops_step1 rfl (ev_cmp rfl rfl rfl rfl) ?_
  refine aops_step1 rfl (st_move rfl rfl) ?_
  refine aops_mid 4 (⟨86, [], [(1, .one (.ptr 0 0)), (32, .one (.val (.bool ((decide (((a0.I.length : Nat) : Int) > 0)) && (a0.Kind != 4))))), (58, .one (.val (.bool ((decide (((a0.L.length : Nat) : Int) > 0)) && (a0.Kind != 5)))))], [(0, some (.box [.val (.int .i64 a0.Kind), .val (.int .i64 a0.N), .val (Sv a0.S), CV.ls c_Int a0.I, CV.ls c_Str a0.L]))]⟩ : ASt) ?_ ?_
  · rcases Md.bool_or ((decide (((a0.L.length : Nat) : Int) > 0))) with q11 | q11
    · skip
      refine aops_yes rfl rfl rfl rfl q11 (ev_field rfl rfl rfl) ?_
      refine aops_yes rfl rfl rfl rfl q11 (ev_load rfl rfl rfl rfl) ?_
      refine aops_yes rfl rfl rfl rfl q11 (ev_cmp rfl rfl rfl rfl) ?_
      refine aops_step1 rfl (st_pick_yes rfl (by first | rfl | exact q11) rfl rfl) ?_
      refine aops_nil ?_
      show Weak _ _
      (refine weak_mk rfl rfl ?_ ?_ rfl <;> repeat' (first | exact trivial | refine ⟨?_, ?_⟩ | exact VLe.refl _ | exact BLe.refl _ | refine VLe.one (CLe.val ?_) | exact VLe.one (CLe.nil _) | exact VLe.one (CLe.emp _))) <;> (first | (rw [q11]; done) | (rw [q11]; rfl) | (simp [q11]; done))
    refine aops_no rfl rfl rfl rfl rfl (by first | decide | (rw [q11]; decide)) ?_
    refine aops_no rfl rfl rfl rfl rfl (by first | decide | (rw [q11]; decide)) ?_
    refine aops_no rfl rfl rfl rfl rfl (by first | decide | (rw [q11]; decide)) ?_
    refine aops_step1 rfl (st_pick_no rfl (by first | rfl | exact q11) rfl rfl) ?_
    refine aops_nil ?_
    show Weak _ _
    (refine weak_mk rfl rfl ?_ ?_ rfl <;> repeat' (first | exact trivial | refine ⟨?_, ?_⟩ | exact VLe.refl _ | exact BLe.refl _ | refine VLe.one (CLe.val ?_) | exact VLe.one (CLe.nil _) | exact VLe.one (CLe.emp _))) <;> (first | (rw [q11]; done) | (rw [q11]; rfl) | (simp [q11]; done))
  change AOps _ _ _ (⟨86, [], [(1, .one (.ptr 0 0)), (32, .one (.val (.bool ((decide (((a0.I.length : Nat) : Int) > 0)) && (a0.Kind != 4))))), (58, .one (.val (.bool ((decide (((a0.L.length : Nat) : Int) > 0)) && (a0.Kind != 5)))))], [(0, some (.box [.val (.int .i64 a0.Kind), .val (.int .i64 a0.N), .val (Sv a0.S), CV.ls c_Int a0.I, CV.ls c_Str a0.L]))]⟩ : ASt) _
  refine aops_step1 rfl (st_assign rfl rfl) ?_
  refine aops_nil ?_
  refine aw_cond rfl (fun c12 => ?_) (fun c12 => ?_)
  · replace h := Md.cond_t h c12
    refine aw_seq ?_
    refine aw_region ?_
    refine aops_step1 rfl (st_assign rfl rfl) ?_
    refine aops_nil ?_
    cases Option.some.inj h
    refine aw_ret ⟨rfl, ret_v (.inl ⟨_, rfl, rfl, fun _ e => nomatch e⟩) rfl rfl rfl ?_⟩
    (repeat' (first | exact TLe.refl _ | exact VLe.refl _ | exact CLe.refl _ | exact All2.nil | refine TLe.tup ?_ | refine TLe.v ?_ | refine All2.cons ?_ ?_ | refine VLe.agg ?_ | refine VLe.one ?_ | exact CLe.nil _ | exact CLe.emp _ | refine CLe.val ?_ | refine CLe.slc ?_ ?_))
  replace h := Md.cond_f h c12
  refine aw_skip ?_
  refine aw_seq ?_
  refine aw_seq ?_
  refine aw_region ?_
  refine aops_step1 rfl (ev_field rfl rfl rfl) ?_
  refine aops_step1 rfl (ev_load rfl rfl rfl rfl) ?_
  refine aops_step1 rfl (st_len_str rfl rfl) ?_
  refine aops_step1 rfl (ev_cmp rfl rfl rfl rfl) ?_
  refine aops_step1 rfl (st_move rfl rfl) ?_
  refine aops_mid 5 (⟨86, [], [(1, .one (.ptr 0 0)), (68, .one (.val (.bool ((decide (((a0.S.length : Nat) : Int) > 64)) || (decide (((a0.I.length : Nat) : Int) > 16))))))], [(0, some (.box [.val (.int .i64 a0.Kind), .val (.int .i64 a0.N), .val (Sv a0.S), CV.ls c_Int a0.I, CV.ls c_Str a0.L]))]⟩ : ASt) ?_ ?_
  · rcases Md.bool_or ((decide (((a0.S.length : Nat) : Int) > 64))) with q13 | q13
    · skip
      refine aops_no rfl rfl rfl rfl rfl (by first | decide | (rw [q13]; decide)) ?_
      refine aops_no rfl rfl rfl rfl rfl (by first | decide | (rw [q13]; decide)) ?_
      refine aops_no rfl rfl rfl rfl rfl (by first | decide | (rw [q13]; decide)) ?_
      refine aops_no rfl rfl rfl rfl rfl (by first | decide | (rw [q13]; decide)) ?_
      refine aops_step1 rfl (st_pick_yes rfl (by first | rfl | exact q13) rfl rfl) ?_
      refine aops_nil ?_
      show Weak _ _
      (refine weak_mk rfl rfl ?_ ?_ rfl <;> repeat' (first | exact trivial | refine ⟨?_, ?_⟩ | exact VLe.refl _ | exact BLe.refl _ | refine VLe.one (CLe.val ?_) | exact VLe.one (CLe.nil _) | exact VLe.one (CLe.emp _))) <;> (first | (rw [q13]; done) | (rw [q13]; rfl) | (simp [q13]; done))
    refine aops_yes rfl rfl rfl rfl q13 (ev_field rfl rfl rfl) ?_
    refine aops_yes rfl rfl rfl rfl q13 (ev_load rfl rfl rfl rfl) ?_
    refine aops_yes rfl rfl rfl rfl q13 (ev_len_slc rfl rfl) ?_
    refine aops_yes rfl rfl rfl rfl q13 (ev_cmp rfl rfl rfl rfl) ?_
    refine aops_step1 rfl (st_pick_no rfl (by first | rfl | exact q13) rfl rfl) ?_
    refine aops_nil ?_
    show Weak _ _
    (refine weak_mk rfl rfl ?_ ?_ rfl <;> repeat' (first | exact trivial | refine ⟨?_, ?_⟩ | exact VLe.refl _ | exact BLe.refl _ | refine VLe.one (CLe.val ?_) | exact VLe.one (CLe.nil _) | exact VLe.one (CLe.emp _))) <;> (first | (rw [q13]; done) | (rw [q13]; rfl) | (simp [q13]; done))
  change AOps _ _ _ (⟨86, [], [(1, .one (.ptr 0 0)), (68, .one (.val (.bool ((decide (((a0.S.length : Nat) : Int) > 64)) || (decide (((a0.I.length : Nat) : Int) > 16))))))], [(0, some (.box [.val (.int .i64 a0.Kind), .val (.int .i64 a0.N), .val (Sv a0.S), CV.ls c_Int a0.I, CV.ls c_Str a0.L]))]⟩ : ASt) _
  refine aops_step1 rfl (st_move rfl rfl) ?_
  refine aops_mid 5 (⟨86, [], [(1, .one (.ptr 0 0)), (74, .one (.val (.bool (((decide (((a0.S.length : Nat) : Int) > 64)) || (decide (((a0.I.length : Nat) : Int) > 16))) || (decide (((a0.L.length : Nat) : Int) > 16))))))], [(0, some (.box [.val (.int .i64 a0.Kind), .val (.int .i64 a0.N), .val (Sv a0.S), CV.ls c_Int a0.I, CV.ls c_Str a0.L]))]⟩ : ASt) ?_ ?_
  · rcases Md.bool_or (((decide (((a0.S.length : Nat) : Int) > 64)) || (decide (((a0.I.length : Nat) : Int) > 16)))) with q14 | q14
    · skip
      refine aops_no rfl rfl rfl rfl rfl (by first | decide | (rw [q14]; decide)) ?_
      refine aops_no rfl rfl rfl rfl rfl (by first | decide | (rw [q14]; decide)) ?_
      refine aops_no rfl rfl rfl rfl rfl (by first | decide | (rw [q14]; decide)) ?_
      refine aops_no rfl rfl rfl rfl rfl (by first | decide | (rw [q14]; decide)) ?_
      refine aops_step1 rfl (st_pick_yes rfl (by first | rfl | exact q14) rfl rfl) ?_
      refine aops_nil ?_
      show Weak _ _
      (refine weak_mk rfl rfl ?_ ?_ rfl <;> repeat' (first | exact trivial | refine ⟨?_, ?_⟩ | exact VLe.refl _ | exact BLe.refl _ | refine VLe.one (CLe.val ?_) | exact VLe.one (CLe.nil _) | exact VLe.one (CLe.emp _))) <;> (first | (rw [q14]; done) | (rw [q14]; rfl) | (simp [q14]; done))
    refine aops_yes rfl rfl rfl rfl q14 (ev_field rfl rfl rfl) ?_
    refine aops_yes rfl rfl rfl rfl q14 (ev_load rfl rfl rfl rfl) ?_
    refine aops_yes rfl rfl rfl rfl q14 (ev_len_slc rfl rfl) ?_
    refine aops_yes rfl rfl rfl rfl q14 (ev_cmp rfl rfl rfl rfl) ?_
    refine aops_step1 rfl (st_pick_no rfl (by first | rfl | exact q14) rfl rfl) ?_
    refine aops_nil ?_
    show Weak _ _
    (refine weak_mk rfl rfl ?_ ?_ rfl <;> repeat' (first | exact trivial | refine ⟨?_, ?_⟩ | exact VLe.refl _ | exact BLe.refl _ | refine VLe.one (CLe.val ?_) | exact VLe.one (CLe.nil _) | exact VLe.one (CLe.emp _))) <;> (first | (rw [q14]; done) | (rw [q14]; rfl) | (simp [q14]; done))
  change AOps _ _ _ (⟨86, [], [(1, .one (.ptr 0 0)), (74, .one (.val (.bool (((decide (((a0.S.length : Nat) : Int) > 64)) || (decide (((a0.I.length : Nat) : Int) > 16))) || (decide (((a0.L.length : Nat) : Int) > 16))))))], [(0, some (.box [.val (.int .i64 a0.Kind), .val (.int .i64 a0.N), .val (Sv a0.S), CV.ls c_Int a0.I, CV.ls c_Str a0.L]))]⟩ : ASt) _
  refine aops_nil ?_
  refine aw_cond rfl (fun c15 => ?_) (fun c15 => ?_)
  · replace h := Md.cond_t h c15
    refine aw_seq ?_
    refine aw_region ?_
    refine aops_step1 rfl (st_assign rfl rfl) ?_
    refine aops_nil ?_
    cases Option.some.inj h
    refine aw_ret ⟨rfl, ret_v (.inl ⟨_, rfl, rfl, fun _ e => nomatch e⟩) rfl rfl rfl ?_⟩
    (repeat' (first | exact TLe.refl _ | exact VLe.refl _ | exact CLe.refl _ | exact All2.nil | refine TLe.tup ?_ | refine TLe.v ?_ | refine All2.cons ?_ ?_ | refine VLe.agg ?_ | refine VLe.one ?_ | exact CLe.nil _ | exact CLe.emp _ | refine CLe.val ?_ | refine CLe.slc ?_ ?_))
  replace h := Md.cond_f h c15
  refine aw_skip ?_
  refine aw_seq ?_
  refine aw_seq ?_
  refine aw_region ?_
  refine aops_step1 rfl (ev_field rfl rfl rfl) ?_
  refine aops_step1 rfl (ev_load rfl rfl rfl rfl) ?_
  refine aops_step1 rfl (ev_len_slc rfl rfl) ?_
  refine aops_step1 rfl (st_move rfl rfl) ?_
  refine aops_nil ?_
  refine aw_block ?_
  obtain ⟨o16, ho16, h⟩ := Md.bind_s h
  refine aw_loop_x (ι := {p : Nat × Nat // wire_ValidValue_loop1 k a0 p.1 p.2 = some o16}) (fun p => (⟨86, [], [(76, .one (CV.ls c_Str a0.L)), (77, .one (.val (.int .i64 ((a0.L.length : Nat) : Int)))), (78, .one (.val (.int .i64 ((p.1.2 : Nat) : Int))))], []⟩ : ASt)) (fun p => p.1.1) ⟨(k, 0), ho16⟩ (by (refine weak_mk rfl rfl ?_ ?_ rfl <;> repeat' (first | exact trivial | refine ⟨?_, ?_⟩ | exact VLe.refl _ | exact BLe.refl _ | refine VLe.one (CLe.val ?_) | exact VLe.one (CLe.nil _) | exact VLe.one (CLe.emp _)))) 1 (ε := Unit) (fun x => (⟨86, [], [], []⟩ : ASt)) (fun x => Sum.inl x = o16) (fun _ _ w h => aw_weak w h) ?_ ?_
  · intro x16_0 hI16
    subst hI16
    replace h := Md.onS_l h
    change AW _ _ (⟨86, [], [], []⟩ : ASt) _
    refine aw_seq ?_
    refine aw_region ?_
    refine aops_step1 rfl (st_assign rfl rfl) ?_
    refine aops_nil ?_
    cases Option.some.inj h
    refine aw_ret ⟨rfl, ret_v (.inl ⟨_, rfl, rfl, fun _ e => nomatch e⟩) rfl rfl rfl ?_⟩
    (repeat' (first | exact TLe.refl _ | exact VLe.refl _ | exact CLe.refl _ | exact All2.nil | refine TLe.tup ?_ | refine TLe.v ?_ | refine All2.cons ?_ ?_ | refine VLe.agg ?_ | refine VLe.one ?_ | exact CLe.nil _ | exact CLe.emp _ | refine CLe.val ?_ | refine CLe.slc ?_ ?_))
  intro p16
  obtain ⟨⟨n16, s16_0⟩, l16⟩ := p16
  change AW _ _ (⟨86, [], [(76, .one (CV.ls c_Str a0.L)), (77, .one (.val (.int .i64 ((a0.L.length : Nat) : Int)))), (78, .one (.val (.int .i64 ((s16_0 : Nat) : Int))))], []⟩ : ASt) _
  replace l16 : wire_ValidValue_loop1 k a0 n16 s16_0 = some o16 := l16
  rcases n16 with _ | n16
  · exact absurd (show none = some o16 from l16) nofun
  rw [wire_ValidValue_loop1] at l16
  refine aw_seq ?_
  refine aw_region ?_
  refine aops_step1 rfl (ev_cmp rfl rfl rfl rfl) ?_
  refine aops_nil ?_
  refine aw_seq ?_
  refine aw_cond rfl (fun c17 => ?_) (fun c17 => ?_)
  · replace l16 := Md.cond_t l16 c17
    refine aw_skip ?_
    refine aw_seq ?_
    refine aw_block ?_
    refine aw_seq ?_
    refine aw_region ?_
    obtain ⟨g18, l16⟩ := Md.ifp_s l16
    refine aops_step1 rfl (ev_index_in rfl rfl rfl g18 rfl rfl) ?_
    refine aops_step1 rfl (ev_load_in rfl rfl rfl) ?_
    refine aops_step1 rfl (st_assign rfl rfl) ?_
    refine aops_nil ?_
    refine aw_seq ?_
    refine aw_region ?_
    refine aops_step1 rfl (st_move rfl rfl) ?_
    refine aops_step1 rfl (st_len_str rfl rfl) ?_
    refine aops_step1 rfl (ev_cmp rfl rfl rfl rfl) ?_
    refine aops_nil ?_
    refine aw_cond rfl (fun c19 => ?_) (fun c19 => ?_)
    · replace l16 := Md.cond_t l16 c19
      refine aw_seq ?_
      refine aw_region ?_
      refine aops_step1 rfl (st_assign rfl rfl) ?_
      refine aops_nil ?_
      cases Option.some.inj l16
      replace h := Md.onS_r h
      cases Option.some.inj h
      refine aw_ret ⟨rfl, ret_v (.inl ⟨_, rfl, rfl, fun _ e => nomatch e⟩) rfl rfl rfl ?_⟩
      (repeat' (first | exact TLe.refl _ | exact VLe.refl _ | exact CLe.refl _ | exact All2.nil | refine TLe.tup ?_ | refine TLe.v ?_ | refine All2.cons ?_ ?_ | refine VLe.agg ?_ | refine VLe.one ?_ | exact CLe.nil _ | exact CLe.emp _ | refine CLe.val ?_ | refine CLe.slc ?_ ?_))
    replace l16 := Md.cond_f l16 c19
    refine aw_skip ?_
    refine aw_region ?_
    obtain ⟨g20, l16⟩ := Md.ifp_s l16
    refine aops_step1 rfl (ev_add rfl rfl rfl (Md.nat_add g20)) ?_
    refine aops_step1 rfl (st_move rfl rfl) ?_
    refine aops_nil ?_
    exact ⟨⟨(n16, (s16_0 + 1)), l16⟩, Nat.lt_succ_self _, (by (refine weak_mk rfl rfl ?_ ?_ rfl <;> repeat' (first | exact trivial | refine ⟨?_, ?_⟩ | exact VLe.refl _ | exact BLe.refl _ | refine VLe.one (CLe.val ?_) | exact VLe.one (CLe.nil _) | exact VLe.one (CLe.emp _))))⟩
  replace l16 := Md.cond_f l16 c17
  refine aw_exit ?_
  show ∃ _x : Unit, _ = _ ∧ Weak _ _
  exact ⟨(), Option.some.inj l16, (by (refine weak_mk rfl rfl ?_ ?_ rfl <;> repeat' (first | exact trivial | refine ⟨?_, ?_⟩ | exact VLe.refl _ | exact BLe.refl _ | refine VLe.one (CLe.val ?_) | exact VLe.one (CLe.nil _) | exact VLe.one (CLe.emp _))))⟩
set_option maxHeartbeats 2000000 in
theorem wire_AppendValue_fn (k : Nat) (a0 : List UInt8) (a1 : Value) (r : (List UInt8)) (h : wire_AppendValue k a0 a1 = some r) : FnC Try.prog 38 [.one (CV.ls byC a0), .agg [.val (.int .i64 a1.Kind), .val (.int .i64 a1.N), .val (Sv a1.S), CV.ls c_Int a1.I, CV.ls c_Str a1.L]] [] (Det (.one (CV.ls byC r)) []) := by
  unfold wire_AppendValue at h
  refine fn_intro' 51 Try.func38 rfl rfl rfl ?_
  refine aw_seq ?_
  refine aw_region ?_
  refine aops_step1 rfl (st_box 0 rfl rfl rfl rfl) ?_
  refine aops_step1 rfl (st_assign rfl rfl) ?_
  refine aops_nil ?_
  refine aw_seq ?_
  refine aw_seq ?_
  refine aw_region ?_
  refine aops_step1 rfl (ev_loads (ds := [_, _, _, _, _]) rfl rfl rfl rfl rfl) ?_
  obtain ⟨x1, hx1, h⟩ := Md.bind_s h
  refine aops_step1 rfl (ev_call_v (wire_ValidValue_fn k a1 x1 hx1) rfl [] (by repeat' (first | exact All2.nil | refine All2.cons ?_ ?_ | refine ArgV.one ?_ | refine ArgV.agg ?_ | exact ArgC.mk rfl | exact ArgC.lend rfl (by simp) | exact ArgC.le (CLe.nil _) rfl | exact ArgC.le (CLe.emp _) rfl | exact ArgC.le (CLe.any _) rfl)) rfl rfl rfl (.inl rfl) rfl) ?_
  refine aops_step1 rfl (ev_not rfl rfl) ?_
  refine aops_nil ?_
  refine aw_cond rfl (fun c2 => ?_) (fun c2 => ?_)
  · replace h := Md.cond_t h c2
    refine aw_seq ?_
    refine aw_region ?_
    refine aops_step1 rfl (st_assign rfl rfl) ?_
    refine aops_nil ?_
    cases Option.some.inj h
    refine aw_ret ⟨rfl, ret_v (.inl ⟨_, rfl, rfl, fun _ e => nomatch e⟩) rfl rfl rfl ?_⟩
    (repeat' (first | exact TLe.refl _ | exact VLe.refl _ | exact CLe.refl _ | exact All2.nil | refine TLe.tup ?_ | refine TLe.v ?_ | refine All2.cons ?_ ?_ | refine VLe.agg ?_ | refine VLe.one ?_ | exact CLe.nil _ | exact CLe.emp _ | refine CLe.val ?_ | refine CLe.slc ?_ ?_))
  replace h := Md.cond_f h c2
  refine aw_skip ?_
  obtain ⟨x3, hx3, h⟩ := Md.bind_s h
  obtain ⟨g4, h⟩ := Md.ifp_s h
  refine aw_seq ?_
  apply aw_draw 6 ((⟨[], .one (CV.ls byC a0)⟩ : Add) :: ⟨[(1, some (.row 5 1 x3.length (lsEl byC x3)))], .one (.own 1)⟩ :: ⟨[], .one (.ptr 0 _)⟩ :: ⟨[], .one (.val (.int .i64 a1.Kind))⟩ :: ⟨[], .one (.val (.int .u8 (((UInt8.ofInt a1.Kind)).toNat : Int)))⟩ :: ⟨[], .one (CV.ls byC [(UInt8.ofInt a1.Kind)])⟩ :: []) (by decide) rfl ?hk1x ?hf1x ?ho1x ?hr1x
  case ho1x =>
   refine ⟨⟨[], (by decide +kernel), fun S hle hfr => ?_⟩, ?_⟩
   · exact .inl ⟨.inl ⟨rfl, rfl⟩, st_move (hle.ev rfl (by nofun)) (hle.d rfl)⟩
   refine ⟨⟨0 :: [], (by decide +kernel), fun S hle hfr => ?_⟩, ?_⟩
   · exact .inl ⟨.inl ⟨rfl, rfl⟩, st_call_r (r' := .one (.own 1)) 1 (hfr _ (List.mem_singleton.2 rfl)) (wire_extend_fn k a0 16 x3 hx3) (map_ev (.cons (hle.ev rfl (by nofun)) (.cons (hle.ev rfl (by nofun)) (.nil)))) [] (by repeat' (first | exact All2.nil | refine All2.cons ?_ ?_ | refine ArgV.one ?_ | refine ArgV.agg ?_ | exact ArgC.mk rfl | exact ArgC.lend (hle.heap _ _ rfl) (by simp) | exact ArgC.le (CLe.nil _) rfl | exact ArgC.le (CLe.emp _) rfl | exact ArgC.le (CLe.any _) rfl)) rfl rfl rfl (.inl rfl) (hle.d rfl) rfl⟩
   refine ⟨⟨[], (by decide +kernel), fun S hle hfr => ?_⟩, ?_⟩
   · exact .inl ⟨.inl ⟨rfl, rfl⟩, ev_field (hle.ev rfl (by nofun)) rfl (hle.d rfl)⟩
   refine ⟨⟨2 :: [], (by decide +kernel), fun S hle hfr => ?_⟩, ?_⟩
   · exact .inl ⟨.inl ⟨rfl, rfl⟩, ev_load (hle.ev rfl (by nofun)) (hle.heap _ _ rfl) rfl (hle.d rfl)⟩
   refine ⟨⟨3 :: 2 :: [], (by decide +kernel), fun S hle hfr => ?_⟩, ?_⟩
   · exact .inl ⟨.inl ⟨rfl, rfl⟩, st_conv_int (hle.ev rfl (by nofun)) (hle.d rfl) Try.underlying3 Try.underlying5 (Md.ofInt_u8 a1.Kind)⟩
   refine ⟨⟨4 :: 3 :: 2 :: [], (by decide +kernel), fun S hle hfr => ?_⟩, ?_⟩
   · exact .inl ⟨.inl ⟨rfl, rfl⟩, st_slice_lit_z (el := lsEl byC [(UInt8.ofInt a1.Kind)]) (map_ev2 (.cons (hle.ev rfl (by nofun)) (.nil))) rfl rfl rfl rfl rfl rfl (lit_el byC 1 [(UInt8.ofInt a1.Kind)] (fun _ => rfl)) (hle.d rfl)⟩
   exact trivial
  case hk1x => rfl
  case hf1x => rfl
  refine aops_step1 rfl (st_app_ls (f := byC) x3 [(UInt8.ofInt a1.Kind)] (fun _ => rfl) rfl rfl (.inl rfl) (by omega) (by omega) rfl) ?_
  refine aops_step1 rfl (st_assign rfl rfl) ?_
  refine aops_nil ?_
  refine aw_seq ?_
  refine aw_seq ?_
  refine aw_region ?_
  refine aops_step1 rfl (ev_field rfl rfl rfl) ?_
  refine aops_step1 rfl (ev_load rfl rfl rfl rfl) ?_
  refine aops_nil ?_
  refine aw_block ?_
  refine aw_seq ?_
  refine aw_region ?_
  refine aops_step1 rfl (ev_cmp rfl rfl rfl rfl) ?_
  refine aops_step1 rfl (st_assign rfl rfl) ?_
  refine aops_nil ?_
  refine aw_cond rfl (fun c5 => ?_) (fun c5 => ?_)
  · replace h := Md.cond_t h c5
    refine aw_seq ?_
    refine aw_region ?_
    refine aops_step1 rfl (st_move rfl rfl) ?_
    refine aops_step1 rfl (ev_field rfl rfl rfl) ?_
    refine aops_step1 rfl (ev_load rfl rfl rfl rfl) ?_
    obtain ⟨x6, hx6, h⟩ := Md.bind_s h
    refine aops_step1 rfl (st_call_o (r' := .one (.own 1)) 1 rfl (wire_putInt_fn k (x3 ++ [(UInt8.ofInt a1.Kind)]) a1.N x6 hx6) rfl [] (by repeat' (first | exact All2.nil | refine All2.cons ?_ ?_ | refine ArgV.one ?_ | refine ArgV.agg ?_ | exact ArgC.mk rfl | exact ArgC.lend rfl (by simp) | exact ArgC.le (CLe.nil _) rfl | exact ArgC.le (CLe.emp _) rfl | exact ArgC.le (CLe.any _) rfl)) rfl rfl rfl (.inl rfl) rfl rfl) ?_
    refine aops_step1 rfl (st_assign rfl rfl) ?_
    refine aops_nil ?_
    cases Option.some.inj h
    refine aw_freeze 1 rfl ?_
    refine aw_ret ⟨rfl, ret_v (.inl ⟨_, rfl, rfl, fun _ e => nomatch e⟩) rfl rfl rfl ?_⟩
    (repeat' (first | exact TLe.refl _ | exact VLe.refl _ | exact CLe.refl _ | exact All2.nil | refine TLe.tup ?_ | refine TLe.v ?_ | refine All2.cons ?_ ?_ | refine VLe.agg ?_ | refine VLe.one ?_ | exact CLe.nil _ | exact CLe.emp _ | refine CLe.val ?_ | refine CLe.slc ?_ ?_))
  replace h := Md.cond_f h c5
  refine aw_seq ?_
  refine aw_region ?_
  refine aops_step1 rfl (ev_cmp rfl rfl rfl rfl) ?_
  refine aops_step1 rfl (st_assign rfl rfl) ?_
  refine aops_nil ?_
  refine aw_cond rfl (fun c7 => ?_) (fun c7 => ?_)
  · replace h := Md.cond_t h c7
    refine aw_seq ?_
    refine aw_region ?_
    refine aops_step1 rfl (st_move rfl rfl) ?_
    refine aops_step1 rfl (ev_field rfl rfl rfl) ?_
    refine aops_step1 rfl (ev_load rfl rfl rfl rfl) ?_
    refine aops_step1 rfl (st_conv_int rfl rfl Try.underlying3 Try.underlying5 (Md.ofInt_u8 a1.N)) ?_
    refine aops_step1 rfl (st_slice_lit (el := lsEl byC [(UInt8.ofInt a1.N)]) 2 rfl rfl rfl rfl rfl rfl rfl rfl (lit_el byC 1 [(UInt8.ofInt a1.N)] (fun _ => rfl)) rfl) ?_
    obtain ⟨g8, h⟩ := Md.ifp_s h
    refine aops_step1 rfl (st_app_ls (f := byC) (x3 ++ [(UInt8.ofInt a1.Kind)]) [(UInt8.ofInt a1.N)] (fun _ => rfl) rfl rfl (.inr ⟨_, _, rfl, rfl⟩) (by omega) (by omega) rfl) ?_
    refine aops_step1 rfl (st_assign rfl rfl) ?_
    refine aops_nil ?_
    cases Option.some.inj h
    refine aw_freeze 1 rfl ?_
    refine aw_ret ⟨rfl, ret_v (.inl ⟨_, rfl, rfl, fun _ e => nomatch e⟩) rfl rfl rfl ?_⟩
    (repeat' (first | exact TLe.refl _ | exact VLe.refl _ | exact CLe.refl _ | exact All2.nil | refine TLe.tup ?_ | refine TLe.v ?_ | refine All2.cons ?_ ?_ | refine VLe.agg ?_ | refine VLe.one ?_ | exact CLe.nil _ | exact CLe.emp _ | refine CLe.val ?_ | refine CLe.slc ?_ ?_))
  replace h := Md.cond_f h c7
  refine aw_seq ?_
  refine aw_region ?_
  refine aops_step1 rfl (ev_cmp rfl rfl rfl rfl) ?_
  refine aops_step1 rfl (st_assign rfl rfl) ?_
  refine aops_nil ?_
  refine aw_cond rfl (fun c9 => ?_) (fun c9 => ?_)
  · replace h := Md.cond_t h c9
    refine aw_seq ?_
    refine aw_region ?_
    refine aops_step1 rfl (st_move rfl rfl) ?_
    refine aops_step1 rfl (ev_field rfl rfl rfl) ?_
    refine aops_step1 rfl (ev_load rfl rfl rfl rfl) ?_
    obtain ⟨x10, hx10, h⟩ := Md.bind_s h
    refine aops_step1 rfl (st_call_o (r' := .one (.own 1)) 1 rfl (wire_putString_fn k (x3 ++ [(UInt8.ofInt a1.Kind)]) a1.S x10 hx10) rfl [] (by repeat' (first | exact All2.nil | refine All2.cons ?_ ?_ | refine ArgV.one ?_ | refine ArgV.agg ?_ | exact ArgC.mk rfl | exact ArgC.lend rfl (by simp) | exact ArgC.le (CLe.nil _) rfl | exact ArgC.le (CLe.emp _) rfl | exact ArgC.le (CLe.any _) rfl)) rfl rfl rfl (.inl rfl) rfl rfl) ?_
    refine aops_step1 rfl (st_assign rfl rfl) ?_
    refine aops_nil ?_
    cases Option.some.inj h
    refine aw_freeze 1 rfl ?_
    refine aw_ret ⟨rfl, ret_v (.inl ⟨_, rfl, rfl, fun _ e => nomatch e⟩) rfl rfl rfl ?_⟩
    (repeat' (first | exact TLe.refl _ | exact VLe.refl _ | exact CLe.refl _ | exact All2.nil | refine TLe.tup ?_ | refine TLe.v ?_ | refine All2.cons ?_ ?_ | refine VLe.agg ?_ | refine VLe.one ?_ | exact CLe.nil _ | exact CLe.emp _ | refine CLe.val ?_ | refine CLe.slc ?_ ?_))
  replace h := Md.cond_f h c9
  refine aw_seq ?_
  refine aw_region ?_
  refine aops_step1 rfl (ev_cmp rfl rfl rfl rfl) ?_
  refine aops_step1 rfl (st_assign rfl rfl) ?_
  refine aops_nil ?_
  refine aw_cond rfl (fun c11 => ?_) (fun c11 => ?_)
  · replace h := Md.cond_t h c11
    refine aw_seq ?_
    refine aw_region ?_
    refine aops_step1 rfl (st_move rfl rfl) ?_
    refine aops_step1 rfl (ev_field rfl rfl rfl) ?_
    refine aops_step1 rfl (ev_load rfl rfl rfl rfl) ?_
    obtain ⟨x12, hx12, h⟩ := Md.bind_s h
    refine aops_step1 rfl (st_call_r (r' := .one (.own 2)) 2 rfl (wire_AppendInts_fn k (x3 ++ [(UInt8.ofInt a1.Kind)]) a1.I x12 hx12) rfl [1] (by repeat' (first | exact All2.nil | refine All2.cons ?_ ?_ | refine ArgV.one ?_ | refine ArgV.agg ?_ | exact ArgC.mk rfl | exact ArgC.lend rfl (by simp) | exact ArgC.le (CLe.nil _) rfl | exact ArgC.le (CLe.emp _) rfl | exact ArgC.le (CLe.any _) rfl)) rfl rfl rfl (.inr ⟨rfl, fun _ _ => rfl⟩) rfl rfl) ?_
    refine aops_step1 rfl (st_assign rfl rfl) ?_
    refine aops_nil ?_
    cases Option.some.inj h
    refine aw_freeze 2 rfl ?_
    refine aw_ret ⟨rfl, ret_v (.inl ⟨_, rfl, rfl, fun _ e => nomatch e⟩) rfl rfl rfl ?_⟩
    (repeat' (first | exact TLe.refl _ | exact VLe.refl _ | exact CLe.refl _ | exact All2.nil | refine TLe.tup ?_ | refine TLe.v ?_ | refine All2.cons ?_ ?_ | refine VLe.agg ?_ | refine VLe.one ?_ | exact CLe.nil _ | exact CLe.emp _ | refine CLe.val ?_ | refine CLe.slc ?_ ?_))
  replace h := Md.cond_f h c11
  refine aw_seq ?_
  refine aw_region ?_
  refine aops_step1 rfl (ev_cmp rfl rfl rfl rfl) ?_
  refine aops_step1 rfl (st_assign rfl rfl) ?_
  refine aops_nil ?_
  refine aw_cond rfl (fun c13 => ?_) (fun c13 => ?_)
  · replace h := Md.cond_t h c13
    refine aw_seq ?_
    refine aw_region ?_
    refine aops_step1 rfl (st_move rfl rfl) ?_
    refine aops_step1 rfl (ev_field rfl rfl rfl) ?_
    refine aops_step1 rfl (ev_load rfl rfl rfl rfl) ?_
    obtain ⟨x14, hx14, h⟩ := Md.bind_s h
    refine aops_step1 rfl (st_call_r (r' := .one (.own 2)) 2 rfl (wire_AppendStrings_fn k (x3 ++ [(UInt8.ofInt a1.Kind)]) a1.L x14 hx14) rfl [1] (by repeat' (first | exact All2.nil | refine All2.cons ?_ ?_ | refine ArgV.one ?_ | refine ArgV.agg ?_ | exact ArgC.mk rfl | exact ArgC.lend rfl (by simp) | exact ArgC.le (CLe.nil _) rfl | exact ArgC.le (CLe.emp _) rfl | exact ArgC.le (CLe.any _) rfl)) rfl rfl rfl (.inr ⟨rfl, fun _ _ => rfl⟩) rfl rfl) ?_
    refine aops_step1 rfl (st_assign rfl rfl) ?_
    refine aops_nil ?_
    cases Option.some.inj h
    refine aw_freeze 2 rfl ?_
    refine aw_ret ⟨rfl, ret_v (.inl ⟨_, rfl, rfl, fun _ e => nomatch e⟩) rfl rfl rfl ?_⟩
    (repeat' (first | exact TLe.refl _ | exact VLe.refl _ | exact CLe.refl _ | exact All2.nil | refine TLe.tup ?_ | refine TLe.v ?_ | refine All2.cons ?_ ?_ | refine VLe.agg ?_ | refine VLe.one ?_ | exact CLe.nil _ | exact CLe.emp _ | refine CLe.val ?_ | refine CLe.slc ?_ ?_))
  replace h := Md.cond_f h c13
  refine aw_skip ?_
  refine aw_seq ?_
  refine aw_region ?_
  refine aops_step1 rfl (st_move rfl rfl) ?_
  refine aops_step1 rfl (st_assign rfl rfl) ?_
  refine aops_nil ?_
  cases Option.some.inj h
  refine aw_freeze 1 rfl ?_
  refine aw_ret ⟨rfl, ret_v (.inl ⟨_, rfl, rfl, fun _ e => nomatch e⟩) rfl rfl rfl ?_⟩
  (repeat' (first | exact TLe.refl _ | exact VLe.refl _ | exact CLe.refl _ | exact All2.nil | refine TLe.tup ?_ | refine TLe.v ?_ | refine All2.cons ?_ ?_ | refine VLe.agg ?_ | refine VLe.one ?_ | exact CLe.nil _ | exact CLe.emp _ | refine CLe.val ?_ | refine CLe.slc ?_ ?_))
end Md
end Go.Proofs.Ytbnjdkpangmneaa
