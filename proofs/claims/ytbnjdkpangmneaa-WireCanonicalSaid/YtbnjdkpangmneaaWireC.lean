/-
  WireC: where a function's model gives a value, the function returns what reads as it (printed by wip/tools/auto.py). Condition of each: the model gives a value.
-/
import Derived.Test.YtbnjdkpangmneaaWireCM
import Derived.Test.YtbnjdkpangmneaaWireB
namespace Go.Proofs.Ytbnjdkpangmneaa
open Go.ChangeShapes Go.WideShapes Go.RowKit
open Abs
set_option linter.unusedVariables false
set_option linter.unusedSimpArgs false
set_option maxRecDepth 10000
namespace Md
set_option maxHeartbeats 2000000 in
theorem wire_Checksum_fn (k : Nat) (a0 : List UInt8) (r : UInt32) (h : wire_Checksum k a0 = some r) : FnC Try.prog 34 [.one (CV.ls byC a0)] [] (Det (.one (.val (.int .u32 (r.toNat : Int)))) []) := by
  unfold wire_Checksum at h
  refine fn_intro' 28 Try.func34 rfl rfl rfl ?_
  refine aw_seq ?_
  refine aw_region ?_
  refine aops_step1 rfl (st_assign rfl rfl) ?_
  refine aops_nil ?_
  refine aw_seq ?_
  refine aw_region ?_
  refine aops_step1 rfl (st_assign rfl rfl) ?_
  refine aops_nil ?_
  refine aw_seq ?_
  refine aw_seq ?_
  refine aw_region ?_
  refine aops_step1 rfl (st_move rfl rfl) ?_
  refine aops_step1 rfl (ev_len_slc rfl rfl) ?_
  refine aops_step1 rfl (st_move rfl rfl) ?_
  refine aops_nil ?_
  refine aw_block ?_
  obtain ⟨o1, ho1, h⟩ := Md.bind_s h
  refine aw_loop_x (ι := {p : Nat × UInt32 × Nat // wire_Checksum_loop1 k a0 p.1 p.2.1 p.2.2 = some o1}) (fun p => (⟨28, [], [(3, .one (.val (.int .u32 (p.1.2.1.toNat : Int)))), (6, .one (CV.ls byC a0)), (7, .one (.val (.int .i64 ((a0.length : Nat) : Int)))), (8, .one (.val (.int .i64 ((p.1.2.2 : Nat) : Int))))], []⟩ : ASt)) (fun p => p.1.1) ⟨(k, (4294967295 : UInt32), 0), ho1⟩ (by (refine weak_mk rfl rfl ?_ ?_ rfl <;> repeat' (first | exact trivial | refine ⟨?_, ?_⟩ | exact VLe.refl _ | exact BLe.refl _ | refine VLe.one (CLe.val ?_) | exact VLe.one (CLe.nil _) | exact VLe.one (CLe.emp _)))) 0 (ε := UInt32) (fun x => (⟨28, [], [(3, .one (.val (.int .u32 (x.toNat : Int))))], []⟩ : ASt)) (fun x => x = o1) (fun _ _ w h => aw_weak w h) ?_ ?_
  · intro x1_0 hI1
    subst hI1
    change AW _ _ (⟨28, [], [(3, .one (.val (.int .u32 (x1_0.toNat : Int))))], []⟩ : ASt) _
    refine aw_seq ?_
    refine aw_region ?_
    refine aops_step1 rfl (st_move rfl rfl) ?_
    refine aops_step1 rfl (st_compl rfl rfl (Md.compl_u32 _)) ?_
    refine aops_step1 rfl (st_assign rfl rfl) ?_
    refine aops_nil ?_
    cases Option.some.inj h
    refine aw_ret ⟨rfl, ret_v (.inl ⟨_, rfl, rfl, fun _ e => nomatch e⟩) rfl rfl rfl ?_⟩
    (repeat' (first | exact TLe.refl _ | exact VLe.refl _ | exact CLe.refl _ | exact All2.nil | refine TLe.tup ?_ | refine TLe.v ?_ | refine All2.cons ?_ ?_ | refine VLe.agg ?_ | refine VLe.one ?_ | exact CLe.nil _ | exact CLe.emp _ | refine CLe.val ?_ | refine CLe.slc ?_ ?_))
  intro p1
  obtain ⟨⟨n1, s1_0, s1_1⟩, l1⟩ := p1
  change AW _ _ (⟨28, [], [(3, .one (.val (.int .u32 (s1_0.toNat : Int)))), (6, .one (CV.ls byC a0)), (7, .one (.val (.int .i64 ((a0.length : Nat) : Int)))), (8, .one (.val (.int .i64 ((s1_1 : Nat) : Int))))], []⟩ : ASt) _
  replace l1 : wire_Checksum_loop1 k a0 n1 s1_0 s1_1 = some o1 := l1
  rcases n1 with _ | n1
  · exact absurd (show none = some o1 from l1) nofun
  rw [wire_Checksum_loop1] at l1
  refine aw_seq ?_
  refine aw_region ?_
  refine aops_step1 rfl (ev_cmp rfl rfl rfl rfl) ?_
  refine aops_nil ?_
  refine aw_seq ?_
  refine aw_cond rfl (fun c2 => ?_) (fun c2 => ?_)
  · replace l1 := Md.cond_t l1 c2
    refine aw_skip ?_
    refine aw_seq ?_
    refine aw_block ?_
    refine aw_seq ?_
    refine aw_region ?_
    obtain ⟨g3, l1⟩ := Md.ifp_s l1
    refine aops_step1 rfl (ev_index_in rfl rfl rfl g3 rfl rfl) ?_
    refine aops_step1 rfl (ev_load_in rfl rfl rfl) ?_
    refine aops_step1 rfl (st_assign rfl rfl) ?_
    refine aops_nil ?_
    refine aw_seq ?_
    refine aw_region ?_
    refine aops_step1 rfl (st_move rfl rfl) ?_
    refine aops_step1 rfl (st_move rfl rfl) ?_
    refine aops_step1 rfl (st_conv_int rfl rfl Try.underlying5 Try.underlying48 (Md.conv_u8_u32 (a0.getD s1_1 default))) ?_
    refine aops_step1 rfl (ev_bits rfl rfl rfl rfl (Md.xor_u32 s1_0 ((a0.getD s1_1 default).toUInt32))) ?_
    refine aops_step1 rfl (st_assign rfl rfl) ?_
    refine aops_nil ?_
    refine aw_seq ?_
    refine aw_region ?_
    refine aops_step1 rfl (st_move rfl rfl) ?_
    refine aops_nil ?_
    refine aw_block ?_
    obtain ⟨o4, ho4, l1⟩ := Md.bind_s l1
    refine aw_loop_x (ι := {p : Nat × UInt32 × Nat // wire_Checksum_loop2 k p.1 p.2.1 p.2.2 = some o4}) (fun p => (⟨28, [], [(3, .one (.val (.int .u32 (p.1.2.1.toNat : Int)))), (6, .one (CV.ls byC a0)), (7, .one (.val (.int .i64 ((a0.length : Nat) : Int)))), (8, .one (.val (.int .i64 ((s1_1 : Nat) : Int)))), (16, .one (.val (.int .i64 ((p.1.2.2 : Nat) : Int))))], []⟩ : ASt)) (fun p => p.1.1) ⟨(k, (s1_0 ^^^ ((a0.getD s1_1 default).toUInt32)), 0), ho4⟩ (by (refine weak_mk rfl rfl ?_ ?_ rfl <;> repeat' (first | exact trivial | refine ⟨?_, ?_⟩ | exact VLe.refl _ | exact BLe.refl _ | refine VLe.one (CLe.val ?_) | exact VLe.one (CLe.nil _) | exact VLe.one (CLe.emp _)))) 2 (ε := UInt32) (fun x => (⟨28, [], [(3, .one (.val (.int .u32 (x.toNat : Int)))), (6, .one (CV.ls byC a0)), (7, .one (.val (.int .i64 ((a0.length : Nat) : Int)))), (8, .one (.val (.int .i64 ((s1_1 : Nat) : Int))))], []⟩ : ASt)) (fun x => x = o4) (fun _ _ w h => aw_weak w h) ?_ ?_
    · intro x4_0 hI4
      subst hI4
      change AW _ _ (⟨28, [], [(3, .one (.val (.int .u32 (x4_0.toNat : Int)))), (6, .one (CV.ls byC a0)), (7, .one (.val (.int .i64 ((a0.length : Nat) : Int)))), (8, .one (.val (.int .i64 ((s1_1 : Nat) : Int))))], []⟩ : ASt) _
      refine aw_region ?_
      obtain ⟨g5, l1⟩ := Md.ifp_s l1
      refine aops_step1 rfl (ev_add rfl rfl rfl (Md.nat_add g5)) ?_
      refine aops_step1 rfl (st_move rfl rfl) ?_
      refine aops_nil ?_
      exact ⟨⟨(n1, x4_0, (s1_1 + 1)), l1⟩, Nat.lt_succ_self _, (by (refine weak_mk rfl rfl ?_ ?_ rfl <;> repeat' (first | exact trivial | refine ⟨?_, ?_⟩ | exact VLe.refl _ | exact BLe.refl _ | refine VLe.one (CLe.val ?_) | exact VLe.one (CLe.nil _) | exact VLe.one (CLe.emp _))))⟩
    intro p4
    obtain ⟨⟨n4, s4_0, s4_1⟩, l4⟩ := p4
    change AW _ _ (⟨28, [], [(3, .one (.val (.int .u32 (s4_0.toNat : Int)))), (6, .one (CV.ls byC a0)), (7, .one (.val (.int .i64 ((a0.length : Nat) : Int)))), (8, .one (.val (.int .i64 ((s1_1 : Nat) : Int)))), (16, .one (.val (.int .i64 ((s4_1 : Nat) : Int))))], []⟩ : ASt) _
    replace l4 : wire_Checksum_loop2 k n4 s4_0 s4_1 = some o4 := l4
    rcases n4 with _ | n4
    · exact absurd (show none = some o4 from l4) nofun
    rw [wire_Checksum_loop2] at l4
    refine aw_seq ?_
    refine aw_region ?_
    refine aops_step1 rfl (ev_cmp rfl rfl rfl rfl) ?_
    refine aops_nil ?_
    refine aw_seq ?_
    refine aw_cond rfl (fun c6 => ?_) (fun c6 => ?_)
    · replace l4 := Md.cond_t l4 c6
      refine aw_skip ?_
      refine aw_seq ?_
      refine aw_block ?_
      refine aw_region ?_
      refine aops_step1 rfl (st_move rfl rfl) ?_
      refine aops_step1 rfl (ev_shr rfl rfl rfl (by decide) (Md.shr_u32 s4_0 (Md.nat_toNat 1))) ?_
      refine aops_step1 rfl (st_move rfl rfl) ?_
      refine aops_step1 rfl (ev_bits rfl rfl rfl rfl (Md.and_u32 s4_0 (1 : UInt32))) ?_
      refine aops_step1 rfl (ev_mul rfl rfl rfl (Md.mul_u32 (3988292384 : UInt32) (s4_0 &&& (1 : UInt32)))) ?_
      refine aops_step1 rfl (ev_bits rfl rfl rfl rfl (Md.xor_u32 (Md.shr32 s4_0 1) ((3988292384 : UInt32) * (s4_0 &&& (1 : UInt32))))) ?_
      refine aops_step1 rfl (st_assign rfl rfl) ?_
      refine aops_nil ?_
      refine aw_region ?_
      obtain ⟨g7, l4⟩ := Md.ifp_s l4
      refine aops_step1 rfl (ev_add rfl rfl rfl (Md.nat_add g7)) ?_
      refine aops_step1 rfl (st_move rfl rfl) ?_
      refine aops_nil ?_
      exact ⟨⟨(n4, ((Md.shr32 s4_0 1) ^^^ ((3988292384 : UInt32) * (s4_0 &&& (1 : UInt32)))), (s4_1 + 1)), l4⟩, Nat.lt_succ_self _, (by (refine weak_mk rfl rfl ?_ ?_ rfl <;> repeat' (first | exact trivial | refine ⟨?_, ?_⟩ | exact VLe.refl _ | exact BLe.refl _ | refine VLe.one (CLe.val ?_) | exact VLe.one (CLe.nil _) | exact VLe.one (CLe.emp _))))⟩
    replace l4 := Md.cond_f l4 c6
    refine aw_exit ?_
    show ∃ _x : UInt32, _ = _ ∧ Weak _ _
    exact ⟨s4_0, Option.some.inj l4, (by (refine weak_mk rfl rfl ?_ ?_ rfl <;> repeat' (first | exact trivial | refine ⟨?_, ?_⟩ | exact VLe.refl _ | exact BLe.refl _ | refine VLe.one (CLe.val ?_) | exact VLe.one (CLe.nil _) | exact VLe.one (CLe.emp _))))⟩
  replace l1 := Md.cond_f l1 c2
  refine aw_exit ?_
  show ∃ _x : UInt32, _ = _ ∧ Weak _ _
  exact ⟨s1_0, Option.some.inj l1, (by (refine weak_mk rfl rfl ?_ ?_ rfl <;> repeat' (first | exact trivial | refine ⟨?_, ?_⟩ | exact VLe.refl _ | exact BLe.refl _ | refine VLe.one (CLe.val ?_) | exact VLe.one (CLe.nil _) | exact VLe.one (CLe.emp _))))⟩
set_option maxHeartbeats 2000000 in
theorem wire_word_fn (k : Nat) (a0 : List UInt8) (a1 : UInt32) (r : (List UInt8)) (h : wire_word k a0 a1 = some r) : FnC Try.prog 61 [.one (.own 0), .one (.val (.int .u32 (a1.toNat : Int)))] [(0, some (.row 5 1 a0.length (lsEl byC a0)))] (Det (.one (.own 0)) [(0, some (.row 5 1 r.length (lsEl byC r)))]) := by
  unfold wire_word at h
  refine fn_intro' 19 Try.func61 rfl rfl rfl ?_
  refine aw_seq ?_
  refine aw_region ?_
  refine aops_step1 rfl (st_assign rfl rfl) ?_
  refine aops_nil ?_
  refine aw_seq ?_
  refine aw_region ?_
  refine aops_step1 rfl (st_move rfl rfl) ?_
  refine aops_step1 rfl (st_move rfl rfl) ?_
  refine aops_step1 rfl (st_conv_int rfl rfl Try.underlying48 Try.underlying5 (Md.conv_u32_u8 a1)) ?_
  refine aops_step1 rfl (st_move rfl rfl) ?_
  refine aops_step1 rfl (ev_shr rfl rfl rfl (by decide) (Md.shr_u32 a1 (Md.nat_toNat 8))) ?_
  refine aops_step1 rfl (st_conv_int rfl rfl Try.underlying48 Try.underlying5 (Md.conv_u32_u8 (Md.shr32 a1 8))) ?_
  refine aops_step1 rfl (st_move rfl rfl) ?_
  refine aops_step1 rfl (ev_shr rfl rfl rfl (by decide) (Md.shr_u32 a1 (Md.nat_toNat 16))) ?_
  refine aops_step1 rfl (st_conv_int rfl rfl Try.underlying48 Try.underlying5 (Md.conv_u32_u8 (Md.shr32 a1 16))) ?_
  refine aops_step1 rfl (st_move rfl rfl) ?_
  refine aops_step1 rfl (ev_shr rfl rfl rfl (by decide) (Md.shr_u32 a1 (Md.nat_toNat 24))) ?_
  refine aops_step1 rfl (st_conv_int rfl rfl Try.underlying48 Try.underlying5 (Md.conv_u32_u8 (Md.shr32 a1 24))) ?_
  refine aops_step1 rfl (st_slice_lit (el := lsEl byC [(a1.toUInt8), ((Md.shr32 a1 8).toUInt8), ((Md.shr32 a1 16).toUInt8), ((Md.shr32 a1 24).toUInt8)]) 1 rfl rfl rfl rfl rfl rfl rfl rfl (lit_el byC 1 [(a1.toUInt8), ((Md.shr32 a1 8).toUInt8), ((Md.shr32 a1 16).toUInt8), ((Md.shr32 a1 24).toUInt8)] (fun _ => rfl)) rfl) ?_
  obtain ⟨g1, h⟩ := Md.ifp_s h
  refine aops_step1 rfl (st_app_ls (f := byC) a0 [(a1.toUInt8), ((Md.shr32 a1 8).toUInt8), ((Md.shr32 a1 16).toUInt8), ((Md.shr32 a1 24).toUInt8)] (fun _ => rfl) rfl rfl (.inr ⟨_, _, rfl, rfl⟩) (by omega) (by omega) rfl) ?_
  refine aops_step1 rfl (st_assign rfl rfl) ?_
  refine aops_nil ?_
  cases Option.some.inj h
  refine aw_ret ⟨rfl, ret_r 0 (.inl ⟨_, rfl, rfl, fun _ e => nomatch e⟩) rfl rfl rfl ?_ ?_ ?_⟩
  · first | exact TLe.refl _ | (repeat' (first | exact TLe.refl _ | exact VLe.refl _ | exact CLe.refl _ | exact All2.nil | refine TLe.tup ?_ | refine TLe.v ?_ | refine All2.cons ?_ ?_ | refine VLe.agg ?_ | refine VLe.one ?_ | exact CLe.nil _ | exact CLe.emp _ | refine CLe.val ?_ | refine CLe.slc ?_ ?_))
  · rfl
  · rfl
set_option maxHeartbeats 2000000 in
theorem wire_Seal_fn (k : Nat) (a0 : Int) (a1 : List UInt8) (r : (List UInt8) × Int) (h : wire_Seal k a0 a1 = some r) : FnC Try.prog 30 [.one (.val (.int .i64 a0)), .one (CV.ls byC a1)] [] (Det (.tup [.one (CV.ls byC r.1), .one (.val (.int .i64 r.2))]) []) := by
  unfold wire_Seal at h
  refine fn_intro' 36 Try.func30 rfl rfl rfl ?_
  refine aw_seq ?_
  refine aw_region ?_
  refine aops_step1 rfl (st_assign rfl rfl) ?_
  refine aops_step1 rfl (st_assign rfl rfl) ?_
  refine aops_nil ?_
  refine aw_seq ?_
  refine aw_seq ?_
  refine aw_region ?_
  refine aops_step1 rfl (st_move rfl rfl) ?_
  refine aops_step1 rfl (ev_cmp rfl rfl rfl rfl) ?_
  refine aops_step1 rfl (st_move rfl rfl) ?_
  refine aops_mid 3 (⟨36, [], [(0, .one (.val (.int .i64 a0))), (1, .one (CV.ls byC a1)), (12, .one (.val (.bool ((decide (a0 < 1)) || (decide (a0 > 255))))))], []⟩ : ASt) ?_ ?_
  · rcases Md.bool_or ((decide (a0 < 1))) with q1 | q1
    · skip
      refine aops_no rfl rfl rfl rfl rfl (by first | decide | (rw [q1]; decide)) ?_
      refine aops_no rfl rfl rfl rfl rfl (by first | decide | (rw [q1]; decide)) ?_
      refine aops_step1 rfl (st_pick_yes rfl (by first | rfl | exact q1) rfl rfl) ?_
      refine aops_nil ?_
      show Weak _ _
      (refine weak_mk rfl rfl ?_ ?_ rfl <;> repeat' (first | exact trivial | refine ⟨?_, ?_⟩ | exact VLe.refl _ | exact BLe.refl _ | refine VLe.one (CLe.val ?_) | exact VLe.one (CLe.nil _) | exact VLe.one (CLe.emp _))) <;> (first | (rw [q1]; done) | (rw [q1]; rfl) | (simp [q1]; done))
    refine aops_yes rfl rfl rfl rfl q1 (st_move rfl rfl) ?_
    refine aops_yes rfl rfl rfl rfl q1 (ev_cmp rfl rfl rfl rfl) ?_
    refine aops_step1 rfl (st_pick_no rfl (by first | rfl | exact q1) rfl rfl) ?_
    refine aops_nil ?_
    show Weak _ _
    (refine weak_mk rfl rfl ?_ ?_ rfl <;> repeat' (first | exact trivial | refine ⟨?_, ?_⟩ | exact VLe.refl _ | exact BLe.refl _ | refine VLe.one (CLe.val ?_) | exact VLe.one (CLe.nil _) | exact VLe.one (CLe.emp _))) <;> (first | (rw [q1]; done) | (rw [q1]; rfl) | (simp [q1]; done))
  change AOps _ _ _ (⟨36, [], [(0, .one (.val (.int .i64 a0))), (1, .one (CV.ls byC a1)), (12, .one (.val (.bool ((decide (a0 < 1)) || (decide (a0 > 255))))))], []⟩ : ASt) _
  refine aops_step1 rfl (st_move rfl rfl) ?_
  refine aops_mid 4 (⟨36, [], [(0, .one (.val (.int .i64 a0))), (1, .one (CV.ls byC a1)), (17, .one (.val (.bool (((decide (a0 < 1)) || (decide (a0 > 255))) || (decide (((a1.length : Nat) : Int) > 16777216))))))], []⟩ : ASt) ?_ ?_
  · rcases Md.bool_or (((decide (a0 < 1)) || (decide (a0 > 255)))) with q2 | q2
    · skip
      refine aops_no rfl rfl rfl rfl rfl (by first | decide | (rw [q2]; decide)) ?_
      refine aops_no rfl rfl rfl rfl rfl (by first | decide | (rw [q2]; decide)) ?_
      refine aops_no rfl rfl rfl rfl rfl (by first | decide | (rw [q2]; decide)) ?_
      refine aops_step1 rfl (st_pick_yes rfl (by first | rfl | exact q2) rfl rfl) ?_
      refine aops_nil ?_
      show Weak _ _
      (refine weak_mk rfl rfl ?_ ?_ rfl <;> repeat' (first | exact trivial | refine ⟨?_, ?_⟩ | exact VLe.refl _ | exact BLe.refl _ | refine VLe.one (CLe.val ?_) | exact VLe.one (CLe.nil _) | exact VLe.one (CLe.emp _))) <;> (first | (rw [q2]; done) | (rw [q2]; rfl) | (simp [q2]; done))
    refine aops_yes rfl rfl rfl rfl q2 (st_move rfl rfl) ?_
    refine aops_yes rfl rfl rfl rfl q2 (ev_len_slc rfl rfl) ?_
    refine aops_yes rfl rfl rfl rfl q2 (ev_cmp rfl rfl rfl rfl) ?_
    refine aops_step1 rfl (st_pick_no rfl (by first | rfl | exact q2) rfl rfl) ?_
    refine aops_nil ?_
    show Weak _ _
    (refine weak_mk rfl rfl ?_ ?_ rfl <;> repeat' (first | exact trivial | refine ⟨?_, ?_⟩ | exact VLe.refl _ | exact BLe.refl _ | refine VLe.one (CLe.val ?_) | exact VLe.one (CLe.nil _) | exact VLe.one (CLe.emp _))) <;> (first | (rw [q2]; done) | (rw [q2]; rfl) | (simp [q2]; done))
  change AOps _ _ _ (⟨36, [], [(0, .one (.val (.int .i64 a0))), (1, .one (CV.ls byC a1)), (17, .one (.val (.bool (((decide (a0 < 1)) || (decide (a0 > 255))) || (decide (((a1.length : Nat) : Int) > 16777216))))))], []⟩ : ASt) _
  refine aops_nil ?_
  refine aw_cond rfl (fun c3 => ?_) (fun c3 => ?_)
  · replace h := Md.cond_t h c3
    refine aw_seq ?_
    refine aw_region ?_
    refine aops_step1 rfl (st_assign rfl rfl) ?_
    refine aops_step1 rfl (st_assign rfl rfl) ?_
    refine aops_nil ?_
    cases Option.some.inj h
    refine aw_ret ⟨rfl, ret_v (.inr ⟨by decide, _, rfl, .cons (show get _ _ = AV.one _ from rfl) (.cons (show get _ _ = AV.one _ from rfl) (.nil)), by intro y hy vs e; subst e; simp at hy⟩) rfl rfl rfl ?_⟩
    (repeat' (first | exact TLe.refl _ | exact VLe.refl _ | exact CLe.refl _ | exact All2.nil | refine TLe.tup ?_ | refine TLe.v ?_ | refine All2.cons ?_ ?_ | refine VLe.agg ?_ | refine VLe.one ?_ | exact CLe.nil _ | exact CLe.emp _ | refine CLe.val ?_ | refine CLe.slc ?_ ?_))
  replace h := Md.cond_f h c3
  refine aw_skip ?_
  refine aw_seq ?_
  refine aw_region ?_
  refine aops_step1 rfl (st_move rfl rfl) ?_
  refine aops_step1 rfl (st_conv_int rfl rfl Try.underlying3 Try.underlying5 (Md.ofInt_u8 a0)) ?_
  refine aops_step1 rfl (st_slice_lit (el := lsEl byC [(65 : UInt8), (71 : UInt8), (UInt8.ofInt a0)]) 0 rfl rfl rfl rfl rfl rfl rfl rfl (lit_el byC 1 [(65 : UInt8), (71 : UInt8), (UInt8.ofInt a0)] (fun _ => rfl)) rfl) ?_
  refine aops_step1 rfl (st_move rfl rfl) ?_
  refine aops_step1 rfl (ev_len_slc rfl rfl) ?_
  obtain ⟨g4, h⟩ := Md.ifp_s h
  refine aops_step1 rfl (ev_add rfl rfl rfl (Md.nat_add g4)) ?_
  obtain ⟨x5, hx5, h⟩ := Md.bind_s h
  refine aops_step1 rfl (st_call_r (r' := .one (.own 1)) 1 rfl (wire_extend_fn k [(65 : UInt8), (71 : UInt8), (UInt8.ofInt a0)] (((a1.length + 8) : Nat) : Int) x5 hx5) rfl [0] (by repeat' (first | exact All2.nil | refine All2.cons ?_ ?_ | refine ArgV.one ?_ | refine ArgV.agg ?_ | exact ArgC.mk rfl | exact ArgC.lend rfl (by simp) | exact ArgC.le (CLe.nil _) rfl | exact ArgC.le (CLe.emp _) rfl | exact ArgC.le (CLe.any _) rfl)) rfl rfl rfl (.inr ⟨rfl, fun _ _ => rfl⟩) rfl rfl) ?_
  refine aops_step1 rfl (st_move rfl rfl) ?_
  refine aops_step1 rfl (ev_len_slc rfl rfl) ?_
  refine aops_step1 rfl (st_conv_int rfl rfl Try.underlying3 Try.underlying61 (Md.ofNat_u64 a1.length)) ?_
  obtain ⟨x6, hx6, h⟩ := Md.bind_s h
  refine aops_step1 rfl (st_call_o (r' := .one (.own 1)) 1 rfl (wire_putUint_fn k x5 (UInt64.ofNat a1.length) x6 hx6) rfl [] (by repeat' (first | exact All2.nil | refine All2.cons ?_ ?_ | refine ArgV.one ?_ | refine ArgV.agg ?_ | exact ArgC.mk rfl | exact ArgC.lend rfl (by simp) | exact ArgC.le (CLe.nil _) rfl | exact ArgC.le (CLe.emp _) rfl | exact ArgC.le (CLe.any _) rfl)) rfl rfl rfl (.inl rfl) rfl rfl) ?_
  refine aops_step1 rfl (st_assign rfl rfl) ?_
  refine aops_nil ?_
  refine aw_seq ?_
  refine aw_region ?_
  refine aops_step1 rfl (st_move rfl rfl) ?_
  refine aops_step1 rfl (st_move rfl rfl) ?_
  obtain ⟨g7, h⟩ := Md.ifp_s h
  refine aops_step1 rfl (st_app_ls (f := byC) x6 a1 (fun _ => rfl) rfl rfl (.inl rfl) (by omega) (by omega) rfl) ?_
  refine aops_step1 rfl (st_assign rfl rfl) ?_
  refine aops_nil ?_
  refine aw_seq ?_
  refine aw_region ?_
  refine aops_step1 rfl (st_move rfl rfl) ?_
  refine aops_step1 rfl (st_move rfl rfl) ?_
  obtain ⟨x8, hx8, h⟩ := Md.bind_s h
  refine aops_step1 rfl (ev_call_v (wire_Checksum_fn k (x6 ++ a1) x8 hx8) rfl [1] (by repeat' (first | exact All2.nil | refine All2.cons ?_ ?_ | refine ArgV.one ?_ | refine ArgV.agg ?_ | exact ArgC.mk rfl | exact ArgC.lend rfl (by simp) | exact ArgC.le (CLe.nil _) rfl | exact ArgC.le (CLe.emp _) rfl | exact ArgC.le (CLe.any _) rfl)) rfl rfl rfl (.inr rfl) rfl) ?_
  obtain ⟨x9, hx9, h⟩ := Md.bind_s h
  refine aops_step1 rfl (st_call_o (r' := .one (.own 1)) 1 rfl (wire_word_fn k (x6 ++ a1) x8 x9 hx9) rfl [] (by repeat' (first | exact All2.nil | refine All2.cons ?_ ?_ | refine ArgV.one ?_ | refine ArgV.agg ?_ | exact ArgC.mk rfl | exact ArgC.lend rfl (by simp) | exact ArgC.le (CLe.nil _) rfl | exact ArgC.le (CLe.emp _) rfl | exact ArgC.le (CLe.any _) rfl)) rfl rfl rfl (.inl rfl) rfl rfl) ?_
  refine aops_step1 rfl (st_assign rfl rfl) ?_
  refine aops_step1 rfl (st_assign rfl rfl) ?_
  refine aops_nil ?_
  cases Option.some.inj h
  refine aw_freeze 1 rfl ?_
  refine aw_ret ⟨rfl, ret_v (.inr ⟨by decide, _, rfl, .cons (show get _ _ = AV.one _ from rfl) (.cons (show get _ _ = AV.one _ from rfl) (.nil)), by intro y hy vs e; subst e; simp at hy⟩) rfl rfl rfl ?_⟩
  (repeat' (first | exact TLe.refl _ | exact VLe.refl _ | exact CLe.refl _ | exact All2.nil | refine TLe.tup ?_ | refine TLe.v ?_ | refine All2.cons ?_ ?_ | refine VLe.agg ?_ | refine VLe.one ?_ | exact CLe.nil _ | exact CLe.emp _ | refine CLe.val ?_ | refine CLe.slc ?_ ?_))
set_option maxHeartbeats 2000000 in
theorem wire_Open_fn (k : Nat) (a0 : List UInt8) (r : Int × (List UInt8) × Int × Int) (h : wire_Open k a0 = some r) : FnC Try.prog 32 [.one (CV.ls byC a0)] [] (Det (.tup [.one (.val (.int .i64 r.1)), .one (CV.ls byC r.2.1), .one (.val (.int .i64 r.2.2.1)), .one (.val (.int .i64 r.2.2.2))]) []) := by
  unfold wire_Open at h
  refine fn_intro' 77 Try.func32 rfl rfl rfl ?_
  refine aw_seq ?_
  refine aw_region ?_
  refine aops_step1 rfl (st_assign rfl rfl) ?_
  refine aops_step1 rfl (st_assign rfl rfl) ?_
  refine aops_step1 rfl (st_assign rfl rfl) ?_
  refine aops_step1 rfl (st_assign rfl rfl) ?_
  refine aops_nil ?_
  refine aw_seq ?_
  refine aw_block ?_
  refine aw_seq ?_
  refine aw_region ?_
  refine aops_step1 rfl (st_move rfl rfl) ?_
  refine aops_step1 rfl (ev_len_slc rfl rfl) ?_
  refine aops_step1 rfl (ev_cmp rfl rfl rfl rfl) ?_
  refine aops_step1 rfl (st_assign rfl rfl) ?_
  refine aops_nil ?_
  refine aw_cond rfl (fun c1 => ?_) (fun c1 => ?_)
  · replace h := Md.cond_t h c1
    refine aw_seq ?_
    refine aw_region ?_
    refine aops_step1 rfl (st_assign rfl rfl) ?_
    refine aops_step1 rfl (st_assign rfl rfl) ?_
    refine aops_step1 rfl (st_assign rfl rfl) ?_
    refine aops_step1 rfl (st_assign rfl rfl) ?_
    refine aops_nil ?_
    cases Option.some.inj h
    refine aw_ret ⟨rfl, ret_v (.inr ⟨by decide, _, rfl, .cons (show get _ _ = AV.one _ from rfl) (.cons (show get _ _ = AV.one _ from rfl) (.cons (show get _ _ = AV.one _ from rfl) (.cons (show get _ _ = AV.one _ from rfl) (.nil)))), by intro y hy vs e; subst e; simp at hy⟩) rfl rfl rfl ?_⟩
    (repeat' (first | exact TLe.refl _ | exact VLe.refl _ | exact CLe.refl _ | exact All2.nil | refine TLe.tup ?_ | refine TLe.v ?_ | refine All2.cons ?_ ?_ | refine VLe.agg ?_ | refine VLe.one ?_ | exact CLe.nil _ | exact CLe.emp _ | refine CLe.val ?_ | refine CLe.slc ?_ ?_))
  replace h := Md.cond_f h c1
  refine aw_seq ?_
  refine aw_region ?_
  refine aops_step1 rfl (st_move rfl rfl) ?_
  obtain ⟨g2, h⟩ := Md.ifp_s h
  refine aops_step1 rfl (ev_index_in rfl rfl rfl g2 rfl rfl) ?_
  refine aops_step1 rfl (ev_load_in rfl rfl rfl) ?_
  refine aops_step1 rfl (ev_cmp rfl rfl rfl rfl) ?_
  refine aops_step1 rfl (st_move rfl rfl) ?_
  obtain ⟨o3, j3, h⟩ := Md.bind_s h
  refine aops_cut 5 (ε := Bool) (fun x3 => (⟨77, [], [(0, .one (CV.ls byC a0)), (24, .one (.val (.bool x3)))], []⟩ : ASt)) (fun x3 => x3 = o3) ?_ ?_
  · intro x3 hI3
    subst hI3
    change AOps _ _ _ (⟨77, [], [(0, .one (CV.ls byC a0)), (24, .one (.val (.bool x3)))], []⟩ : ASt) _
    refine aops_step1 rfl (st_move rfl rfl) ?_
    obtain ⟨o4, j4, h⟩ := Md.bind_s h
    refine aops_cut 5 (ε := Bool) (fun x4 => (⟨77, [], [(0, .one (CV.ls byC a0)), (30, .one (.val (.bool x4)))], []⟩ : ASt)) (fun x4 => x4 = o4) ?_ ?_
    · intro x4 hI4
      subst hI4
      change AOps _ _ _ (⟨77, [], [(0, .one (CV.ls byC a0)), (30, .one (.val (.bool x4)))], []⟩ : ASt) _
      refine aops_step1 rfl (st_assign rfl rfl) ?_
      refine aops_nil ?_
      refine aw_cond rfl (fun c5 => ?_) (fun c5 => ?_)
      · replace h := Md.cond_t h c5
        refine aw_seq ?_
        refine aw_region ?_
        refine aops_step1 rfl (st_assign rfl rfl) ?_
        refine aops_step1 rfl (st_assign rfl rfl) ?_
        refine aops_step1 rfl (st_assign rfl rfl) ?_
        refine aops_step1 rfl (st_assign rfl rfl) ?_
        refine aops_nil ?_
        cases Option.some.inj h
        refine aw_ret ⟨rfl, ret_v (.inr ⟨by decide, _, rfl, .cons (show get _ _ = AV.one _ from rfl) (.cons (show get _ _ = AV.one _ from rfl) (.cons (show get _ _ = AV.one _ from rfl) (.cons (show get _ _ = AV.one _ from rfl) (.nil)))), by intro y hy vs e; subst e; simp at hy⟩) rfl rfl rfl ?_⟩
        (repeat' (first | exact TLe.refl _ | exact VLe.refl _ | exact CLe.refl _ | exact All2.nil | refine TLe.tup ?_ | refine TLe.v ?_ | refine All2.cons ?_ ?_ | refine VLe.agg ?_ | refine VLe.one ?_ | exact CLe.nil _ | exact CLe.emp _ | refine CLe.val ?_ | refine CLe.slc ?_ ?_))
      replace h := Md.cond_f h c5
      refine aw_skip ?_
      refine aw_seq ?_
      refine aw_region ?_
      refine aops_step1 rfl (st_move rfl rfl) ?_
      obtain ⟨g6, h⟩ := Md.ifp_s h
      refine aops_step1 rfl (st_cut_lo (f := byC) (fun _ => rfl) rfl ⟨_, _, rfl, rfl⟩ g6 rfl) ?_
      obtain ⟨x7, hx7, h⟩ := Md.bind_s h
      refine aops_step1 rfl (ev_call_v (wire_length_fn k (a0.drop 3) 16777216 x7 hx7) rfl [] (by repeat' (first | exact All2.nil | refine All2.cons ?_ ?_ | refine ArgV.one ?_ | refine ArgV.agg ?_ | exact ArgC.mk rfl | exact ArgC.lend rfl (by simp) | exact ArgC.le (CLe.nil _) rfl | exact ArgC.le (CLe.emp _) rfl | exact ArgC.le (CLe.any _) rfl)) rfl rfl rfl (.inl rfl) rfl) ?_
      refine aops_step1 rfl (st_movet rfl rfl) ?_
      refine aops_step1 rfl (ev_extract rfl rfl rfl) ?_
      refine aops_step1 rfl (ev_extract rfl rfl rfl) ?_
      refine aops_step1 rfl (ev_extract rfl rfl rfl) ?_
      refine aops_step1 rfl (st_assign rfl rfl) ?_
      refine aops_step1 rfl (st_assign rfl rfl) ?_
      refine aops_step1 rfl (st_assign rfl rfl) ?_
      refine aops_nil ?_
      refine aw_seq ?_
      refine aw_seq ?_
      refine aw_region ?_
      refine aops_step1 rfl (st_move rfl rfl) ?_
      refine aops_step1 rfl (ev_cmp rfl rfl rfl rfl) ?_
      refine aops_nil ?_
      refine aw_cond rfl (fun c8 => ?_) (fun c8 => ?_)
      · replace h := Md.cond_t h c8
        refine aw_seq ?_
        refine aw_region ?_
        refine aops_step1 rfl (st_move rfl rfl) ?_
        refine aops_step1 rfl (st_assign rfl rfl) ?_
        refine aops_step1 rfl (st_assign rfl rfl) ?_
        refine aops_step1 rfl (st_assign rfl rfl) ?_
        refine aops_step1 rfl (st_assign rfl rfl) ?_
        refine aops_nil ?_
        cases Option.some.inj h
        refine aw_ret ⟨rfl, ret_v (.inr ⟨by decide, _, rfl, .cons (show get _ _ = AV.one _ from rfl) (.cons (show get _ _ = AV.one _ from rfl) (.cons (show get _ _ = AV.one _ from rfl) (.cons (show get _ _ = AV.one _ from rfl) (.nil)))), by intro y hy vs e; subst e; simp at hy⟩) rfl rfl rfl ?_⟩
        (repeat' (first | exact TLe.refl _ | exact VLe.refl _ | exact CLe.refl _ | exact All2.nil | refine TLe.tup ?_ | refine TLe.v ?_ | refine All2.cons ?_ ?_ | refine VLe.agg ?_ | refine VLe.one ?_ | exact CLe.nil _ | exact CLe.emp _ | refine CLe.val ?_ | refine CLe.slc ?_ ?_))
      replace h := Md.cond_f h c8
      refine aw_skip ?_
      refine aw_seq ?_
      refine aw_region ?_
      refine aops_step1 rfl (st_move rfl rfl) ?_
      refine aops_step1 rfl (ev_add rfl rfl rfl (Md.wrap_W _)) ?_
      refine aops_step1 rfl (st_assign rfl rfl) ?_
      refine aops_nil ?_
      refine aw_seq ?_
      refine aw_seq ?_
      refine aw_region ?_
      refine aops_step1 rfl (st_move rfl rfl) ?_
      refine aops_step1 rfl (ev_len_slc rfl rfl) ?_
      refine aops_step1 rfl (st_move rfl rfl) ?_
      refine aops_step1 rfl (ev_sub rfl rfl rfl (Md.wrap_W _)) ?_
      refine aops_step1 rfl (st_move rfl rfl) ?_
      refine aops_step1 rfl (ev_add rfl rfl rfl (Md.wrap_W _)) ?_
      refine aops_step1 rfl (ev_cmp rfl rfl rfl rfl) ?_
      refine aops_nil ?_
      refine aw_cond rfl (fun c9 => ?_) (fun c9 => ?_)
      · replace h := Md.cond_t h c9
        refine aw_seq ?_
        refine aw_region ?_
        refine aops_step1 rfl (st_assign rfl rfl) ?_
        refine aops_step1 rfl (st_assign rfl rfl) ?_
        refine aops_step1 rfl (st_assign rfl rfl) ?_
        refine aops_step1 rfl (st_assign rfl rfl) ?_
        refine aops_nil ?_
        cases Option.some.inj h
        refine aw_ret ⟨rfl, ret_v (.inr ⟨by decide, _, rfl, .cons (show get _ _ = AV.one _ from rfl) (.cons (show get _ _ = AV.one _ from rfl) (.cons (show get _ _ = AV.one _ from rfl) (.cons (show get _ _ = AV.one _ from rfl) (.nil)))), by intro y hy vs e; subst e; simp at hy⟩) rfl rfl rfl ?_⟩
        (repeat' (first | exact TLe.refl _ | exact VLe.refl _ | exact CLe.refl _ | exact All2.nil | refine TLe.tup ?_ | refine TLe.v ?_ | refine All2.cons ?_ ?_ | refine VLe.agg ?_ | refine VLe.one ?_ | exact CLe.nil _ | exact CLe.emp _ | refine CLe.val ?_ | refine CLe.slc ?_ ?_))
      replace h := Md.cond_f h c9
      refine aw_skip ?_
      refine aw_seq ?_
      refine aw_region ?_
      refine aops_step1 rfl (st_move rfl rfl) ?_
      refine aops_step1 rfl (st_move rfl rfl) ?_
      refine aops_step1 rfl (ev_add rfl rfl rfl (Md.wrap_W _)) ?_
      refine aops_step1 rfl (st_assign rfl rfl) ?_
      refine aops_nil ?_
      refine aw_seq ?_
      obtain ⟨g10, h⟩ := Md.ifp_s h
      obtain ⟨g11, h⟩ := Md.ifp_s h
      obtain ⟨x12, hx12, h⟩ := Md.bind_s h
      obtain ⟨x13, hx13, h⟩ := Md.bind_s h
      obtain ⟨g14, h⟩ := Md.ifp_s h
      obtain ⟨g15, h⟩ := Md.ifp_s h
      obtain ⟨g16, h⟩ := Md.ifp_s h
      refine aw_seq ?_
      apply aw_draw 12 ((⟨[], .one (CV.ls byC a0)⟩ : Add) :: ⟨[], .one (.val (.int .i64 (Md.W ((Md.W (3 + x7.2.1)) + x7.1))))⟩ :: ⟨[], .one (CV.ls byC (a0.take (((Md.W ((Md.W (3 + x7.2.1)) + x7.1))).toNat)))⟩ :: ⟨[], .one (.val (.int .u32 (x12.toNat : Int)))⟩ :: ⟨[], .one (CV.ls byC x13)⟩ :: ⟨[], .one (.val (Sv x13))⟩ :: ⟨[], .one (CV.ls byC a0)⟩ :: ⟨[], .one (.val (.int .i64 (Md.W ((Md.W (3 + x7.2.1)) + x7.1))))⟩ :: ⟨[], .one (.val (.int .i64 (Md.W ((Md.W (3 + x7.2.1)) + x7.1))))⟩ :: ⟨[], .one (.val (.int .i64 (Md.W ((Md.W ((Md.W (3 + x7.2.1)) + x7.1)) + 4))))⟩ :: ⟨[], .one (CV.ls byC ((a0.drop (((Md.W ((Md.W (3 + x7.2.1)) + x7.1))).toNat)).take (((Md.W ((Md.W ((Md.W (3 + x7.2.1)) + x7.1)) + 4))).toNat - (((Md.W ((Md.W (3 + x7.2.1)) + x7.1))).toNat))))⟩ :: ⟨[], .one (.val (Sv ((a0.drop (((Md.W ((Md.W (3 + x7.2.1)) + x7.1))).toNat)).take (((Md.W ((Md.W ((Md.W (3 + x7.2.1)) + x7.1)) + 4))).toNat - (((Md.W ((Md.W (3 + x7.2.1)) + x7.1))).toNat)))))⟩ :: []) (by decide) rfl ?hk1x ?hf1x ?ho1x ?hr1x
      case ho1x =>
       refine ⟨⟨[], (by decide +kernel), fun S hle hfr => ?_⟩, ?_⟩
       · exact .inl ⟨.inl ⟨rfl, rfl⟩, st_move (hle.ev rfl (by nofun)) (hle.d rfl)⟩
       refine ⟨⟨[], (by decide +kernel), fun S hle hfr => ?_⟩, ?_⟩
       · exact .inl ⟨.inl ⟨rfl, rfl⟩, st_move (hle.ev rfl (by nofun)) (hle.d rfl)⟩
       refine ⟨⟨0 :: 1 :: [], (by decide +kernel), fun S hle hfr => ?_⟩, ?_⟩
       · exact .inl ⟨.inl ⟨rfl, rfl⟩, st_cut_hi (f := byC) (fun _ => rfl) (hle.ev rfl (by nofun)) ⟨_, _, (hle.ev rfl (by nofun)), (Md.nn_eq g10)⟩ g11 (hle.d rfl)⟩
       refine ⟨⟨2 :: 0 :: 1 :: [], (by decide +kernel), fun S hle hfr => ?_⟩, ?_⟩
       · exact .inl ⟨.inl ⟨rfl, rfl⟩, ev_call_v (wire_Checksum_fn k (a0.take (((Md.W ((Md.W (3 + x7.2.1)) + x7.1))).toNat)) x12 hx12) (map_ev (.cons (hle.ev rfl (by nofun)) (.nil))) [] (by repeat' (first | exact All2.nil | refine All2.cons ?_ ?_ | refine ArgV.one ?_ | refine ArgV.agg ?_ | exact ArgC.mk rfl | exact ArgC.lend (hle.heap _ _ rfl) (by simp) | exact ArgC.le (CLe.nil _) rfl | exact ArgC.le (CLe.emp _) rfl | exact ArgC.le (CLe.any _) rfl)) rfl rfl rfl (.inl rfl) (hle.d rfl)⟩
       refine ⟨⟨3 :: 2 :: 0 :: 1 :: [], (by decide +kernel), fun S hle hfr => ?_⟩, ?_⟩
       · exact .inl ⟨.inl ⟨rfl, rfl⟩, st_call_z (fnc_nil (wire_word_fn k ([] : List UInt8) x12 x13 hx13) rfl) (map_ev (.cons (hle.ev rfl (by nofun)) (.cons (hle.ev rfl (by nofun)) (.nil)))) [] (fun _ => (by repeat' (first | exact All2.nil | refine All2.cons ?_ ?_ | refine ArgV.one ?_ | refine ArgV.agg ?_ | exact ArgC.mk rfl | exact ArgC.lend (hle.heap _ _ rfl) (by simp) | exact ArgC.le (CLe.nil _) rfl | exact ArgC.le (CLe.emp _) rfl | exact ArgC.le (CLe.any _) rfl))) rfl (.inl rfl) (hle.d rfl)⟩
       refine ⟨⟨4 :: 3 :: 2 :: 0 :: 1 :: [], (by decide +kernel), fun S hle hfr => ?_⟩, ?_⟩
       · exact .inl ⟨.inl ⟨rfl, rfl⟩, ev_str_bytes (.inl (hle.ev rfl (by nofun))) Try.underlying22 Try.underlying5 Try.underlying9 (hle.d rfl)⟩
       refine ⟨⟨[], (by decide +kernel), fun S hle hfr => ?_⟩, ?_⟩
       · exact .inl ⟨.inl ⟨rfl, rfl⟩, st_move (hle.ev rfl (by nofun)) (hle.d rfl)⟩
       refine ⟨⟨[], (by decide +kernel), fun S hle hfr => ?_⟩, ?_⟩
       · exact .inl ⟨.inl ⟨rfl, rfl⟩, st_move (hle.ev rfl (by nofun)) (hle.d rfl)⟩
       refine ⟨⟨[], (by decide +kernel), fun S hle hfr => ?_⟩, ?_⟩
       · exact .inl ⟨.inl ⟨rfl, rfl⟩, st_move (hle.ev rfl (by nofun)) (hle.d rfl)⟩
       refine ⟨⟨8 :: [], (by decide +kernel), fun S hle hfr => ?_⟩, ?_⟩
       · exact .inl ⟨.inl ⟨rfl, rfl⟩, ev_add (hle.ev rfl (by nofun)) (hle.ev rfl (by nofun)) (hle.d rfl) (Md.wrap_W _)⟩
       refine ⟨⟨6 :: 7 :: 9 :: 8 :: [], (by decide +kernel), fun S hle hfr => ?_⟩, ?_⟩
       · exact .inl ⟨.inl ⟨rfl, rfl⟩, st_cut_both (f := byC) (fun _ => rfl) (hle.ev rfl (by nofun)) ⟨_, _, (hle.ev rfl (by nofun)), (Md.nn_eq g14)⟩ ⟨_, _, (hle.ev rfl (by nofun)), (Md.nn_eq g15)⟩ g16 (hle.d rfl)⟩
       refine ⟨⟨10 :: 6 :: 7 :: 9 :: 8 :: [], (by decide +kernel), fun S hle hfr => ?_⟩, ?_⟩
       · exact .inl ⟨.inl ⟨rfl, rfl⟩, ev_str_bytes (.inl (hle.ev rfl (by nofun))) Try.underlying22 Try.underlying5 Try.underlying9 (hle.d rfl)⟩
       exact trivial
      case hk1x => rfl
      case hf1x => rfl
      refine aops_step1 rfl (st_str_ne rfl rfl rfl) ?_
      refine aops_nil ?_
      refine aw_cond rfl (fun c17 => ?_) (fun c17 => ?_)
      · replace h := Md.cond_t h c17
        refine aw_seq ?_
        refine aw_region ?_
        refine aops_step1 rfl (st_assign rfl rfl) ?_
        refine aops_step1 rfl (st_assign rfl rfl) ?_
        refine aops_step1 rfl (st_assign rfl rfl) ?_
        refine aops_step1 rfl (st_assign rfl rfl) ?_
        refine aops_nil ?_
        cases Option.some.inj h
        refine aw_ret ⟨rfl, ret_v (.inr ⟨by decide, _, rfl, .cons (show get _ _ = AV.one _ from rfl) (.cons (show get _ _ = AV.one _ from rfl) (.cons (show get _ _ = AV.one _ from rfl) (.cons (show get _ _ = AV.one _ from rfl) (.nil)))), by intro y hy vs e; subst e; simp at hy⟩) rfl rfl rfl ?_⟩
        (repeat' (first | exact TLe.refl _ | exact VLe.refl _ | exact CLe.refl _ | exact All2.nil | refine TLe.tup ?_ | refine TLe.v ?_ | refine All2.cons ?_ ?_ | refine VLe.agg ?_ | refine VLe.one ?_ | exact CLe.nil _ | exact CLe.emp _ | refine CLe.val ?_ | refine CLe.slc ?_ ?_))
      replace h := Md.cond_f h c17
      refine aw_skip ?_
      obtain ⟨g18, h⟩ := Md.ifp_s h
      obtain ⟨g19, h⟩ := Md.ifp_s h
      obtain ⟨g20, h⟩ := Md.ifp_s h
      obtain ⟨g21, h⟩ := Md.ifp_s h
      obtain ⟨x22, hx22, h⟩ := Md.bind_s h
      refine aw_seq ?_
      apply aw_draw 13 ((⟨[], .one (CV.ls byC a0)⟩ : Add) :: ⟨[], .one (.cptr _)⟩ :: ⟨[], .one (.val (.int .u8 (((a0.getD 2 default)).toNat : Int)))⟩ :: ⟨[], .one (.val (.int .i64 (((a0.getD 2 default).toNat : Nat) : Int)))⟩ :: ⟨[], .one (CV.ls byC a0)⟩ :: ⟨[], .one (.val (.int .i64 (Md.W (3 + x7.2.1))))⟩ :: ⟨[], .one (.val (.int .i64 (Md.W ((Md.W (3 + x7.2.1)) + x7.1))))⟩ :: ⟨[], .one (CV.ls byC ((a0.drop (((Md.W (3 + x7.2.1))).toNat)).take (((Md.W ((Md.W (3 + x7.2.1)) + x7.1))).toNat - (((Md.W (3 + x7.2.1))).toNat))))⟩ :: ⟨[], .one (CV.ls byC x22)⟩ :: ⟨[], .one (.val (.int .i64 (Md.W ((Md.W (3 + x7.2.1)) + x7.1))))⟩ :: ⟨[], .one (.val (.int .i64 (Md.W ((Md.W ((Md.W (3 + x7.2.1)) + x7.1)) + 4))))⟩ :: ⟨[], .one (.val (.int .i64 (((a0.getD 2 default).toNat : Nat) : Int)))⟩ :: ⟨[], .one (CV.ls byC x22)⟩ :: []) (by decide) rfl ?hk2x ?hf2x ?ho2x ?hr2x
      case ho2x =>
       refine ⟨⟨[], (by decide +kernel), fun S hle hfr => ?_⟩, ?_⟩
       · exact .inl ⟨.inl ⟨rfl, rfl⟩, st_move (hle.ev rfl (by nofun)) (hle.d rfl)⟩
       refine ⟨⟨0 :: [], (by decide +kernel), fun S hle hfr => ?_⟩, ?_⟩
       · exact .inl ⟨.inl ⟨rfl, rfl⟩, ev_index_in (hle.ev rfl (by nofun)) (hle.ev rfl (by nofun)) rfl g18 rfl (hle.d rfl)⟩
       refine ⟨⟨1 :: 0 :: [], (by decide +kernel), fun S hle hfr => ?_⟩, ?_⟩
       · exact .inl ⟨.inl ⟨rfl, rfl⟩, ev_load_in (hle.ev rfl (by nofun)) rfl (hle.d rfl)⟩
       refine ⟨⟨2 :: 1 :: 0 :: [], (by decide +kernel), fun S hle hfr => ?_⟩, ?_⟩
       · exact .inl ⟨.inl ⟨rfl, rfl⟩, st_conv_int (hle.ev rfl (by nofun)) (hle.d rfl) Try.underlying5 Try.underlying3 (Md.conv_u8_i64 (a0.getD 2 default))⟩
       refine ⟨⟨[], (by decide +kernel), fun S hle hfr => ?_⟩, ?_⟩
       · exact .inl ⟨.inl ⟨rfl, rfl⟩, st_move (hle.ev rfl (by nofun)) (hle.d rfl)⟩
       refine ⟨⟨[], (by decide +kernel), fun S hle hfr => ?_⟩, ?_⟩
       · exact .inl ⟨.inl ⟨rfl, rfl⟩, st_move (hle.ev rfl (by nofun)) (hle.d rfl)⟩
       refine ⟨⟨[], (by decide +kernel), fun S hle hfr => ?_⟩, ?_⟩
       · exact .inl ⟨.inl ⟨rfl, rfl⟩, st_move (hle.ev rfl (by nofun)) (hle.d rfl)⟩
       refine ⟨⟨4 :: 5 :: 6 :: [], (by decide +kernel), fun S hle hfr => ?_⟩, ?_⟩
       · exact .inl ⟨.inl ⟨rfl, rfl⟩, st_cut_both (f := byC) (fun _ => rfl) (hle.ev rfl (by nofun)) ⟨_, _, (hle.ev rfl (by nofun)), (Md.nn_eq g19)⟩ ⟨_, _, (hle.ev rfl (by nofun)), (Md.nn_eq g20)⟩ g21 (hle.d rfl)⟩
       refine ⟨⟨7 :: 4 :: 5 :: 6 :: [], (by decide +kernel), fun S hle hfr => ?_⟩, ?_⟩
       · exact .inl ⟨.inl ⟨rfl, rfl⟩, st_call_z (wire_extend_fn k ((a0.drop (((Md.W (3 + x7.2.1))).toNat)).take (((Md.W ((Md.W (3 + x7.2.1)) + x7.1))).toNat - (((Md.W (3 + x7.2.1))).toNat))) 0 x22 hx22) (map_ev (.cons (hle.ev rfl (by nofun)) (.cons (hle.ev rfl (by nofun)) (.nil)))) [] (fun _ => (by repeat' (first | exact All2.nil | refine All2.cons ?_ ?_ | refine ArgV.one ?_ | refine ArgV.agg ?_ | exact ArgC.mk rfl | exact ArgC.lend (hle.heap _ _ rfl) (by simp) | exact ArgC.le (CLe.nil _) rfl | exact ArgC.le (CLe.emp _) rfl | exact ArgC.le (CLe.any _) rfl))) rfl (.inl rfl) (hle.d rfl)⟩
       refine ⟨⟨[], (by decide +kernel), fun S hle hfr => ?_⟩, ?_⟩
       · exact .inl ⟨.inl ⟨rfl, rfl⟩, st_move (hle.ev rfl (by nofun)) (hle.d rfl)⟩
       refine ⟨⟨9 :: [], (by decide +kernel), fun S hle hfr => ?_⟩, ?_⟩
       · exact .inl ⟨.inl ⟨rfl, rfl⟩, ev_add (hle.ev rfl (by nofun)) (hle.ev rfl (by nofun)) (hle.d rfl) (Md.wrap_W _)⟩
       refine ⟨⟨3 :: 8 :: 0 :: 1 :: 2 :: 7 :: 4 :: 5 :: 6 :: [], (by decide +kernel), fun S hle hfr => ?_⟩, ?_⟩
       · exact .inl ⟨.inl ⟨rfl, rfl⟩, st_assign (hle.ev rfl (by nofun)) (hle.d rfl)⟩
       refine ⟨⟨8 :: 11 :: 0 :: 1 :: 2 :: 3 :: 4 :: 5 :: 6 :: 7 :: [], (by decide +kernel), fun S hle hfr => ?_⟩, ?_⟩
       · exact .inl ⟨.inl ⟨rfl, rfl⟩, st_assign (hle.ev rfl (by nofun)) (hle.d rfl)⟩
       exact trivial
      case hk2x => rfl
      case hf2x => rfl
      refine aops_step1 rfl (st_assign rfl rfl) ?_
      refine aops_step1 rfl (st_assign rfl rfl) ?_
      refine aops_nil ?_
      cases Option.some.inj h
      refine aw_ret ⟨rfl, ret_v (.inr ⟨by decide, _, rfl, .cons (show get _ _ = AV.one _ from rfl) (.cons (show get _ _ = AV.one _ from rfl) (.cons (show get _ _ = AV.one _ from rfl) (.cons (show get _ _ = AV.one _ from rfl) (.nil)))), by intro y hy vs e; subst e; simp at hy⟩) rfl rfl rfl ?_⟩
      (repeat' (first | exact TLe.refl _ | exact VLe.refl _ | exact CLe.refl _ | exact All2.nil | refine TLe.tup ?_ | refine TLe.v ?_ | refine All2.cons ?_ ?_ | refine VLe.agg ?_ | refine VLe.one ?_ | exact CLe.nil _ | exact CLe.emp _ | refine CLe.val ?_ | refine CLe.slc ?_ ?_))
    rcases Md.bool_or (x3) with q4 | q4
    · replace j4 := Md.cond_t j4 q4
      refine aops_no rfl rfl rfl rfl rfl (by first | decide | (rw [q4]; decide)) ?_
      refine aops_no rfl rfl rfl rfl rfl (by first | decide | (rw [q4]; decide)) ?_
      refine aops_no rfl rfl rfl rfl rfl (by first | decide | (rw [q4]; decide)) ?_
      refine aops_no rfl rfl rfl rfl rfl (by first | decide | (rw [q4]; decide)) ?_
      refine aops_step1 rfl (st_pick_yes rfl (by first | rfl | exact q4) rfl rfl) ?_
      refine aops_nil ?_
      show ∃ _x : Bool, _ = _ ∧ Weak _ _
      exact ⟨true, Option.some.inj j4, (by (refine weak_mk rfl rfl ?_ ?_ rfl <;> repeat' (first | exact trivial | refine ⟨?_, ?_⟩ | exact VLe.refl _ | exact BLe.refl _ | refine VLe.one (CLe.val ?_) | exact VLe.one (CLe.nil _) | exact VLe.one (CLe.emp _))))⟩
    replace j4 := Md.cond_f j4 q4
    refine aops_yes rfl rfl rfl rfl q4 (st_move rfl rfl) ?_
    obtain ⟨g23, j4⟩ := Md.ifp_s j4
    refine aops_yes rfl rfl rfl rfl q4 (ev_index_in rfl rfl rfl g23 rfl rfl) ?_
    refine aops_yes rfl rfl rfl rfl q4 (ev_load_in rfl rfl rfl) ?_
    refine aops_yes rfl rfl rfl rfl q4 (ev_cmp rfl rfl rfl rfl) ?_
    refine aops_step1 rfl (st_pick_no rfl (by first | rfl | exact q4) rfl rfl) ?_
    refine aops_nil ?_
    show ∃ _x : Bool, _ = _ ∧ Weak _ _
    exact ⟨((((a0.getD 2 default)).toNat : Int) == 0), Option.some.inj j4, (by (refine weak_mk rfl rfl ?_ ?_ rfl <;> repeat' (first | exact trivial | refine ⟨?_, ?_⟩ | exact VLe.refl _ | exact BLe.refl _ | refine VLe.one (CLe.val ?_) | exact VLe.one (CLe.nil _) | exact VLe.one (CLe.emp _))))⟩
  rcases Md.bool_or (((((a0.getD 0 default)).toNat : Int) != 65)) with q3 | q3
  · replace j3 := Md.cond_t j3 q3
    refine aops_no rfl rfl rfl rfl rfl (by first | decide | (rw [q3]; decide)) ?_
    refine aops_no rfl rfl rfl rfl rfl (by first | decide | (rw [q3]; decide)) ?_
    refine aops_no rfl rfl rfl rfl rfl (by first | decide | (rw [q3]; decide)) ?_
    refine aops_no rfl rfl rfl rfl rfl (by first | decide | (rw [q3]; decide)) ?_
    refine aops_step1 rfl (st_pick_yes rfl (by first | rfl | exact q3) rfl rfl) ?_
    refine aops_nil ?_
    show ∃ _x : Bool, _ = _ ∧ Weak _ _
    exact ⟨true, Option.some.inj j3, (by (refine weak_mk rfl rfl ?_ ?_ rfl <;> repeat' (first | exact trivial | refine ⟨?_, ?_⟩ | exact VLe.refl _ | exact BLe.refl _ | refine VLe.one (CLe.val ?_) | exact VLe.one (CLe.nil _) | exact VLe.one (CLe.emp _))))⟩
  replace j3 := Md.cond_f j3 q3
  refine aops_yes rfl rfl rfl rfl q3 (st_move rfl rfl) ?_
  obtain ⟨g24, j3⟩ := Md.ifp_s j3
  refine aops_yes rfl rfl rfl rfl q3 (ev_index_in rfl rfl rfl g24 rfl rfl) ?_
  refine aops_yes rfl rfl rfl rfl q3 (ev_load_in rfl rfl rfl) ?_
  refine aops_yes rfl rfl rfl rfl q3 (ev_cmp rfl rfl rfl rfl) ?_
  refine aops_step1 rfl (st_pick_no rfl (by first | rfl | exact q3) rfl rfl) ?_
  refine aops_nil ?_
  show ∃ _x : Bool, _ = _ ∧ Weak _ _
  exact ⟨((((a0.getD 1 default)).toNat : Int) != 71), Option.some.inj j3, (by (refine weak_mk rfl rfl ?_ ?_ rfl <;> repeat' (first | exact trivial | refine ⟨?_, ?_⟩ | exact VLe.refl _ | exact BLe.refl _ | refine VLe.one (CLe.val ?_) | exact VLe.one (CLe.nil _) | exact VLe.one (CLe.emp _))))⟩
end Md
end Go.Proofs.Ytbnjdkpangmneaa
