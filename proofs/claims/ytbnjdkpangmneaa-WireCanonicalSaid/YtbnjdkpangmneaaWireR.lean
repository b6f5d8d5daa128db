/-
  WireR: where a function's model gives a value, the function returns what reads as it (printed by wip/tools/auto.py). Condition of each: the model gives a value.
-/
import Derived.Test.YtbnjdkpangmneaaWireRM
import Derived.Test.YtbnjdkpangmneaaWireC
namespace Go.Proofs.Ytbnjdkpangmneaa
open Go.ChangeShapes Go.WideShapes Go.RowKit
open Abs
set_option linter.unusedVariables false
set_option linter.unusedSimpArgs false
set_option maxRecDepth 10000
namespace Md
set_option maxHeartbeats 2000000 in
theorem actorgridref1_Uint_fn (k : Nat) (a0 : UInt64) (r : (List UInt8)) (h : actorgridref1_Uint k a0 = some r) : FnC Try.prog 45 [.one (.val (.int .u64 (a0.toNat : Int)))] [] (Det (.one (.own 0)) [(0, some (.row 5 1 r.length (lsEl byC r)))]) := by
  unfold actorgridref1_Uint at h
  refine fn_intro' 20 Try.func45 rfl rfl rfl ?_
  refine aw_seq ?_
  refine aw_region ?_
  refine aops_step1 rfl (st_assign rfl rfl) ?_
  refine aops_nil ?_
  refine aw_seq ?_
  refine aw_region ?_
  refine aops_step1 rfl (st_assign rfl rfl) ?_
  refine aops_nil ?_
  refine aw_seq ?_
  refine aw_block ?_
  refine aw_own_nil 3 0 5 1 (lsEl byC []) rfl rfl ?_
  obtain ⟨o1, ho1, h⟩ := Md.bind_s h
  refine aw_loop_x (ι := {p : Nat × UInt64 × (List UInt8) // actorgridref1_Uint_loop1 k p.1 p.2.1 p.2.2 = some o1}) (fun p => (⟨20, [], [(0, .one (.val (.int .u64 (p.1.2.1.toNat : Int)))), (3, .one (.own 0))], [(0, some (.row 5 1 p.1.2.2.length (lsEl byC p.1.2.2)))]⟩ : ASt)) (fun p => p.1.1) ⟨(k, a0, ([] : List UInt8)), ho1⟩ (by (refine weak_mk rfl rfl ?_ ?_ rfl <;> repeat' (first | exact trivial | refine ⟨?_, ?_⟩ | exact VLe.refl _ | exact BLe.refl _ | refine VLe.one (CLe.val ?_) | exact VLe.one (CLe.nil _) | exact VLe.one (CLe.emp _)))) 0 (ε := (UInt64 × (List UInt8))) (fun x => (⟨20, [], [(0, .one (.val (.int .u64 (x.1.toNat : Int)))), (3, .one (.own 0))], [(0, some (.row 5 1 x.2.length (lsEl byC x.2)))]⟩ : ASt)) (fun x => x = o1) (fun _ _ w h => aw_weak w h) ?_ ?_
  · intro x1_0 hI1
    subst hI1
    change AW _ _ (⟨20, [], [(0, .one (.val (.int .u64 (x1_0.1.toNat : Int)))), (3, .one (.own 0))], [(0, some (.row 5 1 x1_0.2.length (lsEl byC x1_0.2)))]⟩ : ASt) _
    refine aw_seq ?_
    refine aw_region ?_
    refine aops_step1 rfl (st_move rfl rfl) ?_
    refine aops_step1 rfl (st_move rfl rfl) ?_
    refine aops_step1 rfl (st_conv_int rfl rfl Try.underlying61 Try.underlying5 (Md.conv_u64_u8 x1_0.1)) ?_
    refine aops_step1 rfl (st_slice_lit (el := lsEl byC [(x1_0.1.toUInt8)]) 1 rfl rfl rfl rfl rfl rfl rfl rfl (lit_el byC 1 [(x1_0.1.toUInt8)] (fun _ => rfl)) rfl) ?_
    obtain ⟨g2, h⟩ := Md.ifp_s h
    refine aops_step1 rfl (st_app_ls (f := byC) x1_0.2 [(x1_0.1.toUInt8)] (fun _ => rfl) rfl rfl (.inr ⟨_, _, rfl, rfl⟩) (by omega) (by omega) rfl) ?_
    refine aops_step1 rfl (st_assign rfl rfl) ?_
    refine aops_nil ?_
    cases Option.some.inj h
    refine aw_ret ⟨rfl, ret_r 0 (.inl ⟨_, rfl, rfl, fun _ e => nomatch e⟩) rfl rfl rfl ?_ ?_ ?_⟩
    · first | exact TLe.refl _ | (repeat' (first | exact TLe.refl _ | exact VLe.refl _ | exact CLe.refl _ | exact All2.nil | refine TLe.tup ?_ | refine TLe.v ?_ | refine All2.cons ?_ ?_ | refine VLe.agg ?_ | refine VLe.one ?_ | exact CLe.nil _ | exact CLe.emp _ | refine CLe.val ?_ | refine CLe.slc ?_ ?_))
    · rfl
    · rfl
  intro p1
  obtain ⟨⟨n1, s1_0, s1_1⟩, l1⟩ := p1
  change AW _ _ (⟨20, [], [(0, .one (.val (.int .u64 (s1_0.toNat : Int)))), (3, .one (.own 0))], [(0, some (.row 5 1 s1_1.length (lsEl byC s1_1)))]⟩ : ASt) _
  replace l1 : actorgridref1_Uint_loop1 k n1 s1_0 s1_1 = some o1 := l1
  rcases n1 with _ | n1
  · exact absurd (show none = some o1 from l1) nofun
  rw [actorgridref1_Uint_loop1] at l1
  refine aw_seq ?_
  refine aw_seq ?_
  refine aw_region ?_
  refine aops_step1 rfl (st_move rfl rfl) ?_
  refine aops_step1 rfl (ev_cmp rfl rfl rfl rfl) ?_
  refine aops_nil ?_
  refine aw_cond rfl (fun c3 => ?_) (fun c3 => ?_)
  · replace l1 := Md.cond_t l1 c3
    refine aw_skip ?_
    refine aw_block ?_
    refine aw_seq ?_
    refine aw_region ?_
    refine aops_step1 rfl (st_move rfl rfl) ?_
    refine aops_step1 rfl (st_move rfl rfl) ?_
    refine aops_step1 rfl (ev_rem rfl rfl rfl (by decide) (Md.rem_u64 s1_0 (128 : UInt64))) ?_
    refine aops_step1 rfl (st_conv_int rfl rfl Try.underlying61 Try.underlying5 (Md.conv_u64_u8 (s1_0 % (128 : UInt64)))) ?_
    refine aops_step1 rfl (ev_add rfl rfl rfl (Md.add_u8 ((s1_0 % (128 : UInt64)).toUInt8) (128 : UInt8))) ?_
    refine aops_step1 rfl (st_slice_lit (el := lsEl byC [(((s1_0 % (128 : UInt64)).toUInt8) + (128 : UInt8))]) 1 rfl rfl rfl rfl rfl rfl rfl rfl (lit_el byC 1 [(((s1_0 % (128 : UInt64)).toUInt8) + (128 : UInt8))] (fun _ => rfl)) rfl) ?_
    obtain ⟨g4, l1⟩ := Md.ifp_s l1
    refine aops_step1 rfl (st_app_ls (f := byC) s1_1 [(((s1_0 % (128 : UInt64)).toUInt8) + (128 : UInt8))] (fun _ => rfl) rfl rfl (.inr ⟨_, _, rfl, rfl⟩) (by omega) (by omega) rfl) ?_
    refine aops_step1 rfl (st_assign rfl rfl) ?_
    refine aops_nil ?_
    refine aw_region ?_
    refine aops_step1 rfl (st_move rfl rfl) ?_
    refine aops_step1 rfl (ev_quo rfl rfl rfl (by decide) (Md.quo_u64 s1_0 (128 : UInt64))) ?_
    refine aops_step1 rfl (st_assign rfl rfl) ?_
    refine aops_nil ?_
    exact ⟨⟨(n1, (s1_0 / (128 : UInt64)), (s1_1 ++ [(((s1_0 % (128 : UInt64)).toUInt8) + (128 : UInt8))])), l1⟩, Nat.lt_succ_self _, (by (refine weak_mk rfl rfl ?_ ?_ rfl <;> repeat' (first | exact trivial | refine ⟨?_, ?_⟩ | exact VLe.refl _ | exact BLe.refl _ | refine VLe.one (CLe.val ?_) | exact VLe.one (CLe.nil _) | exact VLe.one (CLe.emp _))))⟩
  replace l1 := Md.cond_f l1 c3
  refine aw_exit ?_
  show ∃ _x : UInt64 × (List UInt8), _ = _ ∧ Weak _ _
  exact ⟨(s1_0, s1_1), Option.some.inj l1, (by (refine weak_mk rfl rfl ?_ ?_ rfl <;> repeat' (first | exact trivial | refine ⟨?_, ?_⟩ | exact VLe.refl _ | exact BLe.refl _ | refine VLe.one (CLe.val ?_) | exact VLe.one (CLe.nil _) | exact VLe.one (CLe.emp _))))⟩
set_option maxHeartbeats 2000000 in
theorem actorgridref1_ReadUint_fn (k : Nat) (a0 : List UInt8) (r : UInt64 × Int × Int) (h : actorgridref1_ReadUint k a0 = some r) : FnC Try.prog 41 [.one (CV.ls byC a0)] [] (Det (.tup [.one (.val (.int .u64 (r.1.toNat : Int))), .one (.val (.int .i64 r.2.1)), .one (.val (.int .i64 r.2.2))]) []) := by
  unfold actorgridref1_ReadUint at h
  refine fn_intro' 46 Try.func41 rfl rfl rfl ?_
  refine aw_seq ?_
  refine aw_region ?_
  refine aops_step1 rfl (st_assign rfl rfl) ?_
  refine aops_step1 rfl (st_assign rfl rfl) ?_
  refine aops_step1 rfl (st_assign rfl rfl) ?_
  refine aops_nil ?_
  refine aw_seq ?_
  refine aw_region ?_
  refine aops_step1 rfl (st_assign rfl rfl) ?_
  refine aops_nil ?_
  refine aw_seq ?_
  refine aw_region ?_
  refine aops_step1 rfl (st_assign rfl rfl) ?_
  refine aops_nil ?_
  refine aw_block ?_
  obtain ⟨o1, ho1, h⟩ := Md.bind_s h
  refine aw_loop (ι := {p : Nat × UInt64 × Nat // actorgridref1_ReadUint_loop1 k a0 p.1 p.2.1 p.2.2 = some o1}) (fun p => (⟨46, [], [(0, .one (CV.ls byC a0)), (5, .one (.val (.int .u64 (p.1.2.1.toNat : Int)))), (6, .one (.val (.int .i64 ((p.1.2.2 : Nat) : Int))))], []⟩ : ASt)) (fun p => p.1.1) ⟨(k, (0 : UInt64), 0), ho1⟩ (by (refine weak_mk rfl rfl ?_ ?_ rfl <;> repeat' (first | exact trivial | refine ⟨?_, ?_⟩ | exact VLe.refl _ | exact BLe.refl _ | refine VLe.one (CLe.val ?_) | exact VLe.one (CLe.nil _) | exact VLe.one (CLe.emp _)))) ?_
  intro p1
  obtain ⟨⟨n1, s1_0, s1_1⟩, l1⟩ := p1
  change AW _ _ (⟨46, [], [(0, .one (CV.ls byC a0)), (5, .one (.val (.int .u64 (s1_0.toNat : Int)))), (6, .one (.val (.int .i64 ((s1_1 : Nat) : Int))))], []⟩ : ASt) _
  replace l1 : actorgridref1_ReadUint_loop1 k a0 n1 s1_0 s1_1 = some o1 := l1
  rcases n1 with _ | n1
  · exact absurd (show none = some o1 from l1) nofun
  rw [actorgridref1_ReadUint_loop1] at l1
  refine aw_seq ?_
  refine aw_block ?_
  refine aw_seq ?_
  refine aw_seq ?_
  refine aw_region ?_
  refine aops_step1 rfl (st_move rfl rfl) ?_
  refine aops_step1 rfl (st_move rfl rfl) ?_
  refine aops_step1 rfl (ev_len_slc rfl rfl) ?_
  refine aops_step1 rfl (ev_cmp rfl rfl rfl rfl) ?_
  refine aops_nil ?_
  refine aw_cond rfl (fun c2 => ?_) (fun c2 => ?_)
  · replace l1 := Md.cond_t l1 c2
    refine aw_seq ?_
    refine aw_region ?_
    refine aops_step1 rfl (st_assign rfl rfl) ?_
    refine aops_step1 rfl (st_assign rfl rfl) ?_
    refine aops_step1 rfl (st_assign rfl rfl) ?_
    refine aops_nil ?_
    cases Option.some.inj l1
    cases Option.some.inj h
    refine aw_ret ⟨rfl, ret_v (.inr ⟨by decide, _, rfl, .cons (show get _ _ = AV.one _ from rfl) (.cons (show get _ _ = AV.one _ from rfl) (.cons (show get _ _ = AV.one _ from rfl) (.nil))), by intro y hy vs e; subst e; simp at hy⟩) rfl rfl rfl ?_⟩
    (repeat' (first | exact TLe.refl _ | exact VLe.refl _ | exact CLe.refl _ | exact All2.nil | refine TLe.tup ?_ | refine TLe.v ?_ | refine All2.cons ?_ ?_ | refine VLe.agg ?_ | refine VLe.one ?_ | exact CLe.nil _ | exact CLe.emp _ | refine CLe.val ?_ | refine CLe.slc ?_ ?_))
  replace l1 := Md.cond_f l1 c2
  refine aw_skip ?_
  refine aw_seq ?_
  refine aw_region ?_
  refine aops_step1 rfl (st_move rfl rfl) ?_
  refine aops_step1 rfl (st_move rfl rfl) ?_
  obtain ⟨g3, l1⟩ := Md.ifp_s l1
  refine aops_step1 rfl (ev_index_in rfl rfl rfl g3 rfl rfl) ?_
  refine aops_step1 rfl (ev_load_in rfl rfl rfl) ?_
  refine aops_step1 rfl (st_assign rfl rfl) ?_
  refine aops_nil ?_
  refine aw_seq ?_
  refine aw_seq ?_
  refine aw_region ?_
  refine aops_step1 rfl (st_move rfl rfl) ?_
  refine aops_step1 rfl (ev_cmp rfl rfl rfl rfl) ?_
  refine aops_step1 rfl (st_move rfl rfl) ?_
  refine aops_mid 3 (⟨46, [], [(0, .one (CV.ls byC a0)), (5, .one (.val (.int .u64 (s1_0.toNat : Int)))), (6, .one (.val (.int .i64 ((s1_1 : Nat) : Int)))), (7, .one (.val (.int .u8 (((a0.getD s1_1 default)).toNat : Int)))), (23, .one (.val (.bool ((((s1_1 : Nat) : Int) == 9) && (decide ((((a0.getD s1_1 default)).toNat : Int) > 1))))))], []⟩ : ASt) ?_ ?_
  · rcases Md.bool_or ((((s1_1 : Nat) : Int) == 9)) with q4 | q4
    · skip
      refine aops_yes rfl rfl rfl rfl q4 (st_move rfl rfl) ?_
      refine aops_yes rfl rfl rfl rfl q4 (ev_cmp rfl rfl rfl rfl) ?_
      refine aops_step1 rfl (st_pick_yes rfl (by first | rfl | exact q4) rfl rfl) ?_
      refine aops_nil ?_
      show Weak _ _
      (refine weak_mk rfl rfl ?_ ?_ rfl <;> repeat' (first | exact trivial | refine ⟨?_, ?_⟩ | exact VLe.refl _ | exact BLe.refl _ | refine VLe.one (CLe.val ?_) | exact VLe.one (CLe.nil _) | exact VLe.one (CLe.emp _))) <;> (first | (rw [q4]; done) | (rw [q4]; rfl) | (simp [q4]; done))
    refine aops_no rfl rfl rfl rfl rfl (by first | decide | (rw [q4]; decide)) ?_
    refine aops_no rfl rfl rfl rfl rfl (by first | decide | (rw [q4]; decide)) ?_
    refine aops_step1 rfl (st_pick_no rfl (by first | rfl | exact q4) rfl rfl) ?_
    refine aops_nil ?_
    show Weak _ _
    (refine weak_mk rfl rfl ?_ ?_ rfl <;> repeat' (first | exact trivial | refine ⟨?_, ?_⟩ | exact VLe.refl _ | exact BLe.refl _ | refine VLe.one (CLe.val ?_) | exact VLe.one (CLe.nil _) | exact VLe.one (CLe.emp _))) <;> (first | (rw [q4]; done) | (rw [q4]; rfl) | (simp [q4]; done))
  change AOps _ _ _ (⟨46, [], [(0, .one (CV.ls byC a0)), (5, .one (.val (.int .u64 (s1_0.toNat : Int)))), (6, .one (.val (.int .i64 ((s1_1 : Nat) : Int)))), (7, .one (.val (.int .u8 (((a0.getD s1_1 default)).toNat : Int)))), (23, .one (.val (.bool ((((s1_1 : Nat) : Int) == 9) && (decide ((((a0.getD s1_1 default)).toNat : Int) > 1))))))], []⟩ : ASt) _
  refine aops_step1 rfl (st_move rfl rfl) ?_
  refine aops_mid 7 (⟨46, [], [(0, .one (CV.ls byC a0)), (5, .one (.val (.int .u64 (s1_0.toNat : Int)))), (6, .one (.val (.int .i64 ((s1_1 : Nat) : Int)))), (7, .one (.val (.int .u8 (((a0.getD s1_1 default)).toNat : Int)))), (31, .one (.val (.bool (((((s1_1 : Nat) : Int) == 9) && (decide ((((a0.getD s1_1 default)).toNat : Int) > 1))) || ((decide (((s1_1 : Nat) : Int) > 0)) && ((((a0.getD s1_1 default)).toNat : Int) == 0))))))], []⟩ : ASt) ?_ ?_
  · rcases Md.bool_or (((((s1_1 : Nat) : Int) == 9) && (decide ((((a0.getD s1_1 default)).toNat : Int) > 1)))) with q5 | q5
    · skip
      refine aops_no rfl rfl rfl rfl rfl (by first | decide | (rw [q5]; decide)) ?_
      refine aops_no rfl rfl rfl rfl rfl (by first | decide | (rw [q5]; decide)) ?_
      refine aops_no rfl rfl rfl rfl rfl (by first | decide | (rw [q5]; decide)) ?_
      refine aops_und rfl rfl rfl rfl rfl ?_
      refine aops_und rfl rfl rfl rfl rfl ?_
      refine aops_no rfl rfl rfl rfl rfl (by first | decide | (rw [q5]; decide)) ?_
      refine aops_step1 rfl (st_pick_yes rfl (by first | rfl | exact q5) rfl rfl) ?_
      refine aops_nil ?_
      show Weak _ _
      (refine weak_mk rfl rfl ?_ ?_ rfl <;> repeat' (first | exact trivial | refine ⟨?_, ?_⟩ | exact VLe.refl _ | exact BLe.refl _ | refine VLe.one (CLe.val ?_) | exact VLe.one (CLe.nil _) | exact VLe.one (CLe.emp _))) <;> (first | (rw [q5]; done) | (rw [q5]; rfl) | (simp [q5]; done))
    refine aops_yes rfl rfl rfl rfl q5 (st_move rfl rfl) ?_
    refine aops_yes rfl rfl rfl rfl q5 (ev_cmp rfl rfl rfl rfl) ?_
    refine aops_yes rfl rfl rfl rfl q5 (st_move rfl rfl) ?_
    refine aops_mid 3 (⟨46, [], [(0, .one (CV.ls byC a0)), (5, .one (.val (.int .u64 (s1_0.toNat : Int)))), (6, .one (.val (.int .i64 ((s1_1 : Nat) : Int)))), (7, .one (.val (.int .u8 (((a0.getD s1_1 default)).toNat : Int)))), (24, .one (.val (.bool ((((s1_1 : Nat) : Int) == 9) && (decide ((((a0.getD s1_1 default)).toNat : Int) > 1)))))), (30, .one (.val (.bool ((decide (((s1_1 : Nat) : Int) > 0)) && ((((a0.getD s1_1 default)).toNat : Int) == 0)))))], []⟩ : ASt) ?_ ?_
    · rcases Md.bool_or ((decide (((s1_1 : Nat) : Int) > 0))) with q6 | q6
      · skip
        refine aops_yes rfl rfl rfl rfl q6 (st_move rfl rfl) ?_
        refine aops_yes rfl rfl rfl rfl q6 (ev_cmp rfl rfl rfl rfl) ?_
        refine aops_yes rfl rfl rfl rfl q5 (st_pick_yes rfl (by first | rfl | exact q6) rfl rfl) ?_
        refine aops_nil ?_
        show Weak _ _
        (refine weak_mk rfl rfl ?_ ?_ rfl <;> repeat' (first | exact trivial | refine ⟨?_, ?_⟩ | exact VLe.refl _ | exact BLe.refl _ | refine VLe.one (CLe.val ?_) | exact VLe.one (CLe.nil _) | exact VLe.one (CLe.emp _))) <;> (first | (rw [q6]; done) | (rw [q6]; rfl) | (simp [q6]; done))
      refine aops_no rfl rfl rfl rfl rfl (by first | decide | (rw [q6]; decide)) ?_
      refine aops_no rfl rfl rfl rfl rfl (by first | decide | (rw [q6]; decide)) ?_
      refine aops_yes rfl rfl rfl rfl q5 (st_pick_no rfl (by first | rfl | exact q6) rfl rfl) ?_
      refine aops_nil ?_
      show Weak _ _
      (refine weak_mk rfl rfl ?_ ?_ rfl <;> repeat' (first | exact trivial | refine ⟨?_, ?_⟩ | exact VLe.refl _ | exact BLe.refl _ | refine VLe.one (CLe.val ?_) | exact VLe.one (CLe.nil _) | exact VLe.one (CLe.emp _))) <;> (first | (rw [q6]; done) | (rw [q6]; rfl) | (simp [q6]; done))
    change AOps _ _ _ (⟨46, [], [(0, .one (CV.ls byC a0)), (5, .one (.val (.int .u64 (s1_0.toNat : Int)))), (6, .one (.val (.int .i64 ((s1_1 : Nat) : Int)))), (7, .one (.val (.int .u8 (((a0.getD s1_1 default)).toNat : Int)))), (24, .one (.val (.bool ((((s1_1 : Nat) : Int) == 9) && (decide ((((a0.getD s1_1 default)).toNat : Int) > 1)))))), (30, .one (.val (.bool ((decide (((s1_1 : Nat) : Int) > 0)) && ((((a0.getD s1_1 default)).toNat : Int) == 0)))))], []⟩ : ASt) _
    refine aops_step1 rfl (st_pick_no rfl (by first | rfl | exact q5) rfl rfl) ?_
    refine aops_nil ?_
    show Weak _ _
    (refine weak_mk rfl rfl ?_ ?_ rfl <;> repeat' (first | exact trivial | refine ⟨?_, ?_⟩ | exact VLe.refl _ | exact BLe.refl _ | refine VLe.one (CLe.val ?_) | exact VLe.one (CLe.nil _) | exact VLe.one (CLe.emp _))) <;> (first | (rw [q5]; done) | (rw [q5]; rfl) | (simp [q5]; done))
  change AOps _ _ _ (⟨46, [], [(0, .one (CV.ls byC a0)), (5, .one (.val (.int .u64 (s1_0.toNat : Int)))), (6, .one (.val (.int .i64 ((s1_1 : Nat) : Int)))), (7, .one (.val (.int .u8 (((a0.getD s1_1 default)).toNat : Int)))), (31, .one (.val (.bool (((((s1_1 : Nat) : Int) == 9) && (decide ((((a0.getD s1_1 default)).toNat : Int) > 1))) || ((decide (((s1_1 : Nat) : Int) > 0)) && ((((a0.getD s1_1 default)).toNat : Int) == 0))))))], []⟩ : ASt) _
  refine aops_nil ?_
  refine aw_cond rfl (fun c7 => ?_) (fun c7 => ?_)
  · replace l1 := Md.cond_t l1 c7
    refine aw_seq ?_
    refine aw_region ?_
    refine aops_step1 rfl (st_assign rfl rfl) ?_
    refine aops_step1 rfl (st_assign rfl rfl) ?_
    refine aops_step1 rfl (st_assign rfl rfl) ?_
    refine aops_nil ?_
    cases Option.some.inj l1
    cases Option.some.inj h
    refine aw_ret ⟨rfl, ret_v (.inr ⟨by decide, _, rfl, .cons (show get _ _ = AV.one _ from rfl) (.cons (show get _ _ = AV.one _ from rfl) (.cons (show get _ _ = AV.one _ from rfl) (.nil))), by intro y hy vs e; subst e; simp at hy⟩) rfl rfl rfl ?_⟩
    (repeat' (first | exact TLe.refl _ | exact VLe.refl _ | exact CLe.refl _ | exact All2.nil | refine TLe.tup ?_ | refine TLe.v ?_ | refine All2.cons ?_ ?_ | refine VLe.agg ?_ | refine VLe.one ?_ | exact CLe.nil _ | exact CLe.emp _ | refine CLe.val ?_ | refine CLe.slc ?_ ?_))
  replace l1 := Md.cond_f l1 c7
  refine aw_skip ?_
  refine aw_seq ?_
  refine aw_region ?_
  refine aops_step1 rfl (st_move rfl rfl) ?_
  refine aops_step1 rfl (st_move rfl rfl) ?_
  refine aops_step1 rfl (ev_rem rfl rfl rfl (by decide) (Md.rem_u8 (a0.getD s1_1 default) (128 : UInt8))) ?_
  refine aops_step1 rfl (st_conv_int rfl rfl Try.underlying5 Try.underlying61 (Md.conv_u8_u64 ((a0.getD s1_1 default) % (128 : UInt8)))) ?_
  refine aops_step1 rfl (st_move rfl rfl) ?_
  obtain ⟨g8, l1⟩ := Md.ifp_s l1
  refine aops_step1 rfl (ev_mul rfl rfl rfl (Md.nat_mul g8)) ?_
  refine aops_step1 rfl (st_conv_int rfl rfl Try.underlying3 Try.underlying59 (Md.ofNat_u64 (7 * s1_1))) ?_
  refine aops_step1 rfl (ev_shl rfl rfl rfl (Md.nn _) (Md.shl_u64 (((a0.getD s1_1 default) % (128 : UInt8)).toUInt64) (Md.nat_toNat ((UInt64.ofNat (7 * s1_1)).toNat)))) ?_
  refine aops_step1 rfl (ev_bits rfl rfl rfl rfl (Md.or_u64 s1_0 (Md.shl64 (((a0.getD s1_1 default) % (128 : UInt8)).toUInt64) ((UInt64.ofNat (7 * s1_1)).toNat)))) ?_
  refine aops_step1 rfl (st_assign rfl rfl) ?_
  refine aops_nil ?_
  refine aw_seq ?_
  refine aw_region ?_
  refine aops_step1 rfl (st_move rfl rfl) ?_
  refine aops_step1 rfl (ev_cmp rfl rfl rfl rfl) ?_
  refine aops_nil ?_
  refine aw_cond rfl (fun c9 => ?_) (fun c9 => ?_)
  · replace l1 := Md.cond_t l1 c9
    refine aw_seq ?_
    refine aw_region ?_
    refine aops_step1 rfl (st_move rfl rfl) ?_
    refine aops_step1 rfl (st_move rfl rfl) ?_
    obtain ⟨g10, l1⟩ := Md.ifp_s l1
    refine aops_step1 rfl (ev_add rfl rfl rfl (Md.nat_add g10)) ?_
    refine aops_step1 rfl (st_assign rfl rfl) ?_
    refine aops_step1 rfl (st_assign rfl rfl) ?_
    refine aops_step1 rfl (st_assign rfl rfl) ?_
    refine aops_nil ?_
    cases Option.some.inj l1
    cases Option.some.inj h
    refine aw_ret ⟨rfl, ret_v (.inr ⟨by decide, _, rfl, .cons (show get _ _ = AV.one _ from rfl) (.cons (show get _ _ = AV.one _ from rfl) (.cons (show get _ _ = AV.one _ from rfl) (.nil))), by intro y hy vs e; subst e; simp at hy⟩) rfl rfl rfl ?_⟩
    (repeat' (first | exact TLe.refl _ | exact VLe.refl _ | exact CLe.refl _ | exact All2.nil | refine TLe.tup ?_ | refine TLe.v ?_ | refine All2.cons ?_ ?_ | refine VLe.agg ?_ | refine VLe.one ?_ | exact CLe.nil _ | exact CLe.emp _ | refine CLe.val ?_ | refine CLe.slc ?_ ?_))
  replace l1 := Md.cond_f l1 c9
  refine aw_skip ?_
  refine aw_region ?_
  refine aops_step1 rfl (st_move rfl rfl) ?_
  obtain ⟨g11, l1⟩ := Md.ifp_s l1
  refine aops_step1 rfl (ev_add rfl rfl rfl (Md.nat_add g11)) ?_
  refine aops_step1 rfl (st_assign rfl rfl) ?_
  refine aops_nil ?_
  exact ⟨⟨(n1, (s1_0 ||| (Md.shl64 (((a0.getD s1_1 default) % (128 : UInt8)).toUInt64) ((UInt64.ofNat (7 * s1_1)).toNat))), (s1_1 + 1)), l1⟩, Nat.lt_succ_self _, (by (refine weak_mk rfl rfl ?_ ?_ rfl <;> repeat' (first | exact trivial | refine ⟨?_, ?_⟩ | exact VLe.refl _ | exact BLe.refl _ | refine VLe.one (CLe.val ?_) | exact VLe.one (CLe.nil _) | exact VLe.one (CLe.emp _))))⟩
set_option maxHeartbeats 2000000 in
theorem actorgridref1_Zigzag_fn (k : Nat) (a0 : Int) (r : UInt64) (h : actorgridref1_Zigzag k a0 = some r) : FnC Try.prog 65 [.one (.val (.int .i64 a0))] [] (Det (.one (.val (.int .u64 (r.toNat : Int)))) []) := by
  unfold actorgridref1_Zigzag at h
  refine fn_intro' 14 Try.func65 rfl rfl rfl ?_
  refine aw_seq ?_
  refine aw_region ?_
  refine aops_step1 rfl (st_assign rfl rfl) ?_
  refine aops_nil ?_
  refine aw_seq ?_
  refine aw_seq ?_
  refine aw_region ?_
  refine aops_step1 rfl (st_move rfl rfl) ?_
  refine aops_step1 rfl (ev_cmp rfl rfl rfl rfl) ?_
  refine aops_nil ?_
  refine aw_cond rfl (fun c1 => ?_) (fun c1 => ?_)
  · replace h := Md.cond_t h c1
    refine aw_seq ?_
    refine aw_region ?_
    refine aops_step1 rfl (st_move rfl rfl) ?_
    refine aops_step1 rfl (ev_add rfl rfl rfl (Md.wrap_W _)) ?_
    refine aops_step1 rfl (st_neg rfl rfl (Md.wrap_W _)) ?_
    refine aops_step1 rfl (st_conv_int rfl rfl Try.underlying3 Try.underlying61 (Md.ofInt_u64 (Md.W (-(Md.W (a0 + 1)))))) ?_
    refine aops_step1 rfl (ev_mul rfl rfl rfl (Md.mul_u64 (UInt64.ofInt (Md.W (-(Md.W (a0 + 1))))) (2 : UInt64))) ?_
    refine aops_step1 rfl (ev_add rfl rfl rfl (Md.add_u64 ((UInt64.ofInt (Md.W (-(Md.W (a0 + 1))))) * (2 : UInt64)) (1 : UInt64))) ?_
    refine aops_step1 rfl (st_assign rfl rfl) ?_
    refine aops_nil ?_
    cases Option.some.inj h
    refine aw_ret ⟨rfl, ret_v (.inl ⟨_, rfl, rfl, fun _ e => nomatch e⟩) rfl rfl rfl ?_⟩
    (repeat' (first | exact TLe.refl _ | exact VLe.refl _ | exact CLe.refl _ | exact All2.nil | refine TLe.tup ?_ | refine TLe.v ?_ | refine All2.cons ?_ ?_ | refine VLe.agg ?_ | refine VLe.one ?_ | exact CLe.nil _ | exact CLe.emp _ | refine CLe.val ?_ | refine CLe.slc ?_ ?_))
  replace h := Md.cond_f h c1
  refine aw_skip ?_
  refine aw_seq ?_
  refine aw_region ?_
  refine aops_step1 rfl (st_move rfl rfl) ?_
  refine aops_step1 rfl (st_conv_int rfl rfl Try.underlying3 Try.underlying61 (Md.ofInt_u64 a0)) ?_
  refine aops_step1 rfl (ev_mul rfl rfl rfl (Md.mul_u64 (UInt64.ofInt a0) (2 : UInt64))) ?_
  refine aops_step1 rfl (st_assign rfl rfl) ?_
  refine aops_nil ?_
  cases Option.some.inj h
  refine aw_ret ⟨rfl, ret_v (.inl ⟨_, rfl, rfl, fun _ e => nomatch e⟩) rfl rfl rfl ?_⟩
  (repeat' (first | exact TLe.refl _ | exact VLe.refl _ | exact CLe.refl _ | exact All2.nil | refine TLe.tup ?_ | refine TLe.v ?_ | refine All2.cons ?_ ?_ | refine VLe.agg ?_ | refine VLe.one ?_ | exact CLe.nil _ | exact CLe.emp _ | refine CLe.val ?_ | refine CLe.slc ?_ ?_))
set_option maxHeartbeats 2000000 in
theorem actorgridref1_Unzigzag_fn (k : Nat) (a0 : UInt64) (r : Int) (h : actorgridref1_Unzigzag k a0 = some r) : FnC Try.prog 64 [.one (.val (.int .u64 (a0.toNat : Int)))] [] (Det (.one (.val (.int .i64 r))) []) := by
  unfold actorgridref1_Unzigzag at h
  refine fn_intro' 14 Try.func64 rfl rfl rfl ?_
  refine aw_seq ?_
  refine aw_region ?_
  refine aops_step1 rfl (st_assign rfl rfl) ?_
  refine aops_nil ?_
  refine aw_seq ?_
  refine aw_seq ?_
  refine aw_region ?_
  refine aops_step1 rfl (st_move rfl rfl) ?_
  refine aops_step1 rfl (ev_rem rfl rfl rfl (by decide) (Md.rem_u64 a0 (2 : UInt64))) ?_
  refine aops_step1 rfl (ev_cmp rfl rfl rfl rfl) ?_
  refine aops_nil ?_
  refine aw_cond rfl (fun c1 => ?_) (fun c1 => ?_)
  · replace h := Md.cond_t h c1
    refine aw_seq ?_
    refine aw_region ?_
    refine aops_step1 rfl (st_move rfl rfl) ?_
    refine aops_step1 rfl (ev_quo rfl rfl rfl (by decide) (Md.quo_u64 a0 (2 : UInt64))) ?_
    refine aops_step1 rfl (st_conv_int rfl rfl Try.underlying61 Try.underlying3 (Md.wrap_W _)) ?_
    refine aops_step1 rfl (st_neg rfl rfl (Md.wrap_W _)) ?_
    refine aops_step1 rfl (ev_sub rfl rfl rfl (Md.wrap_W _)) ?_
    refine aops_step1 rfl (st_assign rfl rfl) ?_
    refine aops_nil ?_
    cases Option.some.inj h
    refine aw_ret ⟨rfl, ret_v (.inl ⟨_, rfl, rfl, fun _ e => nomatch e⟩) rfl rfl rfl ?_⟩
    (repeat' (first | exact TLe.refl _ | exact VLe.refl _ | exact CLe.refl _ | exact All2.nil | refine TLe.tup ?_ | refine TLe.v ?_ | refine All2.cons ?_ ?_ | refine VLe.agg ?_ | refine VLe.one ?_ | exact CLe.nil _ | exact CLe.emp _ | refine CLe.val ?_ | refine CLe.slc ?_ ?_))
  replace h := Md.cond_f h c1
  refine aw_skip ?_
  refine aw_seq ?_
  refine aw_region ?_
  refine aops_step1 rfl (st_move rfl rfl) ?_
  refine aops_step1 rfl (ev_quo rfl rfl rfl (by decide) (Md.quo_u64 a0 (2 : UInt64))) ?_
  refine aops_step1 rfl (st_conv_int rfl rfl Try.underlying61 Try.underlying3 (Md.wrap_W _)) ?_
  refine aops_step1 rfl (st_assign rfl rfl) ?_
  refine aops_nil ?_
  cases Option.some.inj h
  refine aw_ret ⟨rfl, ret_v (.inl ⟨_, rfl, rfl, fun _ e => nomatch e⟩) rfl rfl rfl ?_⟩
  (repeat' (first | exact TLe.refl _ | exact VLe.refl _ | exact CLe.refl _ | exact All2.nil | refine TLe.tup ?_ | refine TLe.v ?_ | refine All2.cons ?_ ?_ | refine VLe.agg ?_ | refine VLe.one ?_ | exact CLe.nil _ | exact CLe.emp _ | refine CLe.val ?_ | refine CLe.slc ?_ ?_))
set_option maxHeartbeats 2000000 in
theorem actorgridref1_Int_fn (k : Nat) (a0 : Int) (r : (List UInt8)) (h : actorgridref1_Int k a0 = some r) : FnC Try.prog 47 [.one (.val (.int .i64 a0))] [] (Det (.one (.own 0)) [(0, some (.row 5 1 r.length (lsEl byC r)))]) := by
  unfold actorgridref1_Int at h
  refine fn_intro' 6 Try.func47 rfl rfl rfl ?_
  refine aw_seq ?_
  refine aw_region ?_
  refine aops_step1 rfl (st_assign rfl rfl) ?_
  refine aops_nil ?_
  refine aw_seq ?_
  refine aw_region ?_
  refine aops_step1 rfl (st_move rfl rfl) ?_
  obtain ⟨x1, hx1, h⟩ := Md.bind_s h
  refine aops_step1 rfl (ev_call_v (actorgridref1_Zigzag_fn k a0 x1 hx1) rfl [] (by repeat' (first | exact All2.nil | refine All2.cons ?_ ?_ | refine ArgV.one ?_ | refine ArgV.agg ?_ | exact ArgC.mk rfl | exact ArgC.lend rfl (by simp) | exact ArgC.le (CLe.nil _) rfl | exact ArgC.le (CLe.emp _) rfl | exact ArgC.le (CLe.any _) rfl)) rfl rfl rfl (.inl rfl) rfl) ?_
  obtain ⟨x2, hx2, h⟩ := Md.bind_s h
  refine aops_step1 rfl (st_call_r (r' := .one (.own 0)) 0 rfl (actorgridref1_Uint_fn k x1 x2 hx2) rfl [] (by repeat' (first | exact All2.nil | refine All2.cons ?_ ?_ | refine ArgV.one ?_ | refine ArgV.agg ?_ | exact ArgC.mk rfl | exact ArgC.lend rfl (by simp) | exact ArgC.le (CLe.nil _) rfl | exact ArgC.le (CLe.emp _) rfl | exact ArgC.le (CLe.any _) rfl)) rfl rfl rfl (.inl rfl) rfl rfl) ?_
  refine aops_step1 rfl (st_assign rfl rfl) ?_
  refine aops_nil ?_
  cases Option.some.inj h
  refine aw_ret ⟨rfl, ret_r 0 (.inl ⟨_, rfl, rfl, fun _ e => nomatch e⟩) rfl rfl rfl ?_ ?_ ?_⟩
  · first | exact TLe.refl _ | (repeat' (first | exact TLe.refl _ | exact VLe.refl _ | exact CLe.refl _ | exact All2.nil | refine TLe.tup ?_ | refine TLe.v ?_ | refine All2.cons ?_ ?_ | refine VLe.agg ?_ | refine VLe.one ?_ | exact CLe.nil _ | exact CLe.emp _ | refine CLe.val ?_ | refine CLe.slc ?_ ?_))
  · rfl
  · rfl
set_option maxHeartbeats 2000000 in
theorem actorgridref1_ReadInt_fn (k : Nat) (a0 : List UInt8) (r : Int × Int × Int) (h : actorgridref1_ReadInt k a0 = some r) : FnC Try.prog 43 [.one (CV.ls byC a0)] [] (Det (.tup [.one (.val (.int .i64 r.1)), .one (.val (.int .i64 r.2.1)), .one (.val (.int .i64 r.2.2))]) []) := by
  unfold actorgridref1_ReadInt at h
  refine fn_intro' 20 Try.func43 rfl rfl rfl ?_
  refine aw_seq ?_
  refine aw_region ?_
  refine aops_step1 rfl (st_assign rfl rfl) ?_
  refine aops_step1 rfl (st_assign rfl rfl) ?_
  refine aops_step1 rfl (st_assign rfl rfl) ?_
  refine aops_nil ?_
  refine aw_seq ?_
  refine aw_region ?_
  refine aops_step1 rfl (st_move rfl rfl) ?_
  obtain ⟨x1, hx1, h⟩ := Md.bind_s h
  refine aops_step1 rfl (ev_call_v (actorgridref1_ReadUint_fn k a0 x1 hx1) rfl [] (by repeat' (first | exact All2.nil | refine All2.cons ?_ ?_ | refine ArgV.one ?_ | refine ArgV.agg ?_ | exact ArgC.mk rfl | exact ArgC.lend rfl (by simp) | exact ArgC.le (CLe.nil _) rfl | exact ArgC.le (CLe.emp _) rfl | exact ArgC.le (CLe.any _) rfl)) rfl rfl rfl (.inl rfl) rfl) ?_
  refine aops_step1 rfl (st_movet rfl rfl) ?_
  refine aops_step1 rfl (ev_extract rfl rfl rfl) ?_
  refine aops_step1 rfl (ev_extract rfl rfl rfl) ?_
  refine aops_step1 rfl (ev_extract rfl rfl rfl) ?_
  refine aops_step1 rfl (st_assign rfl rfl) ?_
  refine aops_step1 rfl (st_assign rfl rfl) ?_
  refine aops_step1 rfl (st_assign rfl rfl) ?_
  refine aops_nil ?_
  refine aw_seq ?_
  refine aw_seq ?_
  refine aw_region ?_
  refine aops_step1 rfl (st_move rfl rfl) ?_
  refine aops_step1 rfl (ev_cmp rfl rfl rfl rfl) ?_
  refine aops_nil ?_
  refine aw_cond rfl (fun c2 => ?_) (fun c2 => ?_)
  · replace h := Md.cond_t h c2
    refine aw_seq ?_
    refine aw_region ?_
    refine aops_step1 rfl (st_move rfl rfl) ?_
    refine aops_step1 rfl (st_assign rfl rfl) ?_
    refine aops_step1 rfl (st_assign rfl rfl) ?_
    refine aops_step1 rfl (st_assign rfl rfl) ?_
    refine aops_nil ?_
    cases Option.some.inj h
    refine aw_ret ⟨rfl, ret_v (.inr ⟨by decide, _, rfl, .cons (show get _ _ = AV.one _ from rfl) (.cons (show get _ _ = AV.one _ from rfl) (.cons (show get _ _ = AV.one _ from rfl) (.nil))), by intro y hy vs e; subst e; simp at hy⟩) rfl rfl rfl ?_⟩
    (repeat' (first | exact TLe.refl _ | exact VLe.refl _ | exact CLe.refl _ | exact All2.nil | refine TLe.tup ?_ | refine TLe.v ?_ | refine All2.cons ?_ ?_ | refine VLe.agg ?_ | refine VLe.one ?_ | exact CLe.nil _ | exact CLe.emp _ | refine CLe.val ?_ | refine CLe.slc ?_ ?_))
  replace h := Md.cond_f h c2
  refine aw_skip ?_
  refine aw_seq ?_
  refine aw_region ?_
  refine aops_step1 rfl (st_move rfl rfl) ?_
  obtain ⟨x3, hx3, h⟩ := Md.bind_s h
  refine aops_step1 rfl (ev_call_v (actorgridref1_Unzigzag_fn k x1.1 x3 hx3) rfl [] (by repeat' (first | exact All2.nil | refine All2.cons ?_ ?_ | refine ArgV.one ?_ | refine ArgV.agg ?_ | exact ArgC.mk rfl | exact ArgC.lend rfl (by simp) | exact ArgC.le (CLe.nil _) rfl | exact ArgC.le (CLe.emp _) rfl | exact ArgC.le (CLe.any _) rfl)) rfl rfl rfl (.inl rfl) rfl) ?_
  refine aops_step1 rfl (st_move rfl rfl) ?_
  refine aops_step1 rfl (st_assign rfl rfl) ?_
  refine aops_step1 rfl (st_assign rfl rfl) ?_
  refine aops_step1 rfl (st_assign rfl rfl) ?_
  refine aops_nil ?_
  cases Option.some.inj h
  refine aw_ret ⟨rfl, ret_v (.inr ⟨by decide, _, rfl, .cons (show get _ _ = AV.one _ from rfl) (.cons (show get _ _ = AV.one _ from rfl) (.cons (show get _ _ = AV.one _ from rfl) (.nil))), by intro y hy vs e; subst e; simp at hy⟩) rfl rfl rfl ?_⟩
  (repeat' (first | exact TLe.refl _ | exact VLe.refl _ | exact CLe.refl _ | exact All2.nil | refine TLe.tup ?_ | refine TLe.v ?_ | refine All2.cons ?_ ?_ | refine VLe.agg ?_ | refine VLe.one ?_ | exact CLe.nil _ | exact CLe.emp _ | refine CLe.val ?_ | refine CLe.slc ?_ ?_))
set_option maxHeartbeats 2000000 in
theorem actorgridref1_String_fn (k : Nat) (a0 : List UInt8) (r : (List UInt8)) (h : actorgridref1_String k a0 = some r) : FnC Try.prog 25 [.one (.val (Sv a0))] [] (Det (.one (.own 0)) [(0, some (.row 5 1 r.length (lsEl byC r)))]) := by
  unfold actorgridref1_String at h
  refine fn_intro' 9 Try.func25 rfl rfl rfl ?_
  refine aw_seq ?_
  refine aw_region ?_
  refine aops_step1 rfl (st_assign rfl rfl) ?_
  refine aops_nil ?_
  refine aw_seq ?_
  refine aw_region ?_
  refine aops_step1 rfl (st_move rfl rfl) ?_
  refine aops_step1 rfl (st_len_str rfl rfl) ?_
  refine aops_step1 rfl (st_conv_int rfl rfl Try.underlying3 Try.underlying61 (Md.ofNat_u64 a0.length)) ?_
  obtain ⟨x1, hx1, h⟩ := Md.bind_s h
  refine aops_step1 rfl (st_call_r (r' := .one (.own 0)) 0 rfl (actorgridref1_Uint_fn k (UInt64.ofNat a0.length) x1 hx1) rfl [] (by repeat' (first | exact All2.nil | refine All2.cons ?_ ?_ | refine ArgV.one ?_ | refine ArgV.agg ?_ | exact ArgC.mk rfl | exact ArgC.lend rfl (by simp) | exact ArgC.le (CLe.nil _) rfl | exact ArgC.le (CLe.emp _) rfl | exact ArgC.le (CLe.any _) rfl)) rfl rfl rfl (.inl rfl) rfl rfl) ?_
  refine aops_step1 rfl (st_move rfl rfl) ?_
  obtain ⟨g2, h⟩ := Md.ifp_s h
  refine aops_step1 rfl (st_app_str x1 a0 rfl rfl rfl g2 rfl) ?_
  refine aops_step1 rfl (st_assign rfl rfl) ?_
  refine aops_nil ?_
  cases Option.some.inj h
  refine aw_ret ⟨rfl, ret_r 0 (.inl ⟨_, rfl, rfl, fun _ e => nomatch e⟩) rfl rfl rfl ?_ ?_ ?_⟩
  · first | exact TLe.refl _ | (repeat' (first | exact TLe.refl _ | exact VLe.refl _ | exact CLe.refl _ | exact All2.nil | refine TLe.tup ?_ | refine TLe.v ?_ | refine All2.cons ?_ ?_ | refine VLe.agg ?_ | refine VLe.one ?_ | exact CLe.nil _ | exact CLe.emp _ | refine CLe.val ?_ | refine CLe.slc ?_ ?_))
  · rfl
  · rfl
set_option maxHeartbeats 2000000 in
theorem actorgridref1_ReadString_fn (k : Nat) (a0 : List UInt8) (a1 : Int) (r : (List UInt8) × Int × Int) (h : actorgridref1_ReadString k a0 a1 = some r) : FnC Try.prog 15 [.one (CV.ls byC a0), .one (.val (.int .i64 a1))] [] (Det (.tup [.one (.val (Sv r.1)), .one (.val (.int .i64 r.2.1)), .one (.val (.int .i64 r.2.2))]) []) := by
  unfold actorgridref1_ReadString at h
  refine fn_intro' 44 Try.func15 rfl rfl rfl ?_
  refine aw_seq ?_
  refine aw_region ?_
  refine aops_step1 rfl (st_assign rfl rfl) ?_
  refine aops_step1 rfl (st_assign rfl rfl) ?_
  refine aops_step1 rfl (st_assign rfl rfl) ?_
  refine aops_nil ?_
  refine aw_seq ?_
  refine aw_seq ?_
  refine aw_region ?_
  refine aops_step1 rfl (st_move rfl rfl) ?_
  refine aops_step1 rfl (ev_cmp rfl rfl rfl rfl) ?_
  refine aops_nil ?_
  refine aw_cond rfl (fun c1 => ?_) (fun c1 => ?_)
  · replace h := Md.cond_t h c1
    refine aw_seq ?_
    refine aw_region ?_
    refine aops_step1 rfl (st_assign rfl rfl) ?_
    refine aops_step1 rfl (st_assign rfl rfl) ?_
    refine aops_step1 rfl (st_assign rfl rfl) ?_
    refine aops_nil ?_
    cases Option.some.inj h
    refine aw_ret ⟨rfl, ret_v (.inr ⟨by decide, _, rfl, .cons (show get _ _ = AV.one _ from rfl) (.cons (show get _ _ = AV.one _ from rfl) (.cons (show get _ _ = AV.one _ from rfl) (.nil))), by intro y hy vs e; subst e; simp at hy⟩) rfl rfl rfl ?_⟩
    (repeat' (first | exact TLe.refl _ | exact VLe.refl _ | exact CLe.refl _ | exact All2.nil | refine TLe.tup ?_ | refine TLe.v ?_ | refine All2.cons ?_ ?_ | refine VLe.agg ?_ | refine VLe.one ?_ | exact CLe.nil _ | exact CLe.emp _ | refine CLe.val ?_ | refine CLe.slc ?_ ?_))
  replace h := Md.cond_f h c1
  refine aw_skip ?_
  refine aw_seq ?_
  refine aw_region ?_
  refine aops_step1 rfl (st_move rfl rfl) ?_
  obtain ⟨x2, hx2, h⟩ := Md.bind_s h
  refine aops_step1 rfl (ev_call_v (actorgridref1_ReadUint_fn k a0 x2 hx2) rfl [] (by repeat' (first | exact All2.nil | refine All2.cons ?_ ?_ | refine ArgV.one ?_ | refine ArgV.agg ?_ | exact ArgC.mk rfl | exact ArgC.lend rfl (by simp) | exact ArgC.le (CLe.nil _) rfl | exact ArgC.le (CLe.emp _) rfl | exact ArgC.le (CLe.any _) rfl)) rfl rfl rfl (.inl rfl) rfl) ?_
  refine aops_step1 rfl (st_movet rfl rfl) ?_
  refine aops_step1 rfl (ev_extract rfl rfl rfl) ?_
  refine aops_step1 rfl (ev_extract rfl rfl rfl) ?_
  refine aops_step1 rfl (ev_extract rfl rfl rfl) ?_
  refine aops_step1 rfl (st_assign rfl rfl) ?_
  refine aops_step1 rfl (st_assign rfl rfl) ?_
  refine aops_step1 rfl (st_assign rfl rfl) ?_
  refine aops_nil ?_
  refine aw_seq ?_
  refine aw_seq ?_
  refine aw_region ?_
  refine aops_step1 rfl (st_move rfl rfl) ?_
  refine aops_step1 rfl (ev_cmp rfl rfl rfl rfl) ?_
  refine aops_nil ?_
  refine aw_cond rfl (fun c3 => ?_) (fun c3 => ?_)
  · replace h := Md.cond_t h c3
    refine aw_seq ?_
    refine aw_region ?_
    refine aops_step1 rfl (st_move rfl rfl) ?_
    refine aops_step1 rfl (st_assign rfl rfl) ?_
    refine aops_step1 rfl (st_assign rfl rfl) ?_
    refine aops_step1 rfl (st_assign rfl rfl) ?_
    refine aops_nil ?_
    cases Option.some.inj h
    refine aw_ret ⟨rfl, ret_v (.inr ⟨by decide, _, rfl, .cons (show get _ _ = AV.one _ from rfl) (.cons (show get _ _ = AV.one _ from rfl) (.cons (show get _ _ = AV.one _ from rfl) (.nil))), by intro y hy vs e; subst e; simp at hy⟩) rfl rfl rfl ?_⟩
    (repeat' (first | exact TLe.refl _ | exact VLe.refl _ | exact CLe.refl _ | exact All2.nil | refine TLe.tup ?_ | refine TLe.v ?_ | refine All2.cons ?_ ?_ | refine VLe.agg ?_ | refine VLe.one ?_ | exact CLe.nil _ | exact CLe.emp _ | refine CLe.val ?_ | refine CLe.slc ?_ ?_))
  replace h := Md.cond_f h c3
  refine aw_skip ?_
  refine aw_seq ?_
  refine aw_seq ?_
  refine aw_region ?_
  refine aops_step1 rfl (st_move rfl rfl) ?_
  refine aops_step1 rfl (st_move rfl rfl) ?_
  refine aops_step1 rfl (st_conv_int rfl rfl Try.underlying3 Try.underlying61 (Md.ofInt_u64 a1)) ?_
  refine aops_step1 rfl (ev_cmp rfl rfl rfl rfl) ?_
  refine aops_nil ?_
  refine aw_cond rfl (fun c4 => ?_) (fun c4 => ?_)
  · replace h := Md.cond_t h c4
    refine aw_seq ?_
    refine aw_region ?_
    refine aops_step1 rfl (st_assign rfl rfl) ?_
    refine aops_step1 rfl (st_assign rfl rfl) ?_
    refine aops_step1 rfl (st_assign rfl rfl) ?_
    refine aops_nil ?_
    cases Option.some.inj h
    refine aw_ret ⟨rfl, ret_v (.inr ⟨by decide, _, rfl, .cons (show get _ _ = AV.one _ from rfl) (.cons (show get _ _ = AV.one _ from rfl) (.cons (show get _ _ = AV.one _ from rfl) (.nil))), by intro y hy vs e; subst e; simp at hy⟩) rfl rfl rfl ?_⟩
    (repeat' (first | exact TLe.refl _ | exact VLe.refl _ | exact CLe.refl _ | exact All2.nil | refine TLe.tup ?_ | refine TLe.v ?_ | refine All2.cons ?_ ?_ | refine VLe.agg ?_ | refine VLe.one ?_ | exact CLe.nil _ | exact CLe.emp _ | refine CLe.val ?_ | refine CLe.slc ?_ ?_))
  replace h := Md.cond_f h c4
  refine aw_skip ?_
  refine aw_seq ?_
  refine aw_seq ?_
  refine aw_region ?_
  refine aops_step1 rfl (st_move rfl rfl) ?_
  refine aops_step1 rfl (st_move rfl rfl) ?_
  refine aops_step1 rfl (ev_len_slc rfl rfl) ?_
  refine aops_step1 rfl (st_move rfl rfl) ?_
  refine aops_step1 rfl (ev_sub rfl rfl rfl (Md.wrap_W _)) ?_
  refine aops_step1 rfl (st_conv_int rfl rfl Try.underlying3 Try.underlying61 (Md.ofInt_u64 (Md.W (((a0.length : Nat) : Int) - x2.2.1)))) ?_
  refine aops_step1 rfl (ev_cmp rfl rfl rfl rfl) ?_
  refine aops_nil ?_
  refine aw_cond rfl (fun c5 => ?_) (fun c5 => ?_)
  · replace h := Md.cond_t h c5
    refine aw_seq ?_
    refine aw_region ?_
    refine aops_step1 rfl (st_assign rfl rfl) ?_
    refine aops_step1 rfl (st_assign rfl rfl) ?_
    refine aops_step1 rfl (st_assign rfl rfl) ?_
    refine aops_nil ?_
    cases Option.some.inj h
    refine aw_ret ⟨rfl, ret_v (.inr ⟨by decide, _, rfl, .cons (show get _ _ = AV.one _ from rfl) (.cons (show get _ _ = AV.one _ from rfl) (.cons (show get _ _ = AV.one _ from rfl) (.nil))), by intro y hy vs e; subst e; simp at hy⟩) rfl rfl rfl ?_⟩
    (repeat' (first | exact TLe.refl _ | exact VLe.refl _ | exact CLe.refl _ | exact All2.nil | refine TLe.tup ?_ | refine TLe.v ?_ | refine All2.cons ?_ ?_ | refine VLe.agg ?_ | refine VLe.one ?_ | exact CLe.nil _ | exact CLe.emp _ | refine CLe.val ?_ | refine CLe.slc ?_ ?_))
  replace h := Md.cond_f h c5
  refine aw_skip ?_
  refine aw_seq ?_
  refine aw_region ?_
  refine aops_step1 rfl (st_move rfl rfl) ?_
  refine aops_step1 rfl (st_move rfl rfl) ?_
  refine aops_step1 rfl (st_move rfl rfl) ?_
  refine aops_step1 rfl (st_move rfl rfl) ?_
  refine aops_step1 rfl (st_conv_int rfl rfl Try.underlying61 Try.underlying3 (Md.wrap_W _)) ?_
  refine aops_step1 rfl (ev_add rfl rfl rfl (Md.wrap_W _)) ?_
  obtain ⟨g6, h⟩ := Md.ifp_s h
  obtain ⟨g7, h⟩ := Md.ifp_s h
  obtain ⟨g8, h⟩ := Md.ifp_s h
  refine aops_step1 rfl (st_cut_both (f := byC) (fun _ => rfl) rfl ⟨_, _, rfl, (Md.nn_eq g6)⟩ ⟨_, _, rfl, (Md.nn_eq g7)⟩ g8 rfl) ?_
  refine aops_step1 rfl (ev_str_bytes (.inl rfl) Try.underlying22 Try.underlying5 Try.underlying9 rfl) ?_
  refine aops_step1 rfl (st_move rfl rfl) ?_
  refine aops_step1 rfl (st_move rfl rfl) ?_
  refine aops_step1 rfl (st_conv_int rfl rfl Try.underlying61 Try.underlying3 (Md.wrap_W _)) ?_
  refine aops_step1 rfl (ev_add rfl rfl rfl (Md.wrap_W _)) ?_
  refine aops_step1 rfl (st_assign rfl rfl) ?_
  refine aops_step1 rfl (st_assign rfl rfl) ?_
  refine aops_step1 rfl (st_assign rfl rfl) ?_
  refine aops_nil ?_
  cases Option.some.inj h
  refine aw_ret ⟨rfl, ret_v (.inr ⟨by decide, _, rfl, .cons (show get _ _ = AV.one _ from rfl) (.cons (show get _ _ = AV.one _ from rfl) (.cons (show get _ _ = AV.one _ from rfl) (.nil))), by intro y hy vs e; subst e; simp at hy⟩) rfl rfl rfl ?_⟩
  (repeat' (first | exact TLe.refl _ | exact VLe.refl _ | exact CLe.refl _ | exact All2.nil | refine TLe.tup ?_ | refine TLe.v ?_ | refine All2.cons ?_ ?_ | refine VLe.agg ?_ | refine VLe.one ?_ | exact CLe.nil _ | exact CLe.emp _ | refine CLe.val ?_ | refine CLe.slc ?_ ?_))
set_option maxHeartbeats 2000000 in
theorem actorgridref1_IntList_fn (k : Nat) (a0 : List Int) (r : (List UInt8)) (h : actorgridref1_IntList k a0 = some r) : FnC Try.prog 27 [.one (CV.ls c_Int a0)] [] (Det (.one (.own 0)) [(0, some (.row 5 1 r.length (lsEl byC r)))]) := by
  unfold actorgridref1_IntList at h
  refine fn_intro' 23 Try.func27 rfl rfl rfl ?_
  refine aw_seq ?_
  refine aw_region ?_
  refine aops_step1 rfl (st_assign rfl rfl) ?_
  refine aops_nil ?_
  refine aw_seq ?_
  refine aw_region ?_
  refine aops_step1 rfl (st_move rfl rfl) ?_
  refine aops_step1 rfl (ev_len_slc rfl rfl) ?_
  refine aops_step1 rfl (st_conv_int rfl rfl Try.underlying3 Try.underlying61 (Md.ofNat_u64 a0.length)) ?_
  obtain ⟨x1, hx1, h⟩ := Md.bind_s h
  refine aops_step1 rfl (st_call_r (r' := .one (.own 0)) 0 rfl (actorgridref1_Uint_fn k (UInt64.ofNat a0.length) x1 hx1) rfl [] (by repeat' (first | exact All2.nil | refine All2.cons ?_ ?_ | refine ArgV.one ?_ | refine ArgV.agg ?_ | exact ArgC.mk rfl | exact ArgC.lend rfl (by simp) | exact ArgC.le (CLe.nil _) rfl | exact ArgC.le (CLe.emp _) rfl | exact ArgC.le (CLe.any _) rfl)) rfl rfl rfl (.inl rfl) rfl rfl) ?_
  refine aops_step1 rfl (st_assign rfl rfl) ?_
  refine aops_nil ?_
  refine aw_seq ?_
  refine aw_seq ?_
  refine aw_region ?_
  refine aops_step1 rfl (st_assign rfl rfl) ?_
  refine aops_nil ?_
  refine aw_block ?_
  obtain ⟨o2, ho2, h⟩ := Md.bind_s h
  refine aw_loop_x (ι := {p : Nat × Nat × (List UInt8) // actorgridref1_IntList_loop1 k a0 p.1 p.2.1 p.2.2 = some o2}) (fun p => (⟨23, [], [(0, .one (CV.ls c_Int a0)), (3, .one (.own 0)), (4, .one (.val (.int .i64 ((p.1.2.1 : Nat) : Int))))], [(0, some (.row 5 1 p.1.2.2.length (lsEl byC p.1.2.2)))]⟩ : ASt)) (fun p => p.1.1) ⟨(k, 0, x1), ho2⟩ (by (refine weak_mk rfl rfl ?_ ?_ rfl <;> repeat' (first | exact trivial | refine ⟨?_, ?_⟩ | exact VLe.refl _ | exact BLe.refl _ | refine VLe.one (CLe.val ?_) | exact VLe.one (CLe.nil _) | exact VLe.one (CLe.emp _)))) 0 (ε := (List UInt8)) (fun x => (⟨23, [], [(3, .one (.own 0))], [(0, some (.row 5 1 x.length (lsEl byC x)))]⟩ : ASt)) (fun x => x = o2) (fun _ _ w h => aw_weak w h) ?_ ?_
  · intro x2_0 hI2
    subst hI2
    change AW _ _ (⟨23, [], [(3, .one (.own 0))], [(0, some (.row 5 1 x2_0.length (lsEl byC x2_0)))]⟩ : ASt) _
    refine aw_seq ?_
    refine aw_region ?_
    refine aops_step1 rfl (st_move rfl rfl) ?_
    refine aops_step1 rfl (st_assign rfl rfl) ?_
    refine aops_nil ?_
    cases Option.some.inj h
    refine aw_ret ⟨rfl, ret_r 0 (.inl ⟨_, rfl, rfl, fun _ e => nomatch e⟩) rfl rfl rfl ?_ ?_ ?_⟩
    · first | exact TLe.refl _ | (repeat' (first | exact TLe.refl _ | exact VLe.refl _ | exact CLe.refl _ | exact All2.nil | refine TLe.tup ?_ | refine TLe.v ?_ | refine All2.cons ?_ ?_ | refine VLe.agg ?_ | refine VLe.one ?_ | exact CLe.nil _ | exact CLe.emp _ | refine CLe.val ?_ | refine CLe.slc ?_ ?_))
    · rfl
    · rfl
  intro p2
  obtain ⟨⟨n2, s2_0, s2_1⟩, l2⟩ := p2
  change AW _ _ (⟨23, [], [(0, .one (CV.ls c_Int a0)), (3, .one (.own 0)), (4, .one (.val (.int .i64 ((s2_0 : Nat) : Int))))], [(0, some (.row 5 1 s2_1.length (lsEl byC s2_1)))]⟩ : ASt) _
  replace l2 : actorgridref1_IntList_loop1 k a0 n2 s2_0 s2_1 = some o2 := l2
  rcases n2 with _ | n2
  · exact absurd (show none = some o2 from l2) nofun
  rw [actorgridref1_IntList_loop1] at l2
  refine aw_seq ?_
  refine aw_seq ?_
  refine aw_region ?_
  refine aops_step1 rfl (st_move rfl rfl) ?_
  refine aops_step1 rfl (st_move rfl rfl) ?_
  refine aops_step1 rfl (ev_len_slc rfl rfl) ?_
  refine aops_step1 rfl (ev_cmp rfl rfl rfl rfl) ?_
  refine aops_nil ?_
  refine aw_cond rfl (fun c3 => ?_) (fun c3 => ?_)
  · replace l2 := Md.cond_t l2 c3
    refine aw_skip ?_
    refine aw_seq ?_
    refine aw_block ?_
    refine aw_region ?_
    refine aops_step1 rfl (st_move rfl rfl) ?_
    refine aops_step1 rfl (st_move rfl rfl) ?_
    refine aops_step1 rfl (st_move rfl rfl) ?_
    obtain ⟨g4, l2⟩ := Md.ifp_s l2
    refine aops_step1 rfl (ev_index_in rfl rfl rfl g4 rfl rfl) ?_
    refine aops_step1 rfl (ev_load_in rfl rfl rfl) ?_
    obtain ⟨x5, hx5, l2⟩ := Md.bind_s l2
    refine aops_step1 rfl (st_call_r (r' := .one (.own 1)) 1 rfl (actorgridref1_Int_fn k (a0.getD s2_0 default) x5 hx5) rfl [] (by repeat' (first | exact All2.nil | refine All2.cons ?_ ?_ | refine ArgV.one ?_ | refine ArgV.agg ?_ | exact ArgC.mk rfl | exact ArgC.lend rfl (by simp) | exact ArgC.le (CLe.nil _) rfl | exact ArgC.le (CLe.emp _) rfl | exact ArgC.le (CLe.any _) rfl)) rfl rfl rfl (.inl rfl) rfl rfl) ?_
    obtain ⟨g6, l2⟩ := Md.ifp_s l2
    refine aops_step1 rfl (st_app_ls (f := byC) s2_1 x5 (fun _ => rfl) rfl rfl (.inr ⟨_, _, rfl, rfl⟩) (by omega) (by omega) rfl) ?_
    refine aops_step1 rfl (st_assign rfl rfl) ?_
    refine aops_nil ?_
    refine aw_region ?_
    refine aops_step1 rfl (st_move rfl rfl) ?_
    obtain ⟨g7, l2⟩ := Md.ifp_s l2
    refine aops_step1 rfl (ev_add rfl rfl rfl (Md.nat_add g7)) ?_
    refine aops_step1 rfl (st_assign rfl rfl) ?_
    refine aops_nil ?_
    exact ⟨⟨(n2, (s2_0 + 1), (s2_1 ++ x5)), l2⟩, Nat.lt_succ_self _, (by (refine weak_mk rfl rfl ?_ ?_ rfl <;> repeat' (first | exact trivial | refine ⟨?_, ?_⟩ | exact VLe.refl _ | exact BLe.refl _ | refine VLe.one (CLe.val ?_) | exact VLe.one (CLe.nil _) | exact VLe.one (CLe.emp _))))⟩
  replace l2 := Md.cond_f l2 c3
  refine aw_exit ?_
  show ∃ _x : (List UInt8), _ = _ ∧ Weak _ _
  exact ⟨s2_1, Option.some.inj l2, (by (refine weak_mk rfl rfl ?_ ?_ rfl <;> repeat' (first | exact trivial | refine ⟨?_, ?_⟩ | exact VLe.refl _ | exact BLe.refl _ | refine VLe.one (CLe.val ?_) | exact VLe.one (CLe.nil _) | exact VLe.one (CLe.emp _))))⟩
set_option maxHeartbeats 2000000 in
theorem actorgridref1_ReadIntList_fn (k : Nat) (a0 : List UInt8) (a1 : Int) (r : (List Int) × Int × Int) (h : actorgridref1_ReadIntList k a0 a1 = some r) : FnC Try.prog 17 [.one (CV.ls byC a0), .one (.val (.int .i64 a1))] [] (Det (.tup [.one (CV.ls c_Int r.1), .one (.val (.int .i64 r.2.1)), .one (.val (.int .i64 r.2.2))]) []) := by
  unfold actorgridref1_ReadIntList at h
  refine fn_intro' 55 Try.func17 rfl rfl rfl ?_
  refine aw_seq ?_
  refine aw_region ?_
  refine aops_step1 rfl (st_assign rfl rfl) ?_
  refine aops_step1 rfl (st_assign rfl rfl) ?_
  refine aops_step1 rfl (st_assign rfl rfl) ?_
  refine aops_nil ?_
  refine aw_seq ?_
  refine aw_seq ?_
  refine aw_region ?_
  refine aops_step1 rfl (st_move rfl rfl) ?_
  refine aops_step1 rfl (ev_cmp rfl rfl rfl rfl) ?_
  refine aops_nil ?_
  refine aw_cond rfl (fun c1 => ?_) (fun c1 => ?_)
  · replace h := Md.cond_t h c1
    refine aw_seq ?_
    refine aw_region ?_
    refine aops_step1 rfl (st_assign rfl rfl) ?_
    refine aops_step1 rfl (st_assign rfl rfl) ?_
    refine aops_step1 rfl (st_assign rfl rfl) ?_
    refine aops_nil ?_
    cases Option.some.inj h
    refine aw_ret ⟨rfl, ret_v (.inr ⟨by decide, _, rfl, .cons (show get _ _ = AV.one _ from rfl) (.cons (show get _ _ = AV.one _ from rfl) (.cons (show get _ _ = AV.one _ from rfl) (.nil))), by intro y hy vs e; subst e; simp at hy⟩) rfl rfl rfl ?_⟩
    (repeat' (first | exact TLe.refl _ | exact VLe.refl _ | exact CLe.refl _ | exact All2.nil | refine TLe.tup ?_ | refine TLe.v ?_ | refine All2.cons ?_ ?_ | refine VLe.agg ?_ | refine VLe.one ?_ | exact CLe.nil _ | exact CLe.emp _ | refine CLe.val ?_ | refine CLe.slc ?_ ?_))
  replace h := Md.cond_f h c1
  refine aw_skip ?_
  refine aw_seq ?_
  refine aw_region ?_
  refine aops_step1 rfl (st_move rfl rfl) ?_
  obtain ⟨x2, hx2, h⟩ := Md.bind_s h
  refine aops_step1 rfl (ev_call_v (actorgridref1_ReadUint_fn k a0 x2 hx2) rfl [] (by repeat' (first | exact All2.nil | refine All2.cons ?_ ?_ | refine ArgV.one ?_ | refine ArgV.agg ?_ | exact ArgC.mk rfl | exact ArgC.lend rfl (by simp) | exact ArgC.le (CLe.nil _) rfl | exact ArgC.le (CLe.emp _) rfl | exact ArgC.le (CLe.any _) rfl)) rfl rfl rfl (.inl rfl) rfl) ?_
  refine aops_step1 rfl (st_movet rfl rfl) ?_
  refine aops_step1 rfl (ev_extract rfl rfl rfl) ?_
  refine aops_step1 rfl (ev_extract rfl rfl rfl) ?_
  refine aops_step1 rfl (ev_extract rfl rfl rfl) ?_
  refine aops_step1 rfl (st_assign rfl rfl) ?_
  refine aops_step1 rfl (st_assign rfl rfl) ?_
  refine aops_step1 rfl (st_assign rfl rfl) ?_
  refine aops_nil ?_
  refine aw_seq ?_
  refine aw_seq ?_
  refine aw_region ?_
  refine aops_step1 rfl (st_move rfl rfl) ?_
  refine aops_step1 rfl (ev_cmp rfl rfl rfl rfl) ?_
  refine aops_nil ?_
  refine aw_cond rfl (fun c3 => ?_) (fun c3 => ?_)
  · replace h := Md.cond_t h c3
    refine aw_seq ?_
    refine aw_region ?_
    refine aops_step1 rfl (st_move rfl rfl) ?_
    refine aops_step1 rfl (st_assign rfl rfl) ?_
    refine aops_step1 rfl (st_assign rfl rfl) ?_
    refine aops_step1 rfl (st_assign rfl rfl) ?_
    refine aops_nil ?_
    cases Option.some.inj h
    refine aw_ret ⟨rfl, ret_v (.inr ⟨by decide, _, rfl, .cons (show get _ _ = AV.one _ from rfl) (.cons (show get _ _ = AV.one _ from rfl) (.cons (show get _ _ = AV.one _ from rfl) (.nil))), by intro y hy vs e; subst e; simp at hy⟩) rfl rfl rfl ?_⟩
    (repeat' (first | exact TLe.refl _ | exact VLe.refl _ | exact CLe.refl _ | exact All2.nil | refine TLe.tup ?_ | refine TLe.v ?_ | refine All2.cons ?_ ?_ | refine VLe.agg ?_ | refine VLe.one ?_ | exact CLe.nil _ | exact CLe.emp _ | refine CLe.val ?_ | refine CLe.slc ?_ ?_))
  replace h := Md.cond_f h c3
  refine aw_skip ?_
  refine aw_seq ?_
  refine aw_seq ?_
  refine aw_region ?_
  refine aops_step1 rfl (st_move rfl rfl) ?_
  refine aops_step1 rfl (st_move rfl rfl) ?_
  refine aops_step1 rfl (st_conv_int rfl rfl Try.underlying3 Try.underlying61 (Md.ofInt_u64 a1)) ?_
  refine aops_step1 rfl (ev_cmp rfl rfl rfl rfl) ?_
  refine aops_nil ?_
  refine aw_cond rfl (fun c4 => ?_) (fun c4 => ?_)
  · replace h := Md.cond_t h c4
    refine aw_seq ?_
    refine aw_region ?_
    refine aops_step1 rfl (st_assign rfl rfl) ?_
    refine aops_step1 rfl (st_assign rfl rfl) ?_
    refine aops_step1 rfl (st_assign rfl rfl) ?_
    refine aops_nil ?_
    cases Option.some.inj h
    refine aw_ret ⟨rfl, ret_v (.inr ⟨by decide, _, rfl, .cons (show get _ _ = AV.one _ from rfl) (.cons (show get _ _ = AV.one _ from rfl) (.cons (show get _ _ = AV.one _ from rfl) (.nil))), by intro y hy vs e; subst e; simp at hy⟩) rfl rfl rfl ?_⟩
    (repeat' (first | exact TLe.refl _ | exact VLe.refl _ | exact CLe.refl _ | exact All2.nil | refine TLe.tup ?_ | refine TLe.v ?_ | refine All2.cons ?_ ?_ | refine VLe.agg ?_ | refine VLe.one ?_ | exact CLe.nil _ | exact CLe.emp _ | refine CLe.val ?_ | refine CLe.slc ?_ ?_))
  replace h := Md.cond_f h c4
  refine aw_skip ?_
  refine aw_seq ?_
  refine aw_region ?_
  refine aops_step1 rfl (st_assign rfl rfl) ?_
  refine aops_nil ?_
  refine aw_seq ?_
  refine aw_seq ?_
  refine aw_region ?_
  refine aops_step1 rfl (st_assign rfl rfl) ?_
  refine aops_nil ?_
  refine aw_block ?_
  refine aw_own_nil 10 0 3 1 (lsEl c_Int []) rfl rfl ?_
  obtain ⟨o5, ho5, h⟩ := Md.bind_s h
  refine aw_loop_x (ι := {p : Nat × Int × UInt64 × (List Int) // actorgridref1_ReadIntList_loop1 k a0 x2 p.1 p.2.1 p.2.2.1 p.2.2.2 = some o5}) (fun p => (⟨55, [], [(0, .one (CV.ls byC a0)), (7, .one (.val (.int .u64 (x2.1.toNat : Int)))), (8, .one (.val (.int .i64 p.1.2.1))), (10, .one (.own 0)), (11, .one (.val (.int .u64 (p.1.2.2.1.toNat : Int))))], [(0, some (.row 3 1 p.1.2.2.2.length (lsEl c_Int p.1.2.2.2)))]⟩ : ASt)) (fun p => p.1.1) ⟨(k, x2.2.1, (0 : UInt64), ([] : List Int)), ho5⟩ (by (refine weak_mk rfl rfl ?_ ?_ rfl <;> repeat' (first | exact trivial | refine ⟨?_, ?_⟩ | exact VLe.refl _ | exact BLe.refl _ | refine VLe.one (CLe.val ?_) | exact VLe.one (CLe.nil _) | exact VLe.one (CLe.emp _)))) 0 (ε := (Int × (List Int))) (fun x => (⟨55, [], [(8, .one (.val (.int .i64 x.1))), (10, .one (.own 0))], [(0, some (.row 3 1 x.2.length (lsEl c_Int x.2)))]⟩ : ASt)) (fun x => Sum.inl x = o5) (fun _ _ w h => aw_weak w h) ?_ ?_
  · intro x5_0 hI5
    subst hI5
    replace h := Md.onS_l h
    change AW _ _ (⟨55, [], [(8, .one (.val (.int .i64 x5_0.1))), (10, .one (.own 0))], [(0, some (.row 3 1 x5_0.2.length (lsEl c_Int x5_0.2)))]⟩ : ASt) _
    refine aw_seq ?_
    refine aw_region ?_
    refine aops_step1 rfl (st_move rfl rfl) ?_
    refine aops_step1 rfl (st_move rfl rfl) ?_
    refine aops_step1 rfl (st_assign rfl rfl) ?_
    refine aops_step1 rfl (st_assign rfl rfl) ?_
    refine aops_step1 rfl (st_assign rfl rfl) ?_
    refine aops_nil ?_
    cases Option.some.inj h
    refine aw_freeze 0 rfl ?_
    refine aw_ret ⟨rfl, ret_v (.inr ⟨by decide, _, rfl, .cons (show get _ _ = AV.one _ from rfl) (.cons (show get _ _ = AV.one _ from rfl) (.cons (show get _ _ = AV.one _ from rfl) (.nil))), by intro y hy vs e; subst e; simp at hy⟩) rfl rfl rfl ?_⟩
    (repeat' (first | exact TLe.refl _ | exact VLe.refl _ | exact CLe.refl _ | exact All2.nil | refine TLe.tup ?_ | refine TLe.v ?_ | refine All2.cons ?_ ?_ | refine VLe.agg ?_ | refine VLe.one ?_ | exact CLe.nil _ | exact CLe.emp _ | refine CLe.val ?_ | refine CLe.slc ?_ ?_))
  intro p5
  obtain ⟨⟨n5, s5_0, s5_1, s5_2⟩, l5⟩ := p5
  change AW _ _ (⟨55, [], [(0, .one (CV.ls byC a0)), (7, .one (.val (.int .u64 (x2.1.toNat : Int)))), (8, .one (.val (.int .i64 s5_0))), (10, .one (.own 0)), (11, .one (.val (.int .u64 (s5_1.toNat : Int))))], [(0, some (.row 3 1 s5_2.length (lsEl c_Int s5_2)))]⟩ : ASt) _
  replace l5 : actorgridref1_ReadIntList_loop1 k a0 x2 n5 s5_0 s5_1 s5_2 = some o5 := l5
  rcases n5 with _ | n5
  · exact absurd (show none = some o5 from l5) nofun
  rw [actorgridref1_ReadIntList_loop1] at l5
  refine aw_seq ?_
  refine aw_seq ?_
  refine aw_region ?_
  refine aops_step1 rfl (st_move rfl rfl) ?_
  refine aops_step1 rfl (st_move rfl rfl) ?_
  refine aops_step1 rfl (ev_cmp rfl rfl rfl rfl) ?_
  refine aops_nil ?_
  refine aw_cond rfl (fun c6 => ?_) (fun c6 => ?_)
  · replace l5 := Md.cond_t l5 c6
    refine aw_skip ?_
    refine aw_seq ?_
    refine aw_block ?_
    refine aw_seq ?_
    refine aw_region ?_
    refine aops_step1 rfl (st_move rfl rfl) ?_
    refine aops_step1 rfl (st_move rfl rfl) ?_
    obtain ⟨g7, l5⟩ := Md.ifp_s l5
    obtain ⟨g8, l5⟩ := Md.ifp_s l5
    refine aops_step1 rfl (st_cut_lo (f := byC) (fun _ => rfl) rfl ⟨_, _, rfl, (Md.nn_eq g7)⟩ g8 rfl) ?_
    obtain ⟨x9, hx9, l5⟩ := Md.bind_s l5
    refine aops_step1 rfl (ev_call_v (actorgridref1_ReadInt_fn k (a0.drop ((s5_0).toNat)) x9 hx9) rfl [] (by repeat' (first | exact All2.nil | refine All2.cons ?_ ?_ | refine ArgV.one ?_ | refine ArgV.agg ?_ | exact ArgC.mk rfl | exact ArgC.lend rfl (by simp) | exact ArgC.le (CLe.nil _) rfl | exact ArgC.le (CLe.emp _) rfl | exact ArgC.le (CLe.any _) rfl)) rfl rfl rfl (.inl rfl) rfl) ?_
    refine aops_step1 rfl (st_movet rfl rfl) ?_
    refine aops_step1 rfl (ev_extract rfl rfl rfl) ?_
    refine aops_step1 rfl (ev_extract rfl rfl rfl) ?_
    refine aops_step1 rfl (ev_extract rfl rfl rfl) ?_
    refine aops_step1 rfl (st_assign rfl rfl) ?_
    refine aops_step1 rfl (st_assign rfl rfl) ?_
    refine aops_step1 rfl (st_assign rfl rfl) ?_
    refine aops_nil ?_
    refine aw_seq ?_
    refine aw_seq ?_
    refine aw_region ?_
    refine aops_step1 rfl (st_move rfl rfl) ?_
    refine aops_step1 rfl (ev_cmp rfl rfl rfl rfl) ?_
    refine aops_nil ?_
    refine aw_cond rfl (fun c10 => ?_) (fun c10 => ?_)
    · replace l5 := Md.cond_t l5 c10
      refine aw_seq ?_
      refine aw_region ?_
      refine aops_step1 rfl (st_move rfl rfl) ?_
      refine aops_step1 rfl (st_assign rfl rfl) ?_
      refine aops_step1 rfl (st_assign rfl rfl) ?_
      refine aops_step1 rfl (st_assign rfl rfl) ?_
      refine aops_nil ?_
      cases Option.some.inj l5
      replace h := Md.onS_r h
      cases Option.some.inj h
      refine aw_ret ⟨rfl, ret_v (.inr ⟨by decide, _, rfl, .cons (show get _ _ = AV.one _ from rfl) (.cons (show get _ _ = AV.one _ from rfl) (.cons (show get _ _ = AV.one _ from rfl) (.nil))), by intro y hy vs e; subst e; simp at hy⟩) rfl rfl rfl ?_⟩
      (repeat' (first | exact TLe.refl _ | exact VLe.refl _ | exact CLe.refl _ | exact All2.nil | refine TLe.tup ?_ | refine TLe.v ?_ | refine All2.cons ?_ ?_ | refine VLe.agg ?_ | refine VLe.one ?_ | exact CLe.nil _ | exact CLe.emp _ | refine CLe.val ?_ | refine CLe.slc ?_ ?_))
    replace l5 := Md.cond_f l5 c10
    refine aw_skip ?_
    refine aw_seq ?_
    refine aw_region ?_
    refine aops_step1 rfl (st_move rfl rfl) ?_
    refine aops_step1 rfl (st_move rfl rfl) ?_
    refine aops_step1 rfl (st_slice_lit (el := lsEl c_Int [x9.1]) 1 rfl rfl rfl rfl rfl rfl rfl rfl (lit_el c_Int 1 [x9.1] (fun _ => rfl)) rfl) ?_
    obtain ⟨g11, l5⟩ := Md.ifp_s l5
    refine aops_step1 rfl (st_app_ls (f := c_Int) s5_2 [x9.1] (fun _ => rfl) rfl rfl (.inr ⟨_, _, rfl, rfl⟩) (by omega) (by omega) rfl) ?_
    refine aops_step1 rfl (st_assign rfl rfl) ?_
    refine aops_nil ?_
    refine aw_region ?_
    refine aops_step1 rfl (st_move rfl rfl) ?_
    refine aops_step1 rfl (st_move rfl rfl) ?_
    refine aops_step1 rfl (ev_add rfl rfl rfl (Md.wrap_W _)) ?_
    refine aops_step1 rfl (st_assign rfl rfl) ?_
    refine aops_nil ?_
    refine aw_region ?_
    refine aops_step1 rfl (st_move rfl rfl) ?_
    refine aops_step1 rfl (ev_add rfl rfl rfl (Md.add_u64 s5_1 (1 : UInt64))) ?_
    refine aops_step1 rfl (st_assign rfl rfl) ?_
    refine aops_nil ?_
    exact ⟨⟨(n5, (Md.W (s5_0 + x9.2.1)), (s5_1 + (1 : UInt64)), (s5_2 ++ [x9.1])), l5⟩, Nat.lt_succ_self _, (by (refine weak_mk rfl rfl ?_ ?_ rfl <;> repeat' (first | exact trivial | refine ⟨?_, ?_⟩ | exact VLe.refl _ | exact BLe.refl _ | refine VLe.one (CLe.val ?_) | exact VLe.one (CLe.nil _) | exact VLe.one (CLe.emp _))))⟩
  replace l5 := Md.cond_f l5 c6
  refine aw_exit ?_
  show ∃ _x : Int × (List Int), _ = _ ∧ Weak _ _
  exact ⟨(s5_0, s5_2), Option.some.inj l5, (by (refine weak_mk rfl rfl ?_ ?_ rfl <;> repeat' (first | exact trivial | refine ⟨?_, ?_⟩ | exact VLe.refl _ | exact BLe.refl _ | refine VLe.one (CLe.val ?_) | exact VLe.one (CLe.nil _) | exact VLe.one (CLe.emp _))))⟩
set_option maxHeartbeats 2000000 in
theorem actorgridref1_StringList_fn (k : Nat) (a0 : List (List UInt8)) (r : (List UInt8)) (h : actorgridref1_StringList k a0 = some r) : FnC Try.prog 29 [.one (CV.ls c_Str a0)] [] (Det (.one (.own 0)) [(0, some (.row 5 1 r.length (lsEl byC r)))]) := by
  unfold actorgridref1_StringList at h
  refine fn_intro' 23 Try.func29 rfl rfl rfl ?_
  refine aw_seq ?_
  refine aw_region ?_
  refine aops_step1 rfl (st_assign rfl rfl) ?_
  refine aops_nil ?_
  refine aw_seq ?_
  refine aw_region ?_
  refine aops_step1 rfl (st_move rfl rfl) ?_
  refine aops_step1 rfl (ev_len_slc rfl rfl) ?_
  refine aops_step1 rfl (st_conv_int rfl rfl Try.underlying3 Try.underlying61 (Md.ofNat_u64 a0.length)) ?_
  obtain ⟨x1, hx1, h⟩ := Md.bind_s h
  refine aops_step1 rfl (st_call_r (r' := .one (.own 0)) 0 rfl (actorgridref1_Uint_fn k (UInt64.ofNat a0.length) x1 hx1) rfl [] (by repeat' (first | exact All2.nil | refine All2.cons ?_ ?_ | refine ArgV.one ?_ | refine ArgV.agg ?_ | exact ArgC.mk rfl | exact ArgC.lend rfl (by simp) | exact ArgC.le (CLe.nil _) rfl | exact ArgC.le (CLe.emp _) rfl | exact ArgC.le (CLe.any _) rfl)) rfl rfl rfl (.inl rfl) rfl rfl) ?_
  refine aops_step1 rfl (st_assign rfl rfl) ?_
  refine aops_nil ?_
  refine aw_seq ?_
  refine aw_seq ?_
  refine aw_region ?_
  refine aops_step1 rfl (st_assign rfl rfl) ?_
  refine aops_nil ?_
  refine aw_block ?_
  obtain ⟨o2, ho2, h⟩ := Md.bind_s h
  refine aw_loop_x (ι := {p : Nat × Nat × (List UInt8) // actorgridref1_StringList_loop1 k a0 p.1 p.2.1 p.2.2 = some o2}) (fun p => (⟨23, [], [(0, .one (CV.ls c_Str a0)), (3, .one (.own 0)), (4, .one (.val (.int .i64 ((p.1.2.1 : Nat) : Int))))], [(0, some (.row 5 1 p.1.2.2.length (lsEl byC p.1.2.2)))]⟩ : ASt)) (fun p => p.1.1) ⟨(k, 0, x1), ho2⟩ (by (refine weak_mk rfl rfl ?_ ?_ rfl <;> repeat' (first | exact trivial | refine ⟨?_, ?_⟩ | exact VLe.refl _ | exact BLe.refl _ | refine VLe.one (CLe.val ?_) | exact VLe.one (CLe.nil _) | exact VLe.one (CLe.emp _)))) 0 (ε := (List UInt8)) (fun x => (⟨23, [], [(3, .one (.own 0))], [(0, some (.row 5 1 x.length (lsEl byC x)))]⟩ : ASt)) (fun x => x = o2) (fun _ _ w h => aw_weak w h) ?_ ?_
  · intro x2_0 hI2
    subst hI2
    change AW _ _ (⟨23, [], [(3, .one (.own 0))], [(0, some (.row 5 1 x2_0.length (lsEl byC x2_0)))]⟩ : ASt) _
    refine aw_seq ?_
    refine aw_region ?_
    refine aops_step1 rfl (st_move rfl rfl) ?_
    refine aops_step1 rfl (st_assign rfl rfl) ?_
    refine aops_nil ?_
    cases Option.some.inj h
    refine aw_ret ⟨rfl, ret_r 0 (.inl ⟨_, rfl, rfl, fun _ e => nomatch e⟩) rfl rfl rfl ?_ ?_ ?_⟩
    · first | exact TLe.refl _ | (repeat' (first | exact TLe.refl _ | exact VLe.refl _ | exact CLe.refl _ | exact All2.nil | refine TLe.tup ?_ | refine TLe.v ?_ | refine All2.cons ?_ ?_ | refine VLe.agg ?_ | refine VLe.one ?_ | exact CLe.nil _ | exact CLe.emp _ | refine CLe.val ?_ | refine CLe.slc ?_ ?_))
    · rfl
    · rfl
  intro p2
  obtain ⟨⟨n2, s2_0, s2_1⟩, l2⟩ := p2
  change AW _ _ (⟨23, [], [(0, .one (CV.ls c_Str a0)), (3, .one (.own 0)), (4, .one (.val (.int .i64 ((s2_0 : Nat) : Int))))], [(0, some (.row 5 1 s2_1.length (lsEl byC s2_1)))]⟩ : ASt) _
  replace l2 : actorgridref1_StringList_loop1 k a0 n2 s2_0 s2_1 = some o2 := l2
  rcases n2 with _ | n2
  · exact absurd (show none = some o2 from l2) nofun
  rw [actorgridref1_StringList_loop1] at l2
  refine aw_seq ?_
  refine aw_seq ?_
  refine aw_region ?_
  refine aops_step1 rfl (st_move rfl rfl) ?_
  refine aops_step1 rfl (st_move rfl rfl) ?_
  refine aops_step1 rfl (ev_len_slc rfl rfl) ?_
  refine aops_step1 rfl (ev_cmp rfl rfl rfl rfl) ?_
  refine aops_nil ?_
  refine aw_cond rfl (fun c3 => ?_) (fun c3 => ?_)
  · replace l2 := Md.cond_t l2 c3
    refine aw_skip ?_
    refine aw_seq ?_
    refine aw_block ?_
    refine aw_region ?_
    refine aops_step1 rfl (st_move rfl rfl) ?_
    refine aops_step1 rfl (st_move rfl rfl) ?_
    refine aops_step1 rfl (st_move rfl rfl) ?_
    obtain ⟨g4, l2⟩ := Md.ifp_s l2
    refine aops_step1 rfl (ev_index_in rfl rfl rfl g4 rfl rfl) ?_
    refine aops_step1 rfl (ev_load_in rfl rfl rfl) ?_
    obtain ⟨x5, hx5, l2⟩ := Md.bind_s l2
    refine aops_step1 rfl (st_call_r (r' := .one (.own 1)) 1 rfl (actorgridref1_String_fn k (a0.getD s2_0 default) x5 hx5) rfl [] (by repeat' (first | exact All2.nil | refine All2.cons ?_ ?_ | refine ArgV.one ?_ | refine ArgV.agg ?_ | exact ArgC.mk rfl | exact ArgC.lend rfl (by simp) | exact ArgC.le (CLe.nil _) rfl | exact ArgC.le (CLe.emp _) rfl | exact ArgC.le (CLe.any _) rfl)) rfl rfl rfl (.inl rfl) rfl rfl) ?_
    obtain ⟨g6, l2⟩ := Md.ifp_s l2
    refine aops_step1 rfl (st_app_ls (f := byC) s2_1 x5 (fun _ => rfl) rfl rfl (.inr ⟨_, _, rfl, rfl⟩) (by omega) (by omega) rfl) ?_
    refine aops_step1 rfl (st_assign rfl rfl) ?_
    refine aops_nil ?_
    refine aw_region ?_
    refine aops_step1 rfl (st_move rfl rfl) ?_
    obtain ⟨g7, l2⟩ := Md.ifp_s l2
    refine aops_step1 rfl (ev_add rfl rfl rfl (Md.nat_add g7)) ?_
    refine aops_step1 rfl (st_assign rfl rfl) ?_
    refine aops_nil ?_
    exact ⟨⟨(n2, (s2_0 + 1), (s2_1 ++ x5)), l2⟩, Nat.lt_succ_self _, (by (refine weak_mk rfl rfl ?_ ?_ rfl <;> repeat' (first | exact trivial | refine ⟨?_, ?_⟩ | exact VLe.refl _ | exact BLe.refl _ | refine VLe.one (CLe.val ?_) | exact VLe.one (CLe.nil _) | exact VLe.one (CLe.emp _))))⟩
  replace l2 := Md.cond_f l2 c3
  refine aw_exit ?_
  show ∃ _x : (List UInt8), _ = _ ∧ Weak _ _
  exact ⟨s2_1, Option.some.inj l2, (by (refine weak_mk rfl rfl ?_ ?_ rfl <;> repeat' (first | exact trivial | refine ⟨?_, ?_⟩ | exact VLe.refl _ | exact BLe.refl _ | refine VLe.one (CLe.val ?_) | exact VLe.one (CLe.nil _) | exact VLe.one (CLe.emp _))))⟩
set_option maxHeartbeats 2000000 in
theorem actorgridref1_ReadStringList_fn (k : Nat) (a0 : List UInt8) (a1 : Int) (r : (List (List UInt8)) × Int × Int) (h : actorgridref1_ReadStringList k a0 a1 = some r) : FnC Try.prog 19 [.one (CV.ls byC a0), .one (.val (.int .i64 a1))] [] (Det (.tup [.one (CV.ls c_Str r.1), .one (.val (.int .i64 r.2.1)), .one (.val (.int .i64 r.2.2))]) []) := by
  unfold actorgridref1_ReadStringList at h
  refine fn_intro' 55 Try.func19 rfl rfl rfl ?_
  refine aw_seq ?_
  refine aw_region ?_
  refine aops_step1 rfl (st_assign rfl rfl) ?_
  refine aops_step1 rfl (st_assign rfl rfl) ?_
  refine aops_step1 rfl (st_assign rfl rfl) ?_
  refine aops_nil ?_
  refine aw_seq ?_
  refine aw_seq ?_
  refine aw_region ?_
  refine aops_step1 rfl (st_move rfl rfl) ?_
  refine aops_step1 rfl (ev_cmp rfl rfl rfl rfl) ?_
  refine aops_nil ?_
  refine aw_cond rfl (fun c1 => ?_) (fun c1 => ?_)
  · replace h := Md.cond_t h c1
    refine aw_seq ?_
    refine aw_region ?_
    refine aops_step1 rfl (st_assign rfl rfl) ?_
    refine aops_step1 rfl (st_assign rfl rfl) ?_
    refine aops_step1 rfl (st_assign rfl rfl) ?_
    refine aops_nil ?_
    cases Option.some.inj h
    refine aw_ret ⟨rfl, ret_v (.inr ⟨by decide, _, rfl, .cons (show get _ _ = AV.one _ from rfl) (.cons (show get _ _ = AV.one _ from rfl) (.cons (show get _ _ = AV.one _ from rfl) (.nil))), by intro y hy vs e; subst e; simp at hy⟩) rfl rfl rfl ?_⟩
    (repeat' (first | exact TLe.refl _ | exact VLe.refl _ | exact CLe.refl _ | exact All2.nil | refine TLe.tup ?_ | refine TLe.v ?_ | refine All2.cons ?_ ?_ | refine VLe.agg ?_ | refine VLe.one ?_ | exact CLe.nil _ | exact CLe.emp _ | refine CLe.val ?_ | refine CLe.slc ?_ ?_))
  replace h := Md.cond_f h c1
  refine aw_skip ?_
  refine aw_seq ?_
  refine aw_region ?_
  refine aops_step1 rfl (st_move rfl rfl) ?_
  obtain ⟨x2, hx2, h⟩ := Md.bind_s h
  refine aops_step1 rfl (ev_call_v (actorgridref1_ReadUint_fn k a0 x2 hx2) rfl [] (by repeat' (first | exact All2.nil | refine All2.cons ?_ ?_ | refine ArgV.one ?_ | refine ArgV.agg ?_ | exact ArgC.mk rfl | exact ArgC.lend rfl (by simp) | exact ArgC.le (CLe.nil _) rfl | exact ArgC.le (CLe.emp _) rfl | exact ArgC.le (CLe.any _) rfl)) rfl rfl rfl (.inl rfl) rfl) ?_
  refine aops_step1 rfl (st_movet rfl rfl) ?_
  refine aops_step1 rfl (ev_extract rfl rfl rfl) ?_
  refine aops_step1 rfl (ev_extract rfl rfl rfl) ?_
  refine aops_step1 rfl (ev_extract rfl rfl rfl) ?_
  refine aops_step1 rfl (st_assign rfl rfl) ?_
  refine aops_step1 rfl (st_assign rfl rfl) ?_
  refine aops_step1 rfl (st_assign rfl rfl) ?_
  refine aops_nil ?_
  refine aw_seq ?_
  refine aw_seq ?_
  refine aw_region ?_
  refine aops_step1 rfl (st_move rfl rfl) ?_
  refine aops_step1 rfl (ev_cmp rfl rfl rfl rfl) ?_
  refine aops_nil ?_
  refine aw_cond rfl (fun c3 => ?_) (fun c3 => ?_)
  · replace h := Md.cond_t h c3
    refine aw_seq ?_
    refine aw_region ?_
    refine aops_step1 rfl (st_move rfl rfl) ?_
    refine aops_step1 rfl (st_assign rfl rfl) ?_
    refine aops_step1 rfl (st_assign rfl rfl) ?_
    refine aops_step1 rfl (st_assign rfl rfl) ?_
    refine aops_nil ?_
    cases Option.some.inj h
    refine aw_ret ⟨rfl, ret_v (.inr ⟨by decide, _, rfl, .cons (show get _ _ = AV.one _ from rfl) (.cons (show get _ _ = AV.one _ from rfl) (.cons (show get _ _ = AV.one _ from rfl) (.nil))), by intro y hy vs e; subst e; simp at hy⟩) rfl rfl rfl ?_⟩
    (repeat' (first | exact TLe.refl _ | exact VLe.refl _ | exact CLe.refl _ | exact All2.nil | refine TLe.tup ?_ | refine TLe.v ?_ | refine All2.cons ?_ ?_ | refine VLe.agg ?_ | refine VLe.one ?_ | exact CLe.nil _ | exact CLe.emp _ | refine CLe.val ?_ | refine CLe.slc ?_ ?_))
  replace h := Md.cond_f h c3
  refine aw_skip ?_
  refine aw_seq ?_
  refine aw_seq ?_
  refine aw_region ?_
  refine aops_step1 rfl (st_move rfl rfl) ?_
  refine aops_step1 rfl (st_move rfl rfl) ?_
  refine aops_step1 rfl (st_conv_int rfl rfl Try.underlying3 Try.underlying61 (Md.ofInt_u64 a1)) ?_
  refine aops_step1 rfl (ev_cmp rfl rfl rfl rfl) ?_
  refine aops_nil ?_
  refine aw_cond rfl (fun c4 => ?_) (fun c4 => ?_)
  · replace h := Md.cond_t h c4
    refine aw_seq ?_
    refine aw_region ?_
    refine aops_step1 rfl (st_assign rfl rfl) ?_
    refine aops_step1 rfl (st_assign rfl rfl) ?_
    refine aops_step1 rfl (st_assign rfl rfl) ?_
    refine aops_nil ?_
    cases Option.some.inj h
    refine aw_ret ⟨rfl, ret_v (.inr ⟨by decide, _, rfl, .cons (show get _ _ = AV.one _ from rfl) (.cons (show get _ _ = AV.one _ from rfl) (.cons (show get _ _ = AV.one _ from rfl) (.nil))), by intro y hy vs e; subst e; simp at hy⟩) rfl rfl rfl ?_⟩
    (repeat' (first | exact TLe.refl _ | exact VLe.refl _ | exact CLe.refl _ | exact All2.nil | refine TLe.tup ?_ | refine TLe.v ?_ | refine All2.cons ?_ ?_ | refine VLe.agg ?_ | refine VLe.one ?_ | exact CLe.nil _ | exact CLe.emp _ | refine CLe.val ?_ | refine CLe.slc ?_ ?_))
  replace h := Md.cond_f h c4
  refine aw_skip ?_
  refine aw_seq ?_
  refine aw_region ?_
  refine aops_step1 rfl (st_assign rfl rfl) ?_
  refine aops_nil ?_
  refine aw_seq ?_
  refine aw_seq ?_
  refine aw_region ?_
  refine aops_step1 rfl (st_assign rfl rfl) ?_
  refine aops_nil ?_
  refine aw_block ?_
  refine aw_own_nil 10 0 9 1 (lsEl c_Str []) rfl rfl ?_
  obtain ⟨o5, ho5, h⟩ := Md.bind_s h
  refine aw_loop_x (ι := {p : Nat × Int × UInt64 × (List (List UInt8)) // actorgridref1_ReadStringList_loop1 k a0 x2 p.1 p.2.1 p.2.2.1 p.2.2.2 = some o5}) (fun p => (⟨55, [], [(0, .one (CV.ls byC a0)), (7, .one (.val (.int .u64 (x2.1.toNat : Int)))), (8, .one (.val (.int .i64 p.1.2.1))), (10, .one (.own 0)), (11, .one (.val (.int .u64 (p.1.2.2.1.toNat : Int))))], [(0, some (.row 9 1 p.1.2.2.2.length (lsEl c_Str p.1.2.2.2)))]⟩ : ASt)) (fun p => p.1.1) ⟨(k, x2.2.1, (0 : UInt64), ([] : List (List UInt8))), ho5⟩ (by (refine weak_mk rfl rfl ?_ ?_ rfl <;> repeat' (first | exact trivial | refine ⟨?_, ?_⟩ | exact VLe.refl _ | exact BLe.refl _ | refine VLe.one (CLe.val ?_) | exact VLe.one (CLe.nil _) | exact VLe.one (CLe.emp _)))) 0 (ε := (Int × (List (List UInt8)))) (fun x => (⟨55, [], [(8, .one (.val (.int .i64 x.1))), (10, .one (.own 0))], [(0, some (.row 9 1 x.2.length (lsEl c_Str x.2)))]⟩ : ASt)) (fun x => Sum.inl x = o5) (fun _ _ w h => aw_weak w h) ?_ ?_
  · intro x5_0 hI5
    subst hI5
    replace h := Md.onS_l h
    change AW _ _ (⟨55, [], [(8, .one (.val (.int .i64 x5_0.1))), (10, .one (.own 0))], [(0, some (.row 9 1 x5_0.2.length (lsEl c_Str x5_0.2)))]⟩ : ASt) _
    refine aw_seq ?_
    refine aw_region ?_
    refine aops_step1 rfl (st_move rfl rfl) ?_
    refine aops_step1 rfl (st_move rfl rfl) ?_
    refine aops_step1 rfl (st_assign rfl rfl) ?_
    refine aops_step1 rfl (st_assign rfl rfl) ?_
    refine aops_step1 rfl (st_assign rfl rfl) ?_
    refine aops_nil ?_
    cases Option.some.inj h
    refine aw_freeze 0 rfl ?_
    refine aw_ret ⟨rfl, ret_v (.inr ⟨by decide, _, rfl, .cons (show get _ _ = AV.one _ from rfl) (.cons (show get _ _ = AV.one _ from rfl) (.cons (show get _ _ = AV.one _ from rfl) (.nil))), by intro y hy vs e; subst e; simp at hy⟩) rfl rfl rfl ?_⟩
    (repeat' (first | exact TLe.refl _ | exact VLe.refl _ | exact CLe.refl _ | exact All2.nil | refine TLe.tup ?_ | refine TLe.v ?_ | refine All2.cons ?_ ?_ | refine VLe.agg ?_ | refine VLe.one ?_ | exact CLe.nil _ | exact CLe.emp _ | refine CLe.val ?_ | refine CLe.slc ?_ ?_))
  intro p5
  obtain ⟨⟨n5, s5_0, s5_1, s5_2⟩, l5⟩ := p5
  change AW _ _ (⟨55, [], [(0, .one (CV.ls byC a0)), (7, .one (.val (.int .u64 (x2.1.toNat : Int)))), (8, .one (.val (.int .i64 s5_0))), (10, .one (.own 0)), (11, .one (.val (.int .u64 (s5_1.toNat : Int))))], [(0, some (.row 9 1 s5_2.length (lsEl c_Str s5_2)))]⟩ : ASt) _
  replace l5 : actorgridref1_ReadStringList_loop1 k a0 x2 n5 s5_0 s5_1 s5_2 = some o5 := l5
  rcases n5 with _ | n5
  · exact absurd (show none = some o5 from l5) nofun
  rw [actorgridref1_ReadStringList_loop1] at l5
  refine aw_seq ?_
  refine aw_seq ?_
  refine aw_region ?_
  refine aops_step1 rfl (st_move rfl rfl) ?_
  refine aops_step1 rfl (st_move rfl rfl) ?_
  refine aops_step1 rfl (ev_cmp rfl rfl rfl rfl) ?_
  refine aops_nil ?_
  refine aw_cond rfl (fun c6 => ?_) (fun c6 => ?_)
  · replace l5 := Md.cond_t l5 c6
    refine aw_skip ?_
    refine aw_seq ?_
    refine aw_block ?_
    refine aw_seq ?_
    refine aw_region ?_
    refine aops_step1 rfl (st_move rfl rfl) ?_
    refine aops_step1 rfl (st_move rfl rfl) ?_
    obtain ⟨g7, l5⟩ := Md.ifp_s l5
    obtain ⟨g8, l5⟩ := Md.ifp_s l5
    refine aops_step1 rfl (st_cut_lo (f := byC) (fun _ => rfl) rfl ⟨_, _, rfl, (Md.nn_eq g7)⟩ g8 rfl) ?_
    obtain ⟨x9, hx9, l5⟩ := Md.bind_s l5
    refine aops_step1 rfl (ev_call_v (actorgridref1_ReadString_fn k (a0.drop ((s5_0).toNat)) 64 x9 hx9) rfl [] (by repeat' (first | exact All2.nil | refine All2.cons ?_ ?_ | refine ArgV.one ?_ | refine ArgV.agg ?_ | exact ArgC.mk rfl | exact ArgC.lend rfl (by simp) | exact ArgC.le (CLe.nil _) rfl | exact ArgC.le (CLe.emp _) rfl | exact ArgC.le (CLe.any _) rfl)) rfl rfl rfl (.inl rfl) rfl) ?_
    refine aops_step1 rfl (st_movet rfl rfl) ?_
    refine aops_step1 rfl (ev_extract rfl rfl rfl) ?_
    refine aops_step1 rfl (ev_extract rfl rfl rfl) ?_
    refine aops_step1 rfl (ev_extract rfl rfl rfl) ?_
    refine aops_step1 rfl (st_assign rfl rfl) ?_
    refine aops_step1 rfl (st_assign rfl rfl) ?_
    refine aops_step1 rfl (st_assign rfl rfl) ?_
    refine aops_nil ?_
    refine aw_seq ?_
    refine aw_seq ?_
    refine aw_region ?_
    refine aops_step1 rfl (st_move rfl rfl) ?_
    refine aops_step1 rfl (ev_cmp rfl rfl rfl rfl) ?_
    refine aops_nil ?_
    refine aw_cond rfl (fun c10 => ?_) (fun c10 => ?_)
    · replace l5 := Md.cond_t l5 c10
      refine aw_seq ?_
      refine aw_region ?_
      refine aops_step1 rfl (st_move rfl rfl) ?_
      refine aops_step1 rfl (st_assign rfl rfl) ?_
      refine aops_step1 rfl (st_assign rfl rfl) ?_
      refine aops_step1 rfl (st_assign rfl rfl) ?_
      refine aops_nil ?_
      cases Option.some.inj l5
      replace h := Md.onS_r h
      cases Option.some.inj h
      refine aw_ret ⟨rfl, ret_v (.inr ⟨by decide, _, rfl, .cons (show get _ _ = AV.one _ from rfl) (.cons (show get _ _ = AV.one _ from rfl) (.cons (show get _ _ = AV.one _ from rfl) (.nil))), by intro y hy vs e; subst e; simp at hy⟩) rfl rfl rfl ?_⟩
      (repeat' (first | exact TLe.refl _ | exact VLe.refl _ | exact CLe.refl _ | exact All2.nil | refine TLe.tup ?_ | refine TLe.v ?_ | refine All2.cons ?_ ?_ | refine VLe.agg ?_ | refine VLe.one ?_ | exact CLe.nil _ | exact CLe.emp _ | refine CLe.val ?_ | refine CLe.slc ?_ ?_))
    replace l5 := Md.cond_f l5 c10
    refine aw_skip ?_
    refine aw_seq ?_
    refine aw_region ?_
    refine aops_step1 rfl (st_move rfl rfl) ?_
    refine aops_step1 rfl (st_move rfl rfl) ?_
    refine aops_step1 rfl (st_slice_lit (el := lsEl c_Str [x9.1]) 1 rfl rfl rfl rfl rfl rfl rfl rfl (lit_el c_Str 1 [x9.1] (fun _ => rfl)) rfl) ?_
    obtain ⟨g11, l5⟩ := Md.ifp_s l5
    refine aops_step1 rfl (st_app_ls (f := c_Str) s5_2 [x9.1] (fun _ => rfl) rfl rfl (.inr ⟨_, _, rfl, rfl⟩) (by omega) (by omega) rfl) ?_
    refine aops_step1 rfl (st_assign rfl rfl) ?_
    refine aops_nil ?_
    refine aw_region ?_
    refine aops_step1 rfl (st_move rfl rfl) ?_
    refine aops_step1 rfl (st_move rfl rfl) ?_
    refine aops_step1 rfl (ev_add rfl rfl rfl (Md.wrap_W _)) ?_
    refine aops_step1 rfl (st_assign rfl rfl) ?_
    refine aops_nil ?_
    refine aw_region ?_
    refine aops_step1 rfl (st_move rfl rfl) ?_
    refine aops_step1 rfl (ev_add rfl rfl rfl (Md.add_u64 s5_1 (1 : UInt64))) ?_
    refine aops_step1 rfl (st_assign rfl rfl) ?_
    refine aops_nil ?_
    exact ⟨⟨(n5, (Md.W (s5_0 + x9.2.1)), (s5_1 + (1 : UInt64)), (s5_2 ++ [x9.1])), l5⟩, Nat.lt_succ_self _, (by (refine weak_mk rfl rfl ?_ ?_ rfl <;> repeat' (first | exact trivial | refine ⟨?_, ?_⟩ | exact VLe.refl _ | exact BLe.refl _ | refine VLe.one (CLe.val ?_) | exact VLe.one (CLe.nil _) | exact VLe.one (CLe.emp _))))⟩
  replace l5 := Md.cond_f l5 c6
  refine aw_exit ?_
  show ∃ _x : Int × (List (List UInt8)), _ = _ ∧ Weak _ _
  exact ⟨(s5_0, s5_2), Option.some.inj l5, (by (refine weak_mk rfl rfl ?_ ?_ rfl <;> repeat' (first | exact trivial | refine ⟨?_, ?_⟩ | exact VLe.refl _ | exact BLe.refl _ | refine VLe.one (CLe.val ?_) | exact VLe.one (CLe.nil _) | exact VLe.one (CLe.emp _))))⟩
set_option maxHeartbeats 2000000 in
theorem actorgridref1_ValidValue_fn (k : Nat) (a0 : Value) (r : Bool) (h : actorgridref1_ValidValue k a0 = some r) : FnC Try.prog 50 [.agg [.val (.int .i64 a0.Kind), .val (.int .i64 a0.N), .val (Sv a0.S), CV.ls c_Int a0.I, CV.ls c_Str a0.L]] [] (Det (.one (.val (.bool r))) []) := by
  unfold actorgridref1_ValidValue at h
  refine fn_intro' 104 Try.func50 rfl rfl rfl ?_
  refine aw_seq ?_
  refine aw_region ?_
  refine aops_step1 rfl (st_box 0 rfl rfl rfl rfl) ?_
  refine aops_step1 rfl (st_assign rfl rfl) ?_
  refine aops_nil ?_
  refine aw_seq ?_
  refine aw_seq ?_
  refine aw_region ?_
  refine aops_step1 rfl (ev_field rfl rfl rfl) ?_
  refine aops_step1 rfl (ev_load rfl rfl rfl rfl) ?_
  refine aops_step1 rfl (ev_cmp rfl rfl rfl rfl) ?_
  refine aops_step1 rfl (st_move rfl rfl) ?_
  refine aops_mid 4 (⟨104, [], [(1, .one (.ptr 0 0)), (11, .one (.val (.bool ((a0.Kind != 1) && (a0.Kind != 2)))))], [(0, some (.box [.val (.int .i64 a0.Kind), .val (.int .i64 a0.N), .val (Sv a0.S), CV.ls c_Int a0.I, CV.ls c_Str a0.L]))]⟩ : ASt) ?_ ?_
  · rcases Md.bool_or ((a0.Kind != 1)) with q1 | q1
    · skip
      refine aops_yes rfl rfl rfl rfl q1 (ev_field rfl rfl rfl) ?_
      refine aops_yes rfl rfl rfl rfl q1 (ev_load rfl rfl rfl rfl) ?_
      refine aops_yes rfl rfl rfl rfl q1 (ev_cmp rfl rfl rfl rfl) ?_
      refine aops_step1 rfl (st_pick_yes rfl (by first | rfl | exact q1) rfl rfl) ?_
      refine aops_nil ?_
      show Weak _ _
      (refine weak_mk rfl rfl ?_ ?_ rfl <;> repeat' (first | exact trivial | refine ⟨?_, ?_⟩ | exact VLe.refl _ | exact BLe.refl _ | refine VLe.one (CLe.val ?_) | exact VLe.one (CLe.nil _) | exact VLe.one (CLe.emp _))) <;> (first | (rw [q1]; done) | (rw [q1]; rfl) | (simp [q1]; done))
    refine aops_no rfl rfl rfl rfl rfl (by first | decide | (rw [q1]; decide)) ?_
    refine aops_no rfl rfl rfl rfl rfl (by first | decide | (rw [q1]; decide)) ?_
    refine aops_no rfl rfl rfl rfl rfl (by first | decide | (rw [q1]; decide)) ?_
    refine aops_step1 rfl (st_pick_no rfl (by first | rfl | exact q1) rfl rfl) ?_
    refine aops_nil ?_
    show Weak _ _
    (refine weak_mk rfl rfl ?_ ?_ rfl <;> repeat' (first | exact trivial | refine ⟨?_, ?_⟩ | exact VLe.refl _ | exact BLe.refl _ | refine VLe.one (CLe.val ?_) | exact VLe.one (CLe.nil _) | exact VLe.one (CLe.emp _))) <;> (first | (rw [q1]; done) | (rw [q1]; rfl) | (simp [q1]; done))
  change AOps _ _ _ (⟨104, [], [(1, .one (.ptr 0 0)), (11, .one (.val (.bool ((a0.Kind != 1) && (a0.Kind != 2)))))], [(0, some (.box [.val (.int .i64 a0.Kind), .val (.int .i64 a0.N), .val (Sv a0.S), CV.ls c_Int a0.I, CV.ls c_Str a0.L]))]⟩ : ASt) _
  refine aops_step1 rfl (st_move rfl rfl) ?_
  refine aops_mid 4 (⟨104, [], [(1, .one (.ptr 0 0)), (16, .one (.val (.bool (((a0.Kind != 1) && (a0.Kind != 2)) && (a0.N != 0)))))], [(0, some (.box [.val (.int .i64 a0.Kind), .val (.int .i64 a0.N), .val (Sv a0.S), CV.ls c_Int a0.I, CV.ls c_Str a0.L]))]⟩ : ASt) ?_ ?_
  · rcases Md.bool_or (((a0.Kind != 1) && (a0.Kind != 2))) with q2 | q2
    · skip
      refine aops_yes rfl rfl rfl rfl q2 (ev_field rfl rfl rfl) ?_
      refine aops_yes rfl rfl rfl rfl q2 (ev_load rfl rfl rfl rfl) ?_
      refine aops_yes rfl rfl rfl rfl q2 (ev_cmp rfl rfl rfl rfl) ?_
      refine aops_step1 rfl (st_pick_yes rfl (by first | rfl | exact q2) rfl rfl) ?_
      refine aops_nil ?_
      show Weak _ _
      (refine weak_mk rfl rfl ?_ ?_ rfl <;> repeat' (first | exact trivial | refine ⟨?_, ?_⟩ | exact VLe.refl _ | exact BLe.refl _ | refine VLe.one (CLe.val ?_) | exact VLe.one (CLe.nil _) | exact VLe.one (CLe.emp _))) <;> (first | (rw [q2]; done) | (rw [q2]; rfl) | (simp [q2]; done))
    refine aops_no rfl rfl rfl rfl rfl (by first | decide | (rw [q2]; decide)) ?_
    refine aops_no rfl rfl rfl rfl rfl (by first | decide | (rw [q2]; decide)) ?_
    refine aops_no rfl rfl rfl rfl rfl (by first | decide | (rw [q2]; decide)) ?_
    refine aops_step1 rfl (st_pick_no rfl (by first | rfl | exact q2) rfl rfl) ?_
    refine aops_nil ?_
    show Weak _ _
    (refine weak_mk rfl rfl ?_ ?_ rfl <;> repeat' (first | exact trivial | refine ⟨?_, ?_⟩ | exact VLe.refl _ | exact BLe.refl _ | refine VLe.one (CLe.val ?_) | exact VLe.one (CLe.nil _) | exact VLe.one (CLe.emp _))) <;> (first | (rw [q2]; done) | (rw [q2]; rfl) | (simp [q2]; done))
  change AOps _ _ _ (⟨104, [], [(1, .one (.ptr 0 0)), (16, .one (.val (.bool (((a0.Kind != 1) && (a0.Kind != 2)) && (a0.N != 0)))))], [(0, some (.box [.val (.int .i64 a0.Kind), .val (.int .i64 a0.N), .val (Sv a0.S), CV.ls c_Int a0.I, CV.ls c_Str a0.L]))]⟩ : ASt) _
  refine aops_step1 rfl (st_move rfl rfl) ?_
  refine aops_mid 9 (⟨104, [], [(1, .one (.ptr 0 0)), (26, .one (.val (.bool ((((a0.Kind != 1) && (a0.Kind != 2)) && (a0.N != 0)) || ((a0.Kind != 3) && (!(decide (a0.S = []))))))))], [(0, some (.box [.val (.int .i64 a0.Kind), .val (.int .i64 a0.N), .val (Sv a0.S), CV.ls c_Int a0.I, CV.ls c_Str a0.L]))]⟩ : ASt) ?_ ?_
  · rcases Md.bool_or ((((a0.Kind != 1) && (a0.Kind != 2)) && (a0.N != 0))) with q3 | q3
    · skip
      refine aops_no rfl rfl rfl rfl rfl (by first | decide | (rw [q3]; decide)) ?_
      refine aops_no rfl rfl rfl rfl rfl (by first | decide | (rw [q3]; decide)) ?_
      refine aops_no rfl rfl rfl rfl rfl (by first | decide | (rw [q3]; decide)) ?_
      refine aops_no rfl rfl rfl rfl rfl (by first | decide | (rw [q3]; decide)) ?_
      refine aops_und rfl rfl rfl rfl rfl ?_
      refine aops_und rfl rfl rfl rfl rfl ?_
      refine aops_und rfl rfl rfl rfl rfl ?_
      refine aops_no rfl rfl rfl rfl rfl (by first | decide | (rw [q3]; decide)) ?_
      refine aops_step1 rfl (st_pick_yes rfl (by first | rfl | exact q3) rfl rfl) ?_
      refine aops_nil ?_
      show Weak _ _
      (refine weak_mk rfl rfl ?_ ?_ rfl <;> repeat' (first | exact trivial | refine ⟨?_, ?_⟩ | exact VLe.refl _ | exact BLe.refl _ | refine VLe.one (CLe.val ?_) | exact VLe.one (CLe.nil _) | exact VLe.one (CLe.emp _))) <;> (first | (rw [q3]; done) | (rw [q3]; rfl) | (simp [q3]; done))
    refine aops_yes rfl rfl rfl rfl q3 (ev_field rfl rfl rfl) ?_
    refine aops_yes rfl rfl rfl rfl q3 (ev_load rfl rfl rfl rfl) ?_
    refine aops_yes rfl rfl rfl rfl q3 (ev_cmp rfl rfl rfl rfl) ?_
    refine aops_yes rfl rfl rfl rfl q3 (st_move rfl rfl) ?_
    refine aops_mid 4 (⟨104, [], [(1, .one (.ptr 0 0)), (17, .one (.val (.bool (((a0.Kind != 1) && (a0.Kind != 2)) && (a0.N != 0))))), (25, .one (.val (.bool ((a0.Kind != 3) && (!(decide (a0.S = [])))))))], [(0, some (.box [.val (.int .i64 a0.Kind), .val (.int .i64 a0.N), .val (Sv a0.S), CV.ls c_Int a0.I, CV.ls c_Str a0.L]))]⟩ : ASt) ?_ ?_
    · rcases Md.bool_or ((a0.Kind != 3)) with q4 | q4
      · skip
        refine aops_yes rfl rfl rfl rfl q4 (ev_field rfl rfl rfl) ?_
        refine aops_yes rfl rfl rfl rfl q4 (ev_load rfl rfl rfl rfl) ?_
        refine aops_yes rfl rfl rfl rfl q4 (st_str_ne rfl rfl rfl) ?_
        refine aops_yes rfl rfl rfl rfl q3 (st_pick_yes rfl (by first | rfl | exact q4) rfl rfl) ?_
        refine aops_nil ?_
        show Weak _ _
        (refine weak_mk rfl rfl ?_ ?_ rfl <;> repeat' (first | exact trivial | refine ⟨?_, ?_⟩ | exact VLe.refl _ | exact BLe.refl _ | refine VLe.one (CLe.val ?_) | exact VLe.one (CLe.nil _) | exact VLe.one (CLe.emp _))) <;> (first | (rw [q4]; done) | (rw [q4]; rfl) | (simp [q4]; done))
      refine aops_no rfl rfl rfl rfl rfl (by first | decide | (rw [q4]; decide)) ?_
      refine aops_no rfl rfl rfl rfl rfl (by first | decide | (rw [q4]; decide)) ?_
      refine aops_no rfl rfl rfl rfl rfl (by first | decide | (rw [q4]; decide)) ?_
      refine aops_yes rfl rfl rfl rfl q3 (st_pick_no rfl (by first | rfl | exact q4) rfl rfl) ?_
      refine aops_nil ?_
      show Weak _ _
      (refine weak_mk rfl rfl ?_ ?_ rfl <;> repeat' (first | exact trivial | refine ⟨?_, ?_⟩ | exact VLe.refl _ | exact BLe.refl _ | refine VLe.one (CLe.val ?_) | exact VLe.one (CLe.nil _) | exact VLe.one (CLe.emp _))) <;> (first | (rw [q4]; done) | (rw [q4]; rfl) | (simp [q4]; done))
    change AOps _ _ _ (⟨104, [], [(1, .one (.ptr 0 0)), (17, .one (.val (.bool (((a0.Kind != 1) && (a0.Kind != 2)) && (a0.N != 0))))), (25, .one (.val (.bool ((a0.Kind != 3) && (!(decide (a0.S = [])))))))], [(0, some (.box [.val (.int .i64 a0.Kind), .val (.int .i64 a0.N), .val (Sv a0.S), CV.ls c_Int a0.I, CV.ls c_Str a0.L]))]⟩ : ASt) _
    refine aops_step1 rfl (st_pick_no rfl (by first | rfl | exact q3) rfl rfl) ?_
    refine aops_nil ?_
    show Weak _ _
    (refine weak_mk rfl rfl ?_ ?_ rfl <;> repeat' (first | exact trivial | refine ⟨?_, ?_⟩ | exact VLe.refl _ | exact BLe.refl _ | refine VLe.one (CLe.val ?_) | exact VLe.one (CLe.nil _) | exact VLe.one (CLe.emp _))) <;> (first | (rw [q3]; done) | (rw [q3]; rfl) | (simp [q3]; done))
  change AOps _ _ _ (⟨104, [], [(1, .one (.ptr 0 0)), (26, .one (.val (.bool ((((a0.Kind != 1) && (a0.Kind != 2)) && (a0.N != 0)) || ((a0.Kind != 3) && (!(decide (a0.S = []))))))))], [(0, some (.box [.val (.int .i64 a0.Kind), .val (.int .i64 a0.N), .val (Sv a0.S), CV.ls c_Int a0.I, CV.ls c_Str a0.L]))]⟩ : ASt) _
  refine aops_step1 rfl (st_move rfl rfl) ?_
  refine aops_mid 10 (⟨104, [], [(1, .one (.ptr 0 0)), (37, .one (.val (.bool (((((a0.Kind != 1) && (a0.Kind != 2)) && (a0.N != 0)) || ((a0.Kind != 3) && (!(decide (a0.S = []))))) || ((a0.Kind != 4) && (decide (((a0.I.length : Nat) : Int) > 0)))))))], [(0, some (.box [.val (.int .i64 a0.Kind), .val (.int .i64 a0.N), .val (Sv a0.S), CV.ls c_Int a0.I, CV.ls c_Str a0.L]))]⟩ : ASt) ?_ ?_
  · rcases Md.bool_or (((((a0.Kind != 1) && (a0.Kind != 2)) && (a0.N != 0)) || ((a0.Kind != 3) && (!(decide (a0.S = [])))))) with q5 | q5
    · skip
      refine aops_no rfl rfl rfl rfl rfl (by first | decide | (rw [q5]; decide)) ?_
      refine aops_no rfl rfl rfl rfl rfl (by first | decide | (rw [q5]; decide)) ?_
      refine aops_no rfl rfl rfl rfl rfl (by first | decide | (rw [q5]; decide)) ?_
      refine aops_no rfl rfl rfl rfl rfl (by first | decide | (rw [q5]; decide)) ?_
      refine aops_und rfl rfl rfl rfl rfl ?_
      refine aops_und rfl rfl rfl rfl rfl ?_
      refine aops_und rfl rfl rfl rfl rfl ?_
      refine aops_und rfl rfl rfl rfl rfl ?_
      refine aops_no rfl rfl rfl rfl rfl (by first | decide | (rw [q5]; decide)) ?_
      refine aops_step1 rfl (st_pick_yes rfl (by first | rfl | exact q5) rfl rfl) ?_
      refine aops_nil ?_
      show Weak _ _
      (refine weak_mk rfl rfl ?_ ?_ rfl <;> repeat' (first | exact trivial | refine ⟨?_, ?_⟩ | exact VLe.refl _ | exact BLe.refl _ | refine VLe.one (CLe.val ?_) | exact VLe.one (CLe.nil _) | exact VLe.one (CLe.emp _))) <;> (first | (rw [q5]; done) | (rw [q5]; rfl) | (simp [q5]; done))
    refine aops_yes rfl rfl rfl rfl q5 (ev_field rfl rfl rfl) ?_
    refine aops_yes rfl rfl rfl rfl q5 (ev_load rfl rfl rfl rfl) ?_
    refine aops_yes rfl rfl rfl rfl q5 (ev_cmp rfl rfl rfl rfl) ?_
    refine aops_yes rfl rfl rfl rfl q5 (st_move rfl rfl) ?_
    refine aops_mid 5 (⟨104, [], [(1, .one (.ptr 0 0)), (27, .one (.val (.bool ((((a0.Kind != 1) && (a0.Kind != 2)) && (a0.N != 0)) || ((a0.Kind != 3) && (!(decide (a0.S = [])))))))), (36, .one (.val (.bool ((a0.Kind != 4) && (decide (((a0.I.length : Nat) : Int) > 0))))))], [(0, some (.box [.val (.int .i64 a0.Kind), .val (.int .i64 a0.N), .val (Sv a0.S), CV.ls c_Int a0.I, CV.ls c_Str a0.L]))]⟩ : ASt) ?_ ?_
    · rcases Md.bool_or ((a0.Kind != 4)) with q6 | q6
      · skip
        refine aops_yes rfl rfl rfl rfl q6 (ev_field rfl rfl rfl) ?_
        refine aops_yes rfl rfl rfl rfl q6 (ev_load rfl rfl rfl rfl) ?_
        refine aops_yes rfl rfl rfl rfl q6 (ev_len_slc rfl rfl) ?_
        refine aops_yes rfl rfl rfl rfl q6 (ev_cmp rfl rfl rfl rfl) ?_
        refine aops_yes rfl rfl rfl rfl q5 (st_pick_yes rfl (by first | rfl | exact q6) rfl rfl) ?_
        refine aops_nil ?_
        show Weak _ _
        (refine weak_mk rfl rfl ?_ ?_ rfl <;> repeat' (first | exact trivial | refine ⟨?_, ?_⟩ | exact VLe.refl _ | exact BLe.refl _ | refine VLe.one (CLe.val ?_) | exact VLe.one (CLe.nil _) | exact VLe.one (CLe.emp _))) <;> (first | (rw [q6]; done) | (rw [q6]; rfl) | (simp [q6]; done))
      refine aops_no rfl rfl rfl rfl rfl (by first | decide | (rw [q6]; decide)) ?_
      refine aops_no rfl rfl rfl rfl rfl (by first | decide | (rw [q6]; decide)) ?_
      refine aops_no rfl rfl rfl rfl rfl (by first | decide | (rw [q6]; decide)) ?_
      refine aops_no rfl rfl rfl rfl rfl (by first | decide | (rw [q6]; decide)) ?_
      refine aops_yes rfl rfl rfl rfl q5 (st_pick_no rfl (by first | rfl | exact q6) rfl rfl) ?_
      refine aops_nil ?_
      show Weak _ _
      (refine weak_mk rfl rfl ?_ ?_ rfl <;> repeat' (first | exact trivial | refine ⟨?_, ?_⟩ | exact VLe.refl _ | exact BLe.refl _ | refine VLe.one (CLe.val ?_) | exact VLe.one (CLe.nil _) | exact VLe.one (CLe.emp _))) <;> (first | (rw [q6]; done) | (rw [q6]; rfl) | (simp [q6]; done))
    change AOps _ _ _ (⟨104, [], [(1, .one (.ptr 0 0)), (27, .one (.val (.bool ((((a0.Kind != 1) && (a0.Kind != 2)) && (a0.N != 0)) || ((a0.Kind != 3) && (!(decide (a0.S = [])))))))), (36, .one (.val (.bool ((a0.Kind != 4) && (decide (((a0.I.length : Nat) : Int) > 0))))))], [(0, some (.box [.val (.int .i64 a0.Kind), .val (.int .i64 a0.N), .val (Sv a0.S), CV.ls c_Int a0.I, CV.ls c_Str a0.L]))]⟩ : ASt) _
    refine aops_step1 rfl (st_pick_no rfl (by first | rfl | exact q5) rfl rfl) ?_
    refine aops_nil ?_
    show Weak _ _
    (refine weak_mk rfl rfl ?_ ?_ rfl <;> repeat' (first | exact trivial | refine ⟨?_, ?_⟩ | exact VLe.refl _ | exact BLe.refl _ | refine VLe.one (CLe.val ?_) | exact VLe.one (CLe.nil _) | exact VLe.one (CLe.emp _))) <;> (first | (rw [q5]; done) | (rw [q5]; rfl) | (simp [q5]; done))
  change AOps _ _ _ (⟨104, [], [(1, .one (.ptr 0 0)), (37, .one (.val (.bool (((((a0.Kind != 1) && (a0.Kind != 2)) && (a0.N != 0)) || ((a0.Kind != 3) && (!(decide (a0.S = []))))) || ((a0.Kind != 4) && (decide (((a0.I.length : Nat) : Int) > 0)))))))], [(0, some (.box [.val (.int .i64 a0.Kind), .val (.int .i64 a0.N), .val (Sv a0.S), CV.ls c_Int a0.I, CV.ls c_Str a0.L]))]⟩ : ASt) _
  refine aops_step1 rfl (st_move rfl rfl) ?_
  refine aops_mid 10 (⟨104, [], [(1, .one (.ptr 0 0)), (48, .one (.val (.bool ((((((a0.Kind != 1) && (a0.Kind != 2)) && (a0.N != 0)) || ((a0.Kind != 3) && (!(decide (a0.S = []))))) || ((a0.Kind != 4) && (decide (((a0.I.length : Nat) : Int) > 0)))) || ((a0.Kind != 5) && (decide (((a0.L.length : Nat) : Int) > 0)))))))], [(0, some (.box [.val (.int .i64 a0.Kind), .val (.int .i64 a0.N), .val (Sv a0.S), CV.ls c_Int a0.I, CV.ls c_Str a0.L]))]⟩ : ASt) ?_ ?_
  · rcases Md.bool_or ((((((a0.Kind != 1) && (a0.Kind != 2)) && (a0.N != 0)) || ((a0.Kind != 3) && (!(decide (a0.S = []))))) || ((a0.Kind != 4) && (decide (((a0.I.length : Nat) : Int) > 0))))) with q7 | q7
    · skip
      refine aops_no rfl rfl rfl rfl rfl (by first | decide | (rw [q7]; decide)) ?_
      refine aops_no rfl rfl rfl rfl rfl (by first | decide | (rw [q7]; decide)) ?_
      refine aops_no rfl rfl rfl rfl rfl (by first | decide | (rw [q7]; decide)) ?_
      refine aops_no rfl rfl rfl rfl rfl (by first | decide | (rw [q7]; decide)) ?_
      refine aops_und rfl rfl rfl rfl rfl ?_
      refine aops_und rfl rfl rfl rfl rfl ?_
      refine aops_und rfl rfl rfl rfl rfl ?_
      refine aops_und rfl rfl rfl rfl rfl ?_
      refine aops_no rfl rfl rfl rfl rfl (by first | decide | (rw [q7]; decide)) ?_
      refine aops_step1 rfl (st_pick_yes rfl (by first | rfl | exact q7) rfl rfl) ?_
      refine aops_nil ?_
      show Weak _ _
      (refine weak_mk rfl rfl ?_ ?_ rfl <;> repeat' (first | exact trivial | refine ⟨?_, ?_⟩ | exact VLe.refl _ | exact BLe.refl _ | refine VLe.one (CLe.val ?_) | exact VLe.one (CLe.nil _) | exact VLe.one (CLe.emp _))) <;> (first | (rw [q7]; done) | (rw [q7]; rfl) | (simp [q7]; done))
    refine aops_yes rfl rfl rfl rfl q7 (ev_field rfl rfl rfl) ?_
    refine aops_yes rfl rfl rfl rfl q7 (ev_load rfl rfl rfl rfl) ?_
    refine aops_yes rfl rfl rfl rfl q7 (ev_cmp rfl rfl rfl rfl) ?_
    refine aops_yes rfl rfl rfl rfl q7 (st_move rfl rfl) ?_
    refine aops_mid 5 (⟨104, [], [(1, .one (.ptr 0 0)), (38, .one (.val (.bool (((((a0.Kind != 1) && (a0.Kind != 2)) && (a0.N != 0)) || ((a0.Kind != 3) && (!(decide (a0.S = []))))) || ((a0.Kind != 4) && (decide (((a0.I.length : Nat) : Int) > 0))))))), (47, .one (.val (.bool ((a0.Kind != 5) && (decide (((a0.L.length : Nat) : Int) > 0))))))], [(0, some (.box [.val (.int .i64 a0.Kind), .val (.int .i64 a0.N), .val (Sv a0.S), CV.ls c_Int a0.I, CV.ls c_Str a0.L]))]⟩ : ASt) ?_ ?_
    · rcases Md.bool_or ((a0.Kind != 5)) with q8 | q8
      · skip
        refine aops_yes rfl rfl rfl rfl q8 (ev_field rfl rfl rfl) ?_
        refine aops_yes rfl rfl rfl rfl q8 (ev_load rfl rfl rfl rfl) ?_
        refine aops_yes rfl rfl rfl rfl q8 (ev_len_slc rfl rfl) ?_
        refine aops_yes rfl rfl rfl rfl q8 (ev_cmp rfl rfl rfl rfl) ?_
        refine aops_yes rfl rfl rfl rfl q7 (st_pick_yes rfl (by first | rfl | exact q8) rfl rfl) ?_
        refine aops_nil ?_
        show Weak _ _
        (refine weak_mk rfl rfl ?_ ?_ rfl <;> repeat' (first | exact trivial | refine ⟨?_, ?_⟩ | exact VLe.refl _ | exact BLe.refl _ | refine VLe.one (CLe.val ?_) | exact VLe.one (CLe.nil _) | exact VLe.one (CLe.emp _))) <;> (first | (rw [q8]; done) | (rw [q8]; rfl) | (simp [q8]; done))
      refine aops_no rfl rfl rfl rfl rfl (by first | decide | (rw [q8]; decide)) ?_
      refine aops_no rfl rfl rfl rfl rfl (by first | decide | (rw [q8]; decide)) ?_
      refine aops_no rfl rfl rfl rfl rfl (by first | decide | (rw [q8]; decide)) ?_
      refine aops_no rfl rfl rfl rfl rfl (by first | decide | (rw [q8]; decide)) ?_
      refine aops_yes rfl rfl rfl rfl q7 (st_pick_no rfl (by first | rfl | exact q8) rfl rfl) ?_
      refine aops_nil ?_
      show Weak _ _
      (refine weak_mk rfl rfl ?_ ?_ rfl <;> repeat' (first | exact trivial | refine ⟨?_, ?_⟩ | exact VLe.refl _ | exact BLe.refl _ | refine VLe.one (CLe.val ?_) | exact VLe.one (CLe.nil _) | exact VLe.one (CLe.emp _))) <;> (first | (rw [q8]; done) | (rw [q8]; rfl) | (simp [q8]; done))
    change AOps _ _ _ (⟨104, [], [(1, .one (.ptr 0 0)), (38, .one (.val (.bool (((((a0.Kind != 1) && (a0.Kind != 2)) && (a0.N != 0)) || ((a0.Kind != 3) && (!(decide (a0.S = []))))) || ((a0.Kind != 4) && (decide (((a0.I.length : Nat) : Int) > 0))))))), (47, .one (.val (.bool ((a0.Kind != 5) && (decide (((a0.L.length : Nat) : Int) > 0))))))], [(0, some (.box [.val (.int .i64 a0.Kind), .val (.int .i64 a0.N), .val (Sv a0.S), CV.ls c_Int a0.I, CV.ls c_Str a0.L]))]⟩ : ASt) _
    refine aops_step1 rfl (st_pick_no rfl (by first | rfl | exact q7) rfl rfl) ?_
    refine aops_nil ?_
    show Weak _ _
    (refine weak_mk rfl rfl ?_ ?_ rfl <;> repeat' (first | exact trivial | refine ⟨?_, ?_⟩ | exact VLe.refl _ | exact BLe.refl _ | refine VLe.one (CLe.val ?_) | exact VLe.one (CLe.nil _) | exact VLe.one (CLe.emp _))) <;> (first | (rw [q7]; done) | (rw [q7]; rfl) | (simp [q7]; done))
  change AOps _ _ _ (⟨104, [], [(1, .one (.ptr 0 0)), (48, .one (.val (.bool ((((((a0.Kind != 1) && (a0.Kind != 2)) && (a0.N != 0)) || ((a0.Kind != 3) && (!(decide (a0.S = []))))) || ((a0.Kind != 4) && (decide (((a0.I.length : Nat) : Int) > 0)))) || ((a0.Kind != 5) && (decide (((a0.L.length : Nat) : Int) > 0)))))))], [(0, some (.box [.val (.int .i64 a0.Kind), .val (.int .i64 a0.N), .val (Sv a0.S), CV.ls c_Int a0.I, CV.ls c_Str a0.L]))]⟩ : ASt) _
  refine aops_nil ?_
  refine aw_cond rfl (fun c9 => ?_) (fun c9 => ?_)
  · replace h := Md.cond_t h c9
    refine aw_seq ?_
    refine aw_region ?_
    refine aops_step1 rfl (st_assign rfl rfl) ?_
    refine aops_nil ?_
    cases Option.some.inj h
    refine aw_ret ⟨rfl, ret_v (.inl ⟨_, rfl, rfl, fun _ e => nomatch e⟩) rfl rfl rfl ?_⟩
    (repeat' (first | exact TLe.refl _ | exact VLe.refl _ | exact CLe.refl _ | exact All2.nil | refine TLe.tup ?_ | refine TLe.v ?_ | refine All2.cons ?_ ?_ | refine VLe.agg ?_ | refine VLe.one ?_ | exact CLe.nil _ | exact CLe.emp _ | refine CLe.val ?_ | refine CLe.slc ?_ ?_))
  replace h := Md.cond_f h c9
  refine aw_skip ?_
  refine aw_seq ?_
  refine aw_seq ?_
  refine aw_region ?_
  refine aops_step1 rfl (ev_field rfl rfl rfl) ?_
  refine aops_step1 rfl (ev_load rfl rfl rfl rfl) ?_
  refine aops_step1 rfl (ev_cmp rfl rfl rfl rfl) ?_
  refine aops_step1 rfl (st_move rfl rfl) ?_
  refine aops_mid 4 (⟨104, [], [(1, .one (.ptr 0 0)), (56, .one (.val (.bool ((decide (a0.Kind < 0)) || (decide (a0.Kind > 5))))))], [(0, some (.box [.val (.int .i64 a0.Kind), .val (.int .i64 a0.N), .val (Sv a0.S), CV.ls c_Int a0.I, CV.ls c_Str a0.L]))]⟩ : ASt) ?_ ?_
  · rcases Md.bool_or ((decide (a0.Kind < 0))) with q10 | q10
    · skip
      refine aops_no rfl rfl rfl rfl rfl (by first | decide | (rw [q10]; decide)) ?_
      refine aops_no rfl rfl rfl rfl rfl (by first | decide | (rw [q10]; decide)) ?_
      refine aops_no rfl rfl rfl rfl rfl (by first | decide | (rw [q10]; decide)) ?_
      refine aops_step1 rfl (st_pick_yes rfl (by first | rfl | exact q10) rfl rfl) ?_
      refine aops_nil ?_
      show Weak _ _
      (refine weak_mk rfl rfl ?_ ?_ rfl <;> repeat' (first | exact trivial | refine ⟨?_, ?_⟩ | exact VLe.refl _ | exact BLe.refl _ | refine VLe.one (CLe.val ?_) | exact VLe.one (CLe.nil _) | exact VLe.one (CLe.emp _))) <;> (first | (rw [q10]; done) | (rw [q10]; rfl) | (simp [q10]; done))
    refine aops_yes rfl rfl rfl rfl q10 (ev_field rfl rfl rfl) ?_
    refine aops_yes rfl rfl rfl rfl q10 (ev_load rfl rfl rfl rfl) ?_
    refine aops_yes rfl rfl rfl rfl q10 (ev_cmp rfl rfl rfl rfl) ?_
    refine aops_step1 rfl (st_pick_no rfl (by first | rfl | exact q10) rfl rfl) ?_
    refine aops_nil ?_
    show Weak _ _
    (refine weak_mk rfl rfl ?_ ?_ rfl <;> repeat' (first | exact trivial | refine ⟨?_, ?_⟩ | exact VLe.refl _ | exact BLe.refl _ | refine VLe.one (CLe.val ?_) | exact VLe.one (CLe.nil _) | exact VLe.one (CLe.emp _))) <;> (first | (rw [q10]; done) | (rw [q10]; rfl) | (simp [q10]; done))
  change AOps _ _ _ (⟨104, [], [(1, .one (.ptr 0 0)), (56, .one (.val (.bool ((decide (a0.Kind < 0)) || (decide (a0.Kind > 5))))))], [(0, some (.box [.val (.int .i64 a0.Kind), .val (.int .i64 a0.N), .val (Sv a0.S), CV.ls c_Int a0.I, CV.ls c_Str a0.L]))]⟩ : ASt) _
  refine aops_step1 rfl (st_move rfl rfl) ?_
  refine aops_mid 14 (⟨104, [], [(1, .one (.ptr 0 0)), (71, .one (.val (.bool (((decide (a0.Kind < 0)) || (decide (a0.Kind > 5))) || (((a0.Kind == 2) && (a0.N != 0)) && (a0.N != 1))))))], [(0, some (.box [.val (.int .i64 a0.Kind), .val (.int .i64 a0.N), .val (Sv a0.S), CV.ls c_Int a0.I, CV.ls c_Str a0.L]))]⟩ : ASt) ?_ ?_
  · rcases Md.bool_or (((decide (a0.Kind < 0)) || (decide (a0.Kind > 5)))) with q11 | q11
    · skip
      refine aops_no rfl rfl rfl rfl rfl (by first | decide | (rw [q11]; decide)) ?_
      refine aops_no rfl rfl rfl rfl rfl (by first | decide | (rw [q11]; decide)) ?_
      refine aops_no rfl rfl rfl rfl rfl (by first | decide | (rw [q11]; decide)) ?_
      refine aops_no rfl rfl rfl rfl rfl (by first | decide | (rw [q11]; decide)) ?_
      refine aops_und rfl rfl rfl rfl rfl ?_
      refine aops_und rfl rfl rfl rfl rfl ?_
      refine aops_und rfl rfl rfl rfl rfl ?_
      refine aops_no rfl rfl rfl rfl rfl (by first | decide | (rw [q11]; decide)) ?_
      refine aops_no rfl rfl rfl rfl rfl (by first | decide | (rw [q11]; decide)) ?_
      refine aops_und rfl rfl rfl rfl rfl ?_
      refine aops_und rfl rfl rfl rfl rfl ?_
      refine aops_und rfl rfl rfl rfl rfl ?_
      refine aops_no rfl rfl rfl rfl rfl (by first | decide | (rw [q11]; decide)) ?_
      refine aops_step1 rfl (st_pick_yes rfl (by first | rfl | exact q11) rfl rfl) ?_
      refine aops_nil ?_
      show Weak _ _
      (refine weak_mk rfl rfl ?_ ?_ rfl <;> repeat' (first | exact trivial | refine ⟨?_, ?_⟩ | exact VLe.refl _ | exact BLe.refl _ | refine VLe.one (CLe.val ?_) | exact VLe.one (CLe.nil _) | exact VLe.one (CLe.emp _))) <;> (first | (rw [q11]; done) | (rw [q11]; rfl) | (simp [q11]; done))
    refine aops_yes rfl rfl rfl rfl q11 (ev_field rfl rfl rfl) ?_
    refine aops_yes rfl rfl rfl rfl q11 (ev_load rfl rfl rfl rfl) ?_
    refine aops_yes rfl rfl rfl rfl q11 (ev_cmp rfl rfl rfl rfl) ?_
    refine aops_yes rfl rfl rfl rfl q11 (st_move rfl rfl) ?_
    refine aops_mid 4 (⟨104, [], [(1, .one (.ptr 0 0)), (57, .one (.val (.bool ((decide (a0.Kind < 0)) || (decide (a0.Kind > 5)))))), (65, .one (.val (.bool ((a0.Kind == 2) && (a0.N != 0)))))], [(0, some (.box [.val (.int .i64 a0.Kind), .val (.int .i64 a0.N), .val (Sv a0.S), CV.ls c_Int a0.I, CV.ls c_Str a0.L]))]⟩ : ASt) ?_ ?_
    · rcases Md.bool_or ((a0.Kind == 2)) with q12 | q12
      · skip
        refine aops_yes rfl rfl rfl rfl q12 (ev_field rfl rfl rfl) ?_
        refine aops_yes rfl rfl rfl rfl q12 (ev_load rfl rfl rfl rfl) ?_
        refine aops_yes rfl rfl rfl rfl q12 (ev_cmp rfl rfl rfl rfl) ?_
        refine aops_yes rfl rfl rfl rfl q11 (st_pick_yes rfl (by first | rfl | exact q12) rfl rfl) ?_
        refine aops_nil ?_
        show Weak _ _
        (refine weak_mk rfl rfl ?_ ?_ rfl <;> repeat' (first | exact trivial | refine ⟨?_, ?_⟩ | exact VLe.refl _ | exact BLe.refl _ | refine VLe.one (CLe.val ?_) | exact VLe.one (CLe.nil _) | exact VLe.one (CLe.emp _))) <;> (first | (rw [q12]; done) | (rw [q12]; rfl) | (simp [q12]; done))
      refine aops_no rfl rfl rfl rfl rfl (by first | decide | (rw [q12]; decide)) ?_
      refine aops_no rfl rfl rfl rfl rfl (by first | decide | (rw [q12]; decide)) ?_
      refine aops_no rfl rfl rfl rfl rfl (by first | decide | (rw [q12]; decide)) ?_
      refine aops_yes rfl rfl rfl rfl q11 (st_pick_no rfl (by first | rfl | exact q12) rfl rfl) ?_
      refine aops_nil ?_
      show Weak _ _
      (refine weak_mk rfl rfl ?_ ?_ rfl <;> repeat' (first | exact trivial | refine ⟨?_, ?_⟩ | exact VLe.refl _ | exact BLe.refl _ | refine VLe.one (CLe.val ?_) | exact VLe.one (CLe.nil _) | exact VLe.one (CLe.emp _))) <;> (first | (rw [q12]; done) | (rw [q12]; rfl) | (simp [q12]; done))
    change AOps _ _ _ (⟨104, [], [(1, .one (.ptr 0 0)), (57, .one (.val (.bool ((decide (a0.Kind < 0)) || (decide (a0.Kind > 5)))))), (65, .one (.val (.bool ((a0.Kind == 2) && (a0.N != 0)))))], [(0, some (.box [.val (.int .i64 a0.Kind), .val (.int .i64 a0.N), .val (Sv a0.S), CV.ls c_Int a0.I, CV.ls c_Str a0.L]))]⟩ : ASt) _
    refine aops_yes rfl rfl rfl rfl q11 (st_move rfl rfl) ?_
    refine aops_mid 4 (⟨104, [], [(1, .one (.ptr 0 0)), (57, .one (.val (.bool ((decide (a0.Kind < 0)) || (decide (a0.Kind > 5)))))), (70, .one (.val (.bool (((a0.Kind == 2) && (a0.N != 0)) && (a0.N != 1)))))], [(0, some (.box [.val (.int .i64 a0.Kind), .val (.int .i64 a0.N), .val (Sv a0.S), CV.ls c_Int a0.I, CV.ls c_Str a0.L]))]⟩ : ASt) ?_ ?_
    · rcases Md.bool_or (((a0.Kind == 2) && (a0.N != 0))) with q13 | q13
      · skip
        refine aops_yes rfl rfl rfl rfl q13 (ev_field rfl rfl rfl) ?_
        refine aops_yes rfl rfl rfl rfl q13 (ev_load rfl rfl rfl rfl) ?_
        refine aops_yes rfl rfl rfl rfl q13 (ev_cmp rfl rfl rfl rfl) ?_
        refine aops_yes rfl rfl rfl rfl q11 (st_pick_yes rfl (by first | rfl | exact q13) rfl rfl) ?_
        refine aops_nil ?_
        show Weak _ _
        (refine weak_mk rfl rfl ?_ ?_ rfl <;> repeat' (first | exact trivial | refine ⟨?_, ?_⟩ | exact VLe.refl _ | exact BLe.refl _ | refine VLe.one (CLe.val ?_) | exact VLe.one (CLe.nil _) | exact VLe.one (CLe.emp _))) <;> (first | (rw [q13]; done) | (rw [q13]; rfl) | (simp [q13]; done))
      refine aops_no rfl rfl rfl rfl rfl (by first | decide | (rw [q13]; decide)) ?_
      refine aops_no rfl rfl rfl rfl rfl (by first | decide | (rw [q13]; decide)) ?_
      refine aops_no rfl rfl rfl rfl rfl (by first | decide | (rw [q13]; decide)) ?_
      refine aops_yes rfl rfl rfl rfl q11 (st_pick_no rfl (by first | rfl | exact q13) rfl rfl) ?_
      refine aops_nil ?_
      show Weak _ _
      (refine weak_mk rfl rfl ?_ ?_ rfl <;> repeat' (first | exact trivial | refine ⟨?_, ?_⟩ | exact VLe.refl _ | exact BLe.refl _ | refine VLe.one (CLe.val ?_) | exact VLe.one (CLe.nil _) | exact VLe.one (CLe.emp _))) <;> (first | (rw [q13]; done) | (rw [q13]; rfl) | (simp [q13]; done))
    change AOps _ _ _ (⟨104, [], [(1, .one (.ptr 0 0)), (57, .one (.val (.bool ((decide (a0.Kind < 0)) || (decide (a0.Kind > 5)))))), (70, .one (.val (.bool (((a0.Kind == 2) && (a0.N != 0)) && (a0.N != 1)))))], [(0, some (.box [.val (.int .i64 a0.Kind), .val (.int .i64 a0.N), .val (Sv a0.S), CV.ls c_Int a0.I, CV.ls c_Str a0.L]))]⟩ : ASt) _
    refine aops_step1 rfl (st_pick_no rfl (by first | rfl | exact q11) rfl rfl) ?_
    refine aops_nil ?_
    show Weak _ _
    (refine weak_mk rfl rfl ?_ ?_ rfl <;> repeat' (first | exact trivial | refine ⟨?_, ?_⟩ | exact VLe.refl _ | exact BLe.refl _ | refine VLe.one (CLe.val ?_) | exact VLe.one (CLe.nil _) | exact VLe.one (CLe.emp _))) <;> (first | (rw [q11]; done) | (rw [q11]; rfl) | (simp [q11]; done))
  change AOps _ _ _ (⟨104, [], [(1, .one (.ptr 0 0)), (71, .one (.val (.bool (((decide (a0.Kind < 0)) || (decide (a0.Kind > 5))) || (((a0.Kind == 2) && (a0.N != 0)) && (a0.N != 1))))))], [(0, some (.box [.val (.int .i64 a0.Kind), .val (.int .i64 a0.N), .val (Sv a0.S), CV.ls c_Int a0.I, CV.ls c_Str a0.L]))]⟩ : ASt) _
  refine aops_step1 rfl (st_move rfl rfl) ?_
  refine aops_mid 5 (⟨104, [], [(1, .one (.ptr 0 0)), (77, .one (.val (.bool ((((decide (a0.Kind < 0)) || (decide (a0.Kind > 5))) || (((a0.Kind == 2) && (a0.N != 0)) && (a0.N != 1))) || (decide (((a0.S.length : Nat) : Int) > 64))))))], [(0, some (.box [.val (.int .i64 a0.Kind), .val (.int .i64 a0.N), .val (Sv a0.S), CV.ls c_Int a0.I, CV.ls c_Str a0.L]))]⟩ : ASt) ?_ ?_
  · rcases Md.bool_or ((((decide (a0.Kind < 0)) || (decide (a0.Kind > 5))) || (((a0.Kind == 2) && (a0.N != 0)) && (a0.N != 1)))) with q14 | q14
    · skip
      refine aops_no rfl rfl rfl rfl rfl (by first | decide | (rw [q14]; decide)) ?_
      refine aops_no rfl rfl rfl rfl rfl (by first | decide | (rw [q14]; decide)) ?_
      refine aops_no rfl rfl rfl rfl rfl (by first | decide | (rw [q14]; decide)) ?_
      refine aops_no rfl rfl rfl rfl rfl (by first | decide | (rw [q14]; decide)) ?_
      refine aops_step1 rfl (st_pick_yes rfl (by first | rfl | exact q14) rfl rfl) ?_
      refine aops_nil ?_
      show Weak _ _
      (refine weak_mk rfl rfl ?_ ?_ rfl <;> repeat' (first | exact trivial | refine ⟨?_, ?_⟩ | exact VLe.refl _ | exact BLe.refl _ | refine VLe.one (CLe.val ?_) | exact VLe.one (CLe.nil _) | exact VLe.one (CLe.emp _))) <;> (first | (rw [q14]; done) | (rw [q14]; rfl) | (simp [q14]; done))
    refine aops_yes rfl rfl rfl rfl q14 (ev_field rfl rfl rfl) ?_
    refine aops_yes rfl rfl rfl rfl q14 (ev_load rfl rfl rfl rfl) ?_
    refine aops_yes rfl rfl rfl rfl q14 (st_len_str rfl rfl) ?_
    refine aops_yes rfl rfl rfl rfl q14 (ev_cmp rfl rfl rfl rfl) ?_
    refine aops_step1 rfl (st_pick_no rfl (by first | rfl | exact q14) rfl rfl) ?_
    refine aops_nil ?_
    show Weak _ _
    (refine weak_mk rfl rfl ?_ ?_ rfl <;> repeat' (first | exact trivial | refine ⟨?_, ?_⟩ | exact VLe.refl _ | exact BLe.refl _ | refine VLe.one (CLe.val ?_) | exact VLe.one (CLe.nil _) | exact VLe.one (CLe.emp _))) <;> (first | (rw [q14]; done) | (rw [q14]; rfl) | (simp [q14]; done))
  change AOps _ _ _ (⟨104, [], [(1, .one (.ptr 0 0)), (77, .one (.val (.bool ((((decide (a0.Kind < 0)) || (decide (a0.Kind > 5))) || (((a0.Kind == 2) && (a0.N != 0)) && (a0.N != 1))) || (decide (((a0.S.length : Nat) : Int) > 64))))))], [(0, some (.box [.val (.int .i64 a0.Kind), .val (.int .i64 a0.N), .val (Sv a0.S), CV.ls c_Int a0.I, CV.ls c_Str a0.L]))]⟩ : ASt) _
  refine aops_step1 rfl (st_move rfl rfl) ?_
  refine aops_mid 5 (⟨104, [], [(1, .one (.ptr 0 0)), (83, .one (.val (.bool (((((decide (a0.Kind < 0)) || (decide (a0.Kind > 5))) || (((a0.Kind == 2) && (a0.N != 0)) && (a0.N != 1))) || (decide (((a0.S.length : Nat) : Int) > 64))) || (decide (((a0.I.length : Nat) : Int) > 16))))))], [(0, some (.box [.val (.int .i64 a0.Kind), .val (.int .i64 a0.N), .val (Sv a0.S), CV.ls c_Int a0.I, CV.ls c_Str a0.L]))]⟩ : ASt) ?_ ?_
  · rcases Md.bool_or (((((decide (a0.Kind < 0)) || (decide (a0.Kind > 5))) || (((a0.Kind == 2) && (a0.N != 0)) && (a0.N != 1))) || (decide (((a0.S.length : Nat) : Int) > 64)))) with q15 | q15
    · skip
      refine aops_no rfl rfl rfl rfl rfl (by first | decide | (rw [q15]; decide)) ?_
      refine aops_no rfl rfl rfl rfl rfl (by first | decide | (rw [q15]; decide)) ?_
      refine aops_no rfl rfl rfl rfl rfl (by first | decide | (rw [q15]; decide)) ?_
      refine aops_no rfl rfl rfl rfl rfl (by first | decide | (rw [q15]; decide)) ?_
      refine aops_step1 rfl (st_pick_yes rfl (by first | rfl | exact q15) rfl rfl) ?_
      refine aops_nil ?_
      show Weak _ _
      (refine weak_mk rfl rfl ?_ ?_ rfl <;> repeat' (first | exact trivial | refine ⟨?_, ?_⟩ | exact VLe.refl _ | exact BLe.refl _ | refine VLe.one (CLe.val ?_) | exact VLe.one (CLe.nil _) | exact VLe.one (CLe.emp _))) <;> (first | (rw [q15]; done) | (rw [q15]; rfl) | (simp [q15]; done))
    refine aops_yes rfl rfl rfl rfl q15 (ev_field rfl rfl rfl) ?_
    refine aops_yes rfl rfl rfl rfl q15 (ev_load rfl rfl rfl rfl) ?_
    refine aops_yes rfl rfl rfl rfl q15 (ev_len_slc rfl rfl) ?_
    refine aops_yes rfl rfl rfl rfl q15 (ev_cmp rfl rfl rfl rfl) ?_
    refine aops_step1 rfl (st_pick_no rfl (by first | rfl | exact q15) rfl rfl) ?_
    refine aops_nil ?_
    show Weak _ _
    (refine weak_mk rfl rfl ?_ ?_ rfl <;> repeat' (first | exact trivial | refine ⟨?_, ?_⟩ | exact VLe.refl _ | exact BLe.refl _ | refine VLe.one (CLe.val ?_) | exact VLe.one (CLe.nil _) | exact VLe.one (CLe.emp _))) <;> (first | (rw [q15]; done) | (rw [q15]; rfl) | (simp [q15]; done))
  change AOps _ _ _ (⟨104, [], [(1, .one (.ptr 0 0)), (83, .one (.val (.bool (((((decide (a0.Kind < 0)) || (decide (a0.Kind > 5))) || (((a0.Kind == 2) && (a0.N != 0)) && (a0.N != 1))) || (decide (((a0.S.length : Nat) : Int) > 64))) || (decide (((a0.I.length : Nat) : Int) > 16))))))], [(0, some (.box [.val (.int .i64 a0.Kind), .val (.int .i64 a0.N), .val (Sv a0.S), CV.ls c_Int a0.I, CV.ls c_Str a0.L]))]⟩ : ASt) _
  refine aops_step1 rfl (st_move rfl rfl) ?_
  refine aops_mid 5 (⟨104, [], [(1, .one (.ptr 0 0)), (89, .one (.val (.bool ((((((decide (a0.Kind < 0)) || (decide (a0.Kind > 5))) || (((a0.Kind == 2) && (a0.N != 0)) && (a0.N != 1))) || (decide (((a0.S.length : Nat) : Int) > 64))) || (decide (((a0.I.length : Nat) : Int) > 16))) || (decide (((a0.L.length : Nat) : Int) > 16))))))], [(0, some (.box [.val (.int .i64 a0.Kind), .val (.int .i64 a0.N), .val (Sv a0.S), CV.ls c_Int a0.I, CV.ls c_Str a0.L]))]⟩ : ASt) ?_ ?_
  · rcases Md.bool_or ((((((decide (a0.Kind < 0)) || (decide (a0.Kind > 5))) || (((a0.Kind == 2) && (a0.N != 0)) && (a0.N != 1))) || (decide (((a0.S.length : Nat) : Int) > 64))) || (decide (((a0.I.length : Nat) : Int) > 16)))) with q16 | q16
    · skip
      refine aops_no rfl rfl rfl rfl rfl (by first | decide | (rw [q16]; decide)) ?_
      refine aops_no rfl rfl rfl rfl rfl (by first | decide | (rw [q16]; decide)) ?_
      refine aops_no rfl rfl rfl rfl rfl (by first | decide | (rw [q16]; decide)) ?_
      refine aops_no rfl rfl rfl rfl rfl (by first | decide | (rw [q16]; decide)) ?_
      refine aops_step1 rfl (st_pick_yes rfl (by first | rfl | exact q16) rfl rfl) ?_
      refine aops_nil ?_
      show Weak _ _
      (refine weak_mk rfl rfl ?_ ?_ rfl <;> repeat' (first | exact trivial | refine ⟨?_, ?_⟩ | exact VLe.refl _ | exact BLe.refl _ | refine VLe.one (CLe.val ?_) | exact VLe.one (CLe.nil _) | exact VLe.one (CLe.emp _))) <;> (first | (rw [q16]; done) | (rw [q16]; rfl) | (simp [q16]; done))
    refine aops_yes rfl rfl rfl rfl q16 (ev_field rfl rfl rfl) ?_
    refine aops_yes rfl rfl rfl rfl q16 (ev_load rfl rfl rfl rfl) ?_
    refine aops_yes rfl rfl rfl rfl q16 (ev_len_slc rfl rfl) ?_
    refine aops_yes rfl rfl rfl rfl q16 (ev_cmp rfl rfl rfl rfl) ?_
    refine aops_step1 rfl (st_pick_no rfl (by first | rfl | exact q16) rfl rfl) ?_
    refine aops_nil ?_
    show Weak _ _
    (refine weak_mk rfl rfl ?_ ?_ rfl <;> repeat' (first | exact trivial | refine ⟨?_, ?_⟩ | exact VLe.refl _ | exact BLe.refl _ | refine VLe.one (CLe.val ?_) | exact VLe.one (CLe.nil _) | exact VLe.one (CLe.emp _))) <;> (first | (rw [q16]; done) | (rw [q16]; rfl) | (simp [q16]; done))
  change AOps _ _ _ (⟨104, [], [(1, .one (.ptr 0 0)), (89, .one (.val (.bool ((((((decide (a0.Kind < 0)) || (decide (a0.Kind > 5))) || (((a0.Kind == 2) && (a0.N != 0)) && (a0.N != 1))) || (decide (((a0.S.length : Nat) : Int) > 64))) || (decide (((a0.I.length : Nat) : Int) > 16))) || (decide (((a0.L.length : Nat) : Int) > 16))))))], [(0, some (.box [.val (.int .i64 a0.Kind), .val (.int .i64 a0.N), .val (Sv a0.S), CV.ls c_Int a0.I, CV.ls c_Str a0.L]))]⟩ : ASt) _
  refine aops_nil ?_
  refine aw_cond rfl (fun c17 => ?_) (fun c17 => ?_)
  · replace h := Md.cond_t h c17
    refine aw_seq ?_
    refine aw_region ?_
    refine aops_step1 rfl (st_assign rfl rfl) ?_
    refine aops_nil ?_
    cases Option.some.inj h
    refine aw_ret ⟨rfl, ret_v (.inl ⟨_, rfl, rfl, fun _ e => nomatch e⟩) rfl rfl rfl ?_⟩
    (repeat' (first | exact TLe.refl _ | exact VLe.refl _ | exact CLe.refl _ | exact All2.nil | refine TLe.tup ?_ | refine TLe.v ?_ | refine All2.cons ?_ ?_ | refine VLe.agg ?_ | refine VLe.one ?_ | exact CLe.nil _ | exact CLe.emp _ | refine CLe.val ?_ | refine CLe.slc ?_ ?_))
  replace h := Md.cond_f h c17
  refine aw_skip ?_
  refine aw_seq ?_
  refine aw_seq ?_
  refine aw_region ?_
  refine aops_step1 rfl (st_assign rfl rfl) ?_
  refine aops_nil ?_
  refine aw_block ?_
  obtain ⟨o18, ho18, h⟩ := Md.bind_s h
  refine aw_loop_x (ι := {p : Nat × Nat // actorgridref1_ValidValue_loop1 k a0 p.1 p.2 = some o18}) (fun p => (⟨104, [], [(1, .one (.ptr 0 0)), (3, .one (.val (.int .i64 ((p.1.2 : Nat) : Int))))], [(0, some (.box [.val (.int .i64 a0.Kind), .val (.int .i64 a0.N), .val (Sv a0.S), CV.ls c_Int a0.I, CV.ls c_Str a0.L]))]⟩ : ASt)) (fun p => p.1.1) ⟨(k, 0), ho18⟩ (by (refine weak_mk rfl rfl ?_ ?_ rfl <;> repeat' (first | exact trivial | refine ⟨?_, ?_⟩ | exact VLe.refl _ | exact BLe.refl _ | refine VLe.one (CLe.val ?_) | exact VLe.one (CLe.nil _) | exact VLe.one (CLe.emp _)))) 0 (ε := Unit) (fun x => (⟨104, [], [], []⟩ : ASt)) (fun x => Sum.inl x = o18) (fun _ _ w h => aw_weak w h) ?_ ?_
  · intro x18_0 hI18
    subst hI18
    replace h := Md.onS_l h
    change AW _ _ (⟨104, [], [], []⟩ : ASt) _
    refine aw_seq ?_
    refine aw_region ?_
    refine aops_step1 rfl (st_assign rfl rfl) ?_
    refine aops_nil ?_
    cases Option.some.inj h
    refine aw_ret ⟨rfl, ret_v (.inl ⟨_, rfl, rfl, fun _ e => nomatch e⟩) rfl rfl rfl ?_⟩
    (repeat' (first | exact TLe.refl _ | exact VLe.refl _ | exact CLe.refl _ | exact All2.nil | refine TLe.tup ?_ | refine TLe.v ?_ | refine All2.cons ?_ ?_ | refine VLe.agg ?_ | refine VLe.one ?_ | exact CLe.nil _ | exact CLe.emp _ | refine CLe.val ?_ | refine CLe.slc ?_ ?_))
  intro p18
  obtain ⟨⟨n18, s18_0⟩, l18⟩ := p18
  change AW _ _ (⟨104, [], [(1, .one (.ptr 0 0)), (3, .one (.val (.int .i64 ((s18_0 : Nat) : Int))))], [(0, some (.box [.val (.int .i64 a0.Kind), .val (.int .i64 a0.N), .val (Sv a0.S), CV.ls c_Int a0.I, CV.ls c_Str a0.L]))]⟩ : ASt) _
  replace l18 : actorgridref1_ValidValue_loop1 k a0 n18 s18_0 = some o18 := l18
  rcases n18 with _ | n18
  · exact absurd (show none = some o18 from l18) nofun
  rw [actorgridref1_ValidValue_loop1] at l18
  refine aw_seq ?_
  refine aw_seq ?_
  refine aw_region ?_
  refine aops_step1 rfl (st_move rfl rfl) ?_
  refine aops_step1 rfl (ev_field rfl rfl rfl) ?_
  refine aops_step1 rfl (ev_load rfl rfl rfl rfl) ?_
  refine aops_step1 rfl (ev_len_slc rfl rfl) ?_
  refine aops_step1 rfl (ev_cmp rfl rfl rfl rfl) ?_
  refine aops_nil ?_
  refine aw_cond rfl (fun c19 => ?_) (fun c19 => ?_)
  · replace l18 := Md.cond_t l18 c19
    refine aw_skip ?_
    refine aw_seq ?_
    refine aw_block ?_
    refine aw_seq ?_
    refine aw_region ?_
    refine aops_step1 rfl (ev_field rfl rfl rfl) ?_
    refine aops_step1 rfl (ev_load rfl rfl rfl rfl) ?_
    refine aops_step1 rfl (st_move rfl rfl) ?_
    obtain ⟨g20, l18⟩ := Md.ifp_s l18
    refine aops_step1 rfl (ev_index_in rfl rfl rfl g20 rfl rfl) ?_
    refine aops_step1 rfl (ev_load_in rfl rfl rfl) ?_
    refine aops_step1 rfl (st_len_str rfl rfl) ?_
    refine aops_step1 rfl (ev_cmp rfl rfl rfl rfl) ?_
    refine aops_nil ?_
    refine aw_cond rfl (fun c21 => ?_) (fun c21 => ?_)
    · replace l18 := Md.cond_t l18 c21
      refine aw_seq ?_
      refine aw_region ?_
      refine aops_step1 rfl (st_assign rfl rfl) ?_
      refine aops_nil ?_
      cases Option.some.inj l18
      replace h := Md.onS_r h
      cases Option.some.inj h
      refine aw_ret ⟨rfl, ret_v (.inl ⟨_, rfl, rfl, fun _ e => nomatch e⟩) rfl rfl rfl ?_⟩
      (repeat' (first | exact TLe.refl _ | exact VLe.refl _ | exact CLe.refl _ | exact All2.nil | refine TLe.tup ?_ | refine TLe.v ?_ | refine All2.cons ?_ ?_ | refine VLe.agg ?_ | refine VLe.one ?_ | exact CLe.nil _ | exact CLe.emp _ | refine CLe.val ?_ | refine CLe.slc ?_ ?_))
    replace l18 := Md.cond_f l18 c21
    refine aw_skip ?_
    refine aw_region ?_
    refine aops_step1 rfl (st_move rfl rfl) ?_
    obtain ⟨g22, l18⟩ := Md.ifp_s l18
    refine aops_step1 rfl (ev_add rfl rfl rfl (Md.nat_add g22)) ?_
    refine aops_step1 rfl (st_assign rfl rfl) ?_
    refine aops_nil ?_
    exact ⟨⟨(n18, (s18_0 + 1)), l18⟩, Nat.lt_succ_self _, (by (refine weak_mk rfl rfl ?_ ?_ rfl <;> repeat' (first | exact trivial | refine ⟨?_, ?_⟩ | exact VLe.refl _ | exact BLe.refl _ | refine VLe.one (CLe.val ?_) | exact VLe.one (CLe.nil _) | exact VLe.one (CLe.emp _))))⟩
  replace l18 := Md.cond_f l18 c19
  refine aw_exit ?_
  show ∃ _x : Unit, _ = _ ∧ Weak _ _
  exact ⟨(), Option.some.inj l18, (by (refine weak_mk rfl rfl ?_ ?_ rfl <;> repeat' (first | exact trivial | refine ⟨?_, ?_⟩ | exact VLe.refl _ | exact BLe.refl _ | refine VLe.one (CLe.val ?_) | exact VLe.one (CLe.nil _) | exact VLe.one (CLe.emp _))))⟩
set_option maxHeartbeats 2000000 in
theorem actorgridref1_SameInts_fn (k : Nat) (a0 : List Int) (a1 : List Int) (r : Bool) (h : actorgridref1_SameInts k a0 a1 = some r) : FnC Try.prog 20 [.one (CV.ls c_Int a0), .one (CV.ls c_Int a1)] [] (Det (.one (.val (.bool r))) []) := by
  unfold actorgridref1_SameInts at h
  refine fn_intro' 26 Try.func20 rfl rfl rfl ?_
  refine aw_seq ?_
  refine aw_region ?_
  refine aops_step1 rfl (st_assign rfl rfl) ?_
  refine aops_nil ?_
  refine aw_seq ?_
  refine aw_seq ?_
  refine aw_region ?_
  refine aops_step1 rfl (st_move rfl rfl) ?_
  refine aops_step1 rfl (ev_len_slc rfl rfl) ?_
  refine aops_step1 rfl (st_move rfl rfl) ?_
  refine aops_step1 rfl (ev_len_slc rfl rfl) ?_
  refine aops_step1 rfl (ev_cmp rfl rfl rfl rfl) ?_
  refine aops_nil ?_
  refine aw_cond rfl (fun c1 => ?_) (fun c1 => ?_)
  · replace h := Md.cond_t h c1
    refine aw_seq ?_
    refine aw_region ?_
    refine aops_step1 rfl (st_assign rfl rfl) ?_
    refine aops_nil ?_
    cases Option.some.inj h
    refine aw_ret ⟨rfl, ret_v (.inl ⟨_, rfl, rfl, fun _ e => nomatch e⟩) rfl rfl rfl ?_⟩
    (repeat' (first | exact TLe.refl _ | exact VLe.refl _ | exact CLe.refl _ | exact All2.nil | refine TLe.tup ?_ | refine TLe.v ?_ | refine All2.cons ?_ ?_ | refine VLe.agg ?_ | refine VLe.one ?_ | exact CLe.nil _ | exact CLe.emp _ | refine CLe.val ?_ | refine CLe.slc ?_ ?_))
  replace h := Md.cond_f h c1
  refine aw_skip ?_
  refine aw_seq ?_
  refine aw_seq ?_
  refine aw_region ?_
  refine aops_step1 rfl (st_assign rfl rfl) ?_
  refine aops_nil ?_
  refine aw_block ?_
  obtain ⟨o2, ho2, h⟩ := Md.bind_s h
  refine aw_loop_x (ι := {p : Nat × Nat // actorgridref1_SameInts_loop1 k a0 a1 p.1 p.2 = some o2}) (fun p => (⟨26, [], [(0, .one (CV.ls c_Int a0)), (1, .one (CV.ls c_Int a1)), (5, .one (.val (.int .i64 ((p.1.2 : Nat) : Int))))], []⟩ : ASt)) (fun p => p.1.1) ⟨(k, 0), ho2⟩ (by (refine weak_mk rfl rfl ?_ ?_ rfl <;> repeat' (first | exact trivial | refine ⟨?_, ?_⟩ | exact VLe.refl _ | exact BLe.refl _ | refine VLe.one (CLe.val ?_) | exact VLe.one (CLe.nil _) | exact VLe.one (CLe.emp _)))) 0 (ε := Unit) (fun x => (⟨26, [], [], []⟩ : ASt)) (fun x => Sum.inl x = o2) (fun _ _ w h => aw_weak w h) ?_ ?_
  · intro x2_0 hI2
    subst hI2
    replace h := Md.onS_l h
    change AW _ _ (⟨26, [], [], []⟩ : ASt) _
    refine aw_seq ?_
    refine aw_region ?_
    refine aops_step1 rfl (st_assign rfl rfl) ?_
    refine aops_nil ?_
    cases Option.some.inj h
    refine aw_ret ⟨rfl, ret_v (.inl ⟨_, rfl, rfl, fun _ e => nomatch e⟩) rfl rfl rfl ?_⟩
    (repeat' (first | exact TLe.refl _ | exact VLe.refl _ | exact CLe.refl _ | exact All2.nil | refine TLe.tup ?_ | refine TLe.v ?_ | refine All2.cons ?_ ?_ | refine VLe.agg ?_ | refine VLe.one ?_ | exact CLe.nil _ | exact CLe.emp _ | refine CLe.val ?_ | refine CLe.slc ?_ ?_))
  intro p2
  obtain ⟨⟨n2, s2_0⟩, l2⟩ := p2
  change AW _ _ (⟨26, [], [(0, .one (CV.ls c_Int a0)), (1, .one (CV.ls c_Int a1)), (5, .one (.val (.int .i64 ((s2_0 : Nat) : Int))))], []⟩ : ASt) _
  replace l2 : actorgridref1_SameInts_loop1 k a0 a1 n2 s2_0 = some o2 := l2
  rcases n2 with _ | n2
  · exact absurd (show none = some o2 from l2) nofun
  rw [actorgridref1_SameInts_loop1] at l2
  refine aw_seq ?_
  refine aw_seq ?_
  refine aw_region ?_
  refine aops_step1 rfl (st_move rfl rfl) ?_
  refine aops_step1 rfl (st_move rfl rfl) ?_
  refine aops_step1 rfl (ev_len_slc rfl rfl) ?_
  refine aops_step1 rfl (ev_cmp rfl rfl rfl rfl) ?_
  refine aops_nil ?_
  refine aw_cond rfl (fun c3 => ?_) (fun c3 => ?_)
  · replace l2 := Md.cond_t l2 c3
    refine aw_skip ?_
    refine aw_seq ?_
    refine aw_block ?_
    obtain ⟨g4, l2⟩ := Md.ifp_s l2
    obtain ⟨g5, l2⟩ := Md.ifp_s l2
    refine aw_seq ?_
    apply aw_draw 8 ((⟨[], .one (CV.ls c_Int a0)⟩ : Add) :: ⟨[], .one (.val (.int .i64 ((s2_0 : Nat) : Int)))⟩ :: ⟨[], .one (.cptr _)⟩ :: ⟨[], .one (.val (.int .i64 (a0.getD s2_0 default)))⟩ :: ⟨[], .one (CV.ls c_Int a1)⟩ :: ⟨[], .one (.val (.int .i64 ((s2_0 : Nat) : Int)))⟩ :: ⟨[], .one (.cptr _)⟩ :: ⟨[], .one (.val (.int .i64 (a1.getD s2_0 default)))⟩ :: []) (by decide) rfl ?hk6x ?hf6x ?ho6x ?hr6x
    case ho6x =>
     refine ⟨⟨[], (by decide +kernel), fun S hle hfr => ?_⟩, ?_⟩
     · exact .inl ⟨.inl ⟨rfl, rfl⟩, st_move (hle.ev rfl (by nofun)) (hle.d rfl)⟩
     refine ⟨⟨[], (by decide +kernel), fun S hle hfr => ?_⟩, ?_⟩
     · exact .inl ⟨.inl ⟨rfl, rfl⟩, st_move (hle.ev rfl (by nofun)) (hle.d rfl)⟩
     refine ⟨⟨0 :: 1 :: [], (by decide +kernel), fun S hle hfr => ?_⟩, ?_⟩
     · exact .inl ⟨.inl ⟨rfl, rfl⟩, ev_index_in (hle.ev rfl (by nofun)) (hle.ev rfl (by nofun)) rfl g4 rfl (hle.d rfl)⟩
     refine ⟨⟨2 :: 0 :: 1 :: [], (by decide +kernel), fun S hle hfr => ?_⟩, ?_⟩
     · exact .inl ⟨.inl ⟨rfl, rfl⟩, ev_load_in (hle.ev rfl (by nofun)) rfl (hle.d rfl)⟩
     refine ⟨⟨[], (by decide +kernel), fun S hle hfr => ?_⟩, ?_⟩
     · exact .inl ⟨.inl ⟨rfl, rfl⟩, st_move (hle.ev rfl (by nofun)) (hle.d rfl)⟩
     refine ⟨⟨[], (by decide +kernel), fun S hle hfr => ?_⟩, ?_⟩
     · exact .inl ⟨.inl ⟨rfl, rfl⟩, st_move (hle.ev rfl (by nofun)) (hle.d rfl)⟩
     refine ⟨⟨4 :: 5 :: [], (by decide +kernel), fun S hle hfr => ?_⟩, ?_⟩
     · exact .inl ⟨.inl ⟨rfl, rfl⟩, ev_index_in (hle.ev rfl (by nofun)) (hle.ev rfl (by nofun)) rfl g5 rfl (hle.d rfl)⟩
     refine ⟨⟨6 :: 4 :: 5 :: [], (by decide +kernel), fun S hle hfr => ?_⟩, ?_⟩
     · exact .inl ⟨.inl ⟨rfl, rfl⟩, ev_load_in (hle.ev rfl (by nofun)) rfl (hle.d rfl)⟩
     exact trivial
    case hk6x => rfl
    case hf6x => rfl
    refine aops_step1 rfl (ev_cmp rfl rfl rfl rfl) ?_
    refine aops_nil ?_
    refine aw_cond rfl (fun c6 => ?_) (fun c6 => ?_)
    · replace l2 := Md.cond_t l2 c6
      refine aw_seq ?_
      refine aw_region ?_
      refine aops_step1 rfl (st_assign rfl rfl) ?_
      refine aops_nil ?_
      cases Option.some.inj l2
      replace h := Md.onS_r h
      cases Option.some.inj h
      refine aw_ret ⟨rfl, ret_v (.inl ⟨_, rfl, rfl, fun _ e => nomatch e⟩) rfl rfl rfl ?_⟩
      (repeat' (first | exact TLe.refl _ | exact VLe.refl _ | exact CLe.refl _ | exact All2.nil | refine TLe.tup ?_ | refine TLe.v ?_ | refine All2.cons ?_ ?_ | refine VLe.agg ?_ | refine VLe.one ?_ | exact CLe.nil _ | exact CLe.emp _ | refine CLe.val ?_ | refine CLe.slc ?_ ?_))
    replace l2 := Md.cond_f l2 c6
    refine aw_skip ?_
    refine aw_region ?_
    refine aops_step1 rfl (st_move rfl rfl) ?_
    obtain ⟨g7, l2⟩ := Md.ifp_s l2
    refine aops_step1 rfl (ev_add rfl rfl rfl (Md.nat_add g7)) ?_
    refine aops_step1 rfl (st_assign rfl rfl) ?_
    refine aops_nil ?_
    exact ⟨⟨(n2, (s2_0 + 1)), l2⟩, Nat.lt_succ_self _, (by (refine weak_mk rfl rfl ?_ ?_ rfl <;> repeat' (first | exact trivial | refine ⟨?_, ?_⟩ | exact VLe.refl _ | exact BLe.refl _ | refine VLe.one (CLe.val ?_) | exact VLe.one (CLe.nil _) | exact VLe.one (CLe.emp _))))⟩
  replace l2 := Md.cond_f l2 c3
  refine aw_exit ?_
  show ∃ _x : Unit, _ = _ ∧ Weak _ _
  exact ⟨(), Option.some.inj l2, (by (refine weak_mk rfl rfl ?_ ?_ rfl <;> repeat' (first | exact trivial | refine ⟨?_, ?_⟩ | exact VLe.refl _ | exact BLe.refl _ | refine VLe.one (CLe.val ?_) | exact VLe.one (CLe.nil _) | exact VLe.one (CLe.emp _))))⟩
set_option maxHeartbeats 2000000 in
theorem actorgridref1_SameStrings_fn (k : Nat) (a0 : List (List UInt8)) (a1 : List (List UInt8)) (r : Bool) (h : actorgridref1_SameStrings k a0 a1 = some r) : FnC Try.prog 21 [.one (CV.ls c_Str a0), .one (CV.ls c_Str a1)] [] (Det (.one (.val (.bool r))) []) := by
  unfold actorgridref1_SameStrings at h
  refine fn_intro' 26 Try.func21 rfl rfl rfl ?_
  refine aw_seq ?_
  refine aw_region ?_
  refine aops_step1 rfl (st_assign rfl rfl) ?_
  refine aops_nil ?_
  refine aw_seq ?_
  refine aw_seq ?_
  refine aw_region ?_
  refine aops_step1 rfl (st_move rfl rfl) ?_
  refine aops_step1 rfl (ev_len_slc rfl rfl) ?_
  refine aops_step1 rfl (st_move rfl rfl) ?_
  refine aops_step1 rfl (ev_len_slc rfl rfl) ?_
  refine aops_step1 rfl (ev_cmp rfl rfl rfl rfl) ?_
  refine aops_nil ?_
  refine aw_cond rfl (fun c1 => ?_) (fun c1 => ?_)
  · replace h := Md.cond_t h c1
    refine aw_seq ?_
    refine aw_region ?_
    refine aops_step1 rfl (st_assign rfl rfl) ?_
    refine aops_nil ?_
    cases Option.some.inj h
    refine aw_ret ⟨rfl, ret_v (.inl ⟨_, rfl, rfl, fun _ e => nomatch e⟩) rfl rfl rfl ?_⟩
    (repeat' (first | exact TLe.refl _ | exact VLe.refl _ | exact CLe.refl _ | exact All2.nil | refine TLe.tup ?_ | refine TLe.v ?_ | refine All2.cons ?_ ?_ | refine VLe.agg ?_ | refine VLe.one ?_ | exact CLe.nil _ | exact CLe.emp _ | refine CLe.val ?_ | refine CLe.slc ?_ ?_))
  replace h := Md.cond_f h c1
  refine aw_skip ?_
  refine aw_seq ?_
  refine aw_seq ?_
  refine aw_region ?_
  refine aops_step1 rfl (st_assign rfl rfl) ?_
  refine aops_nil ?_
  refine aw_block ?_
  obtain ⟨o2, ho2, h⟩ := Md.bind_s h
  refine aw_loop_x (ι := {p : Nat × Nat // actorgridref1_SameStrings_loop1 k a0 a1 p.1 p.2 = some o2}) (fun p => (⟨26, [], [(0, .one (CV.ls c_Str a0)), (1, .one (CV.ls c_Str a1)), (5, .one (.val (.int .i64 ((p.1.2 : Nat) : Int))))], []⟩ : ASt)) (fun p => p.1.1) ⟨(k, 0), ho2⟩ (by (refine weak_mk rfl rfl ?_ ?_ rfl <;> repeat' (first | exact trivial | refine ⟨?_, ?_⟩ | exact VLe.refl _ | exact BLe.refl _ | refine VLe.one (CLe.val ?_) | exact VLe.one (CLe.nil _) | exact VLe.one (CLe.emp _)))) 0 (ε := Unit) (fun x => (⟨26, [], [], []⟩ : ASt)) (fun x => Sum.inl x = o2) (fun _ _ w h => aw_weak w h) ?_ ?_
  · intro x2_0 hI2
    subst hI2
    replace h := Md.onS_l h
    change AW _ _ (⟨26, [], [], []⟩ : ASt) _
    refine aw_seq ?_
    refine aw_region ?_
    refine aops_step1 rfl (st_assign rfl rfl) ?_
    refine aops_nil ?_
    cases Option.some.inj h
    refine aw_ret ⟨rfl, ret_v (.inl ⟨_, rfl, rfl, fun _ e => nomatch e⟩) rfl rfl rfl ?_⟩
    (repeat' (first | exact TLe.refl _ | exact VLe.refl _ | exact CLe.refl _ | exact All2.nil | refine TLe.tup ?_ | refine TLe.v ?_ | refine All2.cons ?_ ?_ | refine VLe.agg ?_ | refine VLe.one ?_ | exact CLe.nil _ | exact CLe.emp _ | refine CLe.val ?_ | refine CLe.slc ?_ ?_))
  intro p2
  obtain ⟨⟨n2, s2_0⟩, l2⟩ := p2
  change AW _ _ (⟨26, [], [(0, .one (CV.ls c_Str a0)), (1, .one (CV.ls c_Str a1)), (5, .one (.val (.int .i64 ((s2_0 : Nat) : Int))))], []⟩ : ASt) _
  replace l2 : actorgridref1_SameStrings_loop1 k a0 a1 n2 s2_0 = some o2 := l2
  rcases n2 with _ | n2
  · exact absurd (show none = some o2 from l2) nofun
  rw [actorgridref1_SameStrings_loop1] at l2
  refine aw_seq ?_
  refine aw_seq ?_
  refine aw_region ?_
  refine aops_step1 rfl (st_move rfl rfl) ?_
  refine aops_step1 rfl (st_move rfl rfl) ?_
  refine aops_step1 rfl (ev_len_slc rfl rfl) ?_
  refine aops_step1 rfl (ev_cmp rfl rfl rfl rfl) ?_
  refine aops_nil ?_
  refine aw_cond rfl (fun c3 => ?_) (fun c3 => ?_)
  · replace l2 := Md.cond_t l2 c3
    refine aw_skip ?_
    refine aw_seq ?_
    refine aw_block ?_
    obtain ⟨g4, l2⟩ := Md.ifp_s l2
    obtain ⟨g5, l2⟩ := Md.ifp_s l2
    refine aw_seq ?_
    apply aw_draw 8 ((⟨[], .one (CV.ls c_Str a0)⟩ : Add) :: ⟨[], .one (.val (.int .i64 ((s2_0 : Nat) : Int)))⟩ :: ⟨[], .one (.cptr _)⟩ :: ⟨[], .one (.val (Sv (a0.getD s2_0 default)))⟩ :: ⟨[], .one (CV.ls c_Str a1)⟩ :: ⟨[], .one (.val (.int .i64 ((s2_0 : Nat) : Int)))⟩ :: ⟨[], .one (.cptr _)⟩ :: ⟨[], .one (.val (Sv (a1.getD s2_0 default)))⟩ :: []) (by decide) rfl ?hk6x ?hf6x ?ho6x ?hr6x
    case ho6x =>
     refine ⟨⟨[], (by decide +kernel), fun S hle hfr => ?_⟩, ?_⟩
     · exact .inl ⟨.inl ⟨rfl, rfl⟩, st_move (hle.ev rfl (by nofun)) (hle.d rfl)⟩
     refine ⟨⟨[], (by decide +kernel), fun S hle hfr => ?_⟩, ?_⟩
     · exact .inl ⟨.inl ⟨rfl, rfl⟩, st_move (hle.ev rfl (by nofun)) (hle.d rfl)⟩
     refine ⟨⟨0 :: 1 :: [], (by decide +kernel), fun S hle hfr => ?_⟩, ?_⟩
     · exact .inl ⟨.inl ⟨rfl, rfl⟩, ev_index_in (hle.ev rfl (by nofun)) (hle.ev rfl (by nofun)) rfl g4 rfl (hle.d rfl)⟩
     refine ⟨⟨2 :: 0 :: 1 :: [], (by decide +kernel), fun S hle hfr => ?_⟩, ?_⟩
     · exact .inl ⟨.inl ⟨rfl, rfl⟩, ev_load_in (hle.ev rfl (by nofun)) rfl (hle.d rfl)⟩
     refine ⟨⟨[], (by decide +kernel), fun S hle hfr => ?_⟩, ?_⟩
     · exact .inl ⟨.inl ⟨rfl, rfl⟩, st_move (hle.ev rfl (by nofun)) (hle.d rfl)⟩
     refine ⟨⟨[], (by decide +kernel), fun S hle hfr => ?_⟩, ?_⟩
     · exact .inl ⟨.inl ⟨rfl, rfl⟩, st_move (hle.ev rfl (by nofun)) (hle.d rfl)⟩
     refine ⟨⟨4 :: 5 :: [], (by decide +kernel), fun S hle hfr => ?_⟩, ?_⟩
     · exact .inl ⟨.inl ⟨rfl, rfl⟩, ev_index_in (hle.ev rfl (by nofun)) (hle.ev rfl (by nofun)) rfl g5 rfl (hle.d rfl)⟩
     refine ⟨⟨6 :: 4 :: 5 :: [], (by decide +kernel), fun S hle hfr => ?_⟩, ?_⟩
     · exact .inl ⟨.inl ⟨rfl, rfl⟩, ev_load_in (hle.ev rfl (by nofun)) rfl (hle.d rfl)⟩
     exact trivial
    case hk6x => rfl
    case hf6x => rfl
    refine aops_step1 rfl (st_str_ne rfl rfl rfl) ?_
    refine aops_nil ?_
    refine aw_cond rfl (fun c6 => ?_) (fun c6 => ?_)
    · replace l2 := Md.cond_t l2 c6
      refine aw_seq ?_
      refine aw_region ?_
      refine aops_step1 rfl (st_assign rfl rfl) ?_
      refine aops_nil ?_
      cases Option.some.inj l2
      replace h := Md.onS_r h
      cases Option.some.inj h
      refine aw_ret ⟨rfl, ret_v (.inl ⟨_, rfl, rfl, fun _ e => nomatch e⟩) rfl rfl rfl ?_⟩
      (repeat' (first | exact TLe.refl _ | exact VLe.refl _ | exact CLe.refl _ | exact All2.nil | refine TLe.tup ?_ | refine TLe.v ?_ | refine All2.cons ?_ ?_ | refine VLe.agg ?_ | refine VLe.one ?_ | exact CLe.nil _ | exact CLe.emp _ | refine CLe.val ?_ | refine CLe.slc ?_ ?_))
    replace l2 := Md.cond_f l2 c6
    refine aw_skip ?_
    refine aw_region ?_
    refine aops_step1 rfl (st_move rfl rfl) ?_
    obtain ⟨g7, l2⟩ := Md.ifp_s l2
    refine aops_step1 rfl (ev_add rfl rfl rfl (Md.nat_add g7)) ?_
    refine aops_step1 rfl (st_assign rfl rfl) ?_
    refine aops_nil ?_
    exact ⟨⟨(n2, (s2_0 + 1)), l2⟩, Nat.lt_succ_self _, (by (refine weak_mk rfl rfl ?_ ?_ rfl <;> repeat' (first | exact trivial | refine ⟨?_, ?_⟩ | exact VLe.refl _ | exact BLe.refl _ | refine VLe.one (CLe.val ?_) | exact VLe.one (CLe.nil _) | exact VLe.one (CLe.emp _))))⟩
  replace l2 := Md.cond_f l2 c3
  refine aw_exit ?_
  show ∃ _x : Unit, _ = _ ∧ Weak _ _
  exact ⟨(), Option.some.inj l2, (by (refine weak_mk rfl rfl ?_ ?_ rfl <;> repeat' (first | exact trivial | refine ⟨?_, ?_⟩ | exact VLe.refl _ | exact BLe.refl _ | refine VLe.one (CLe.val ?_) | exact VLe.one (CLe.nil _) | exact VLe.one (CLe.emp _))))⟩
set_option maxHeartbeats 2000000 in
theorem actorgridref1_SameValue_fn (k : Nat) (a0 : Value) (a1 : Value) (r : Bool) (h : actorgridref1_SameValue k a0 a1 = some r) : FnC Try.prog 49 [.agg [.val (.int .i64 a0.Kind), .val (.int .i64 a0.N), .val (Sv a0.S), CV.ls c_Int a0.I, CV.ls c_Str a0.L], .agg [.val (.int .i64 a1.Kind), .val (.int .i64 a1.N), .val (Sv a1.S), CV.ls c_Int a1.I, CV.ls c_Str a1.L]] [] (Det (.one (.val (.bool r))) []) := by
  unfold actorgridref1_SameValue at h
  refine fn_intro' 38 Try.func49 rfl rfl rfl ?_
  refine aw_seq ?_
  refine aw_region ?_
  refine aops_step1 rfl (st_box 0 rfl rfl rfl rfl) ?_
  refine aops_step1 rfl (st_box 1 rfl rfl rfl rfl) ?_
  refine aops_step1 rfl (st_assign rfl rfl) ?_
  refine aops_nil ?_
  refine aw_seq ?_
  refine aw_region ?_
  refine aops_step1 rfl (ev_field rfl rfl rfl) ?_
  refine aops_step1 rfl (ev_load rfl rfl rfl rfl) ?_
  refine aops_step1 rfl (ev_field rfl rfl rfl) ?_
  refine aops_step1 rfl (ev_load rfl rfl rfl rfl) ?_
  refine aops_step1 rfl (ev_cmp rfl rfl rfl rfl) ?_
  refine aops_step1 rfl (st_move rfl rfl) ?_
  refine aops_mid 6 (⟨38, [], [(2, .one (.ptr 0 0)), (3, .one (.ptr 1 0)), (4, .one (.val (.bool false))), (16, .one (.val (.bool ((a0.Kind == a1.Kind) && (a0.N == a1.N)))))], [(0, some (.box [.val (.int .i64 a0.Kind), .val (.int .i64 a0.N), .val (Sv a0.S), CV.ls c_Int a0.I, CV.ls c_Str a0.L])), (1, some (.box [.val (.int .i64 a1.Kind), .val (.int .i64 a1.N), .val (Sv a1.S), CV.ls c_Int a1.I, CV.ls c_Str a1.L]))]⟩ : ASt) ?_ ?_
  · rcases Md.bool_or ((a0.Kind == a1.Kind)) with q1 | q1
    · skip
      refine aops_yes rfl rfl rfl rfl q1 (ev_field rfl rfl rfl) ?_
      refine aops_yes rfl rfl rfl rfl q1 (ev_load rfl rfl rfl rfl) ?_
      refine aops_yes rfl rfl rfl rfl q1 (ev_field rfl rfl rfl) ?_
      refine aops_yes rfl rfl rfl rfl q1 (ev_load rfl rfl rfl rfl) ?_
      refine aops_yes rfl rfl rfl rfl q1 (ev_cmp rfl rfl rfl rfl) ?_
      refine aops_step1 rfl (st_pick_yes rfl (by first | rfl | exact q1) rfl rfl) ?_
      refine aops_nil ?_
      show Weak _ _
      (refine weak_mk rfl rfl ?_ ?_ rfl <;> repeat' (first | exact trivial | refine ⟨?_, ?_⟩ | exact VLe.refl _ | exact BLe.refl _ | refine VLe.one (CLe.val ?_) | exact VLe.one (CLe.nil _) | exact VLe.one (CLe.emp _))) <;> (first | (rw [q1]; done) | (rw [q1]; rfl) | (simp [q1]; done))
    refine aops_no rfl rfl rfl rfl rfl (by first | decide | (rw [q1]; decide)) ?_
    refine aops_no rfl rfl rfl rfl rfl (by first | decide | (rw [q1]; decide)) ?_
    refine aops_no rfl rfl rfl rfl rfl (by first | decide | (rw [q1]; decide)) ?_
    refine aops_no rfl rfl rfl rfl rfl (by first | decide | (rw [q1]; decide)) ?_
    refine aops_no rfl rfl rfl rfl rfl (by first | decide | (rw [q1]; decide)) ?_
    refine aops_step1 rfl (st_pick_no rfl (by first | rfl | exact q1) rfl rfl) ?_
    refine aops_nil ?_
    show Weak _ _
    (refine weak_mk rfl rfl ?_ ?_ rfl <;> repeat' (first | exact trivial | refine ⟨?_, ?_⟩ | exact VLe.refl _ | exact BLe.refl _ | refine VLe.one (CLe.val ?_) | exact VLe.one (CLe.nil _) | exact VLe.one (CLe.emp _))) <;> (first | (rw [q1]; done) | (rw [q1]; rfl) | (simp [q1]; done))
  change AOps _ _ _ (⟨38, [], [(2, .one (.ptr 0 0)), (3, .one (.ptr 1 0)), (4, .one (.val (.bool false))), (16, .one (.val (.bool ((a0.Kind == a1.Kind) && (a0.N == a1.N)))))], [(0, some (.box [.val (.int .i64 a0.Kind), .val (.int .i64 a0.N), .val (Sv a0.S), CV.ls c_Int a0.I, CV.ls c_Str a0.L])), (1, some (.box [.val (.int .i64 a1.Kind), .val (.int .i64 a1.N), .val (Sv a1.S), CV.ls c_Int a1.I, CV.ls c_Str a1.L]))]⟩ : ASt) _
  refine aops_step1 rfl (st_move rfl rfl) ?_
  refine aops_mid 6 (⟨38, [], [(2, .one (.ptr 0 0)), (3, .one (.ptr 1 0)), (4, .one (.val (.bool false))), (23, .one (.val (.bool (((a0.Kind == a1.Kind) && (a0.N == a1.N)) && (decide (a0.S = a1.S))))))], [(0, some (.box [.val (.int .i64 a0.Kind), .val (.int .i64 a0.N), .val (Sv a0.S), CV.ls c_Int a0.I, CV.ls c_Str a0.L])), (1, some (.box [.val (.int .i64 a1.Kind), .val (.int .i64 a1.N), .val (Sv a1.S), CV.ls c_Int a1.I, CV.ls c_Str a1.L]))]⟩ : ASt) ?_ ?_
  · rcases Md.bool_or (((a0.Kind == a1.Kind) && (a0.N == a1.N))) with q2 | q2
    · skip
      refine aops_yes rfl rfl rfl rfl q2 (ev_field rfl rfl rfl) ?_
      refine aops_yes rfl rfl rfl rfl q2 (ev_load rfl rfl rfl rfl) ?_
      refine aops_yes rfl rfl rfl rfl q2 (ev_field rfl rfl rfl) ?_
      refine aops_yes rfl rfl rfl rfl q2 (ev_load rfl rfl rfl rfl) ?_
      refine aops_yes rfl rfl rfl rfl q2 (st_str_eq rfl rfl rfl) ?_
      refine aops_step1 rfl (st_pick_yes rfl (by first | rfl | exact q2) rfl rfl) ?_
      refine aops_nil ?_
      show Weak _ _
      (refine weak_mk rfl rfl ?_ ?_ rfl <;> repeat' (first | exact trivial | refine ⟨?_, ?_⟩ | exact VLe.refl _ | exact BLe.refl _ | refine VLe.one (CLe.val ?_) | exact VLe.one (CLe.nil _) | exact VLe.one (CLe.emp _))) <;> (first | (rw [q2]; done) | (rw [q2]; rfl) | (simp [q2]; done))
    refine aops_no rfl rfl rfl rfl rfl (by first | decide | (rw [q2]; decide)) ?_
    refine aops_no rfl rfl rfl rfl rfl (by first | decide | (rw [q2]; decide)) ?_
    refine aops_no rfl rfl rfl rfl rfl (by first | decide | (rw [q2]; decide)) ?_
    refine aops_no rfl rfl rfl rfl rfl (by first | decide | (rw [q2]; decide)) ?_
    refine aops_no rfl rfl rfl rfl rfl (by first | decide | (rw [q2]; decide)) ?_
    refine aops_step1 rfl (st_pick_no rfl (by first | rfl | exact q2) rfl rfl) ?_
    refine aops_nil ?_
    show Weak _ _
    (refine weak_mk rfl rfl ?_ ?_ rfl <;> repeat' (first | exact trivial | refine ⟨?_, ?_⟩ | exact VLe.refl _ | exact BLe.refl _ | refine VLe.one (CLe.val ?_) | exact VLe.one (CLe.nil _) | exact VLe.one (CLe.emp _))) <;> (first | (rw [q2]; done) | (rw [q2]; rfl) | (simp [q2]; done))
  change AOps _ _ _ (⟨38, [], [(2, .one (.ptr 0 0)), (3, .one (.ptr 1 0)), (4, .one (.val (.bool false))), (23, .one (.val (.bool (((a0.Kind == a1.Kind) && (a0.N == a1.N)) && (decide (a0.S = a1.S))))))], [(0, some (.box [.val (.int .i64 a0.Kind), .val (.int .i64 a0.N), .val (Sv a0.S), CV.ls c_Int a0.I, CV.ls c_Str a0.L])), (1, some (.box [.val (.int .i64 a1.Kind), .val (.int .i64 a1.N), .val (Sv a1.S), CV.ls c_Int a1.I, CV.ls c_Str a1.L]))]⟩ : ASt) _
  refine aops_step1 rfl (st_move rfl rfl) ?_
  obtain ⟨o3, j3, h⟩ := Md.bind_s h
  refine aops_cut 6 (ε := Bool) (fun x3 => (⟨38, [], [(2, .one (.ptr 0 0)), (3, .one (.ptr 1 0)), (4, .one (.val (.bool false))), (30, .one (.val (.bool x3)))], [(0, some (.box [.val (.int .i64 a0.Kind), .val (.int .i64 a0.N), .val (Sv a0.S), CV.ls c_Int a0.I, CV.ls c_Str a0.L])), (1, some (.box [.val (.int .i64 a1.Kind), .val (.int .i64 a1.N), .val (Sv a1.S), CV.ls c_Int a1.I, CV.ls c_Str a1.L]))]⟩ : ASt)) (fun x3 => x3 = o3) ?_ ?_
  · intro x3 hI3
    subst hI3
    change AOps _ _ _ (⟨38, [], [(2, .one (.ptr 0 0)), (3, .one (.ptr 1 0)), (4, .one (.val (.bool false))), (30, .one (.val (.bool x3)))], [(0, some (.box [.val (.int .i64 a0.Kind), .val (.int .i64 a0.N), .val (Sv a0.S), CV.ls c_Int a0.I, CV.ls c_Str a0.L])), (1, some (.box [.val (.int .i64 a1.Kind), .val (.int .i64 a1.N), .val (Sv a1.S), CV.ls c_Int a1.I, CV.ls c_Str a1.L]))]⟩ : ASt) _
    refine aops_step1 rfl (st_move rfl rfl) ?_
    obtain ⟨o4, j4, h⟩ := Md.bind_s h
    refine aops_cut 6 (ε := Bool) (fun x4 => (⟨38, [], [(4, .one (.val (.bool false))), (37, .one (.val (.bool x4)))], []⟩ : ASt)) (fun x4 => x4 = o4) ?_ ?_
    · intro x4 hI4
      subst hI4
      change AOps _ _ _ (⟨38, [], [(4, .one (.val (.bool false))), (37, .one (.val (.bool x4)))], []⟩ : ASt) _
      refine aops_step1 rfl (st_assign rfl rfl) ?_
      refine aops_nil ?_
      cases Option.some.inj h
      refine aw_ret ⟨rfl, ret_v (.inl ⟨_, rfl, rfl, fun _ e => nomatch e⟩) rfl rfl rfl ?_⟩
      (repeat' (first | exact TLe.refl _ | exact VLe.refl _ | exact CLe.refl _ | exact All2.nil | refine TLe.tup ?_ | refine TLe.v ?_ | refine All2.cons ?_ ?_ | refine VLe.agg ?_ | refine VLe.one ?_ | exact CLe.nil _ | exact CLe.emp _ | refine CLe.val ?_ | refine CLe.slc ?_ ?_))
    rcases Md.bool_or (x3) with q4 | q4
    · replace j4 := Md.cond_t j4 q4
      refine aops_yes rfl rfl rfl rfl q4 (ev_field rfl rfl rfl) ?_
      refine aops_yes rfl rfl rfl rfl q4 (ev_load rfl rfl rfl rfl) ?_
      refine aops_yes rfl rfl rfl rfl q4 (ev_field rfl rfl rfl) ?_
      refine aops_yes rfl rfl rfl rfl q4 (ev_load rfl rfl rfl rfl) ?_
      obtain ⟨x5, hx5, j4⟩ := Md.bind_s j4
      refine aops_yes rfl rfl rfl rfl q4 (ev_call_v (actorgridref1_SameStrings_fn k a0.L a1.L x5 hx5) rfl [] (by repeat' (first | exact All2.nil | refine All2.cons ?_ ?_ | refine ArgV.one ?_ | refine ArgV.agg ?_ | exact ArgC.mk rfl | exact ArgC.lend rfl (by simp) | exact ArgC.le (CLe.nil _) rfl | exact ArgC.le (CLe.emp _) rfl | exact ArgC.le (CLe.any _) rfl)) rfl rfl rfl (.inl rfl) rfl) ?_
      refine aops_step1 rfl (st_pick_yes rfl (by first | rfl | exact q4) rfl rfl) ?_
      refine aops_nil ?_
      show ∃ _x : Bool, _ = _ ∧ Weak _ _
      exact ⟨x5, Option.some.inj j4, (by (refine weak_mk rfl rfl ?_ ?_ rfl <;> repeat' (first | exact trivial | refine ⟨?_, ?_⟩ | exact VLe.refl _ | exact BLe.refl _ | refine VLe.one (CLe.val ?_) | exact VLe.one (CLe.nil _) | exact VLe.one (CLe.emp _))))⟩
    replace j4 := Md.cond_f j4 q4
    refine aops_no rfl rfl rfl rfl rfl (by first | decide | (rw [q4]; decide)) ?_
    refine aops_no rfl rfl rfl rfl rfl (by first | decide | (rw [q4]; decide)) ?_
    refine aops_no rfl rfl rfl rfl rfl (by first | decide | (rw [q4]; decide)) ?_
    refine aops_no rfl rfl rfl rfl rfl (by first | decide | (rw [q4]; decide)) ?_
    refine aops_no rfl rfl rfl rfl rfl (by first | decide | (rw [q4]; decide)) ?_
    refine aops_step1 rfl (st_pick_no rfl (by first | rfl | exact q4) rfl rfl) ?_
    refine aops_nil ?_
    show ∃ _x : Bool, _ = _ ∧ Weak _ _
    exact ⟨false, Option.some.inj j4, (by (refine weak_mk rfl rfl ?_ ?_ rfl <;> repeat' (first | exact trivial | refine ⟨?_, ?_⟩ | exact VLe.refl _ | exact BLe.refl _ | refine VLe.one (CLe.val ?_) | exact VLe.one (CLe.nil _) | exact VLe.one (CLe.emp _))))⟩
  rcases Md.bool_or ((((a0.Kind == a1.Kind) && (a0.N == a1.N)) && (decide (a0.S = a1.S)))) with q3 | q3
  · replace j3 := Md.cond_t j3 q3
    refine aops_yes rfl rfl rfl rfl q3 (ev_field rfl rfl rfl) ?_
    refine aops_yes rfl rfl rfl rfl q3 (ev_load rfl rfl rfl rfl) ?_
    refine aops_yes rfl rfl rfl rfl q3 (ev_field rfl rfl rfl) ?_
    refine aops_yes rfl rfl rfl rfl q3 (ev_load rfl rfl rfl rfl) ?_
    obtain ⟨x6, hx6, j3⟩ := Md.bind_s j3
    refine aops_yes rfl rfl rfl rfl q3 (ev_call_v (actorgridref1_SameInts_fn k a0.I a1.I x6 hx6) rfl [] (by repeat' (first | exact All2.nil | refine All2.cons ?_ ?_ | refine ArgV.one ?_ | refine ArgV.agg ?_ | exact ArgC.mk rfl | exact ArgC.lend rfl (by simp) | exact ArgC.le (CLe.nil _) rfl | exact ArgC.le (CLe.emp _) rfl | exact ArgC.le (CLe.any _) rfl)) rfl rfl rfl (.inl rfl) rfl) ?_
    refine aops_step1 rfl (st_pick_yes rfl (by first | rfl | exact q3) rfl rfl) ?_
    refine aops_nil ?_
    show ∃ _x : Bool, _ = _ ∧ Weak _ _
    exact ⟨x6, Option.some.inj j3, (by (refine weak_mk rfl rfl ?_ ?_ rfl <;> repeat' (first | exact trivial | refine ⟨?_, ?_⟩ | exact VLe.refl _ | exact BLe.refl _ | refine VLe.one (CLe.val ?_) | exact VLe.one (CLe.nil _) | exact VLe.one (CLe.emp _))))⟩
  replace j3 := Md.cond_f j3 q3
  refine aops_no rfl rfl rfl rfl rfl (by first | decide | (rw [q3]; decide)) ?_
  refine aops_no rfl rfl rfl rfl rfl (by first | decide | (rw [q3]; decide)) ?_
  refine aops_no rfl rfl rfl rfl rfl (by first | decide | (rw [q3]; decide)) ?_
  refine aops_no rfl rfl rfl rfl rfl (by first | decide | (rw [q3]; decide)) ?_
  refine aops_no rfl rfl rfl rfl rfl (by first | decide | (rw [q3]; decide)) ?_
  refine aops_step1 rfl (st_pick_no rfl (by first | rfl | exact q3) rfl rfl) ?_
  refine aops_nil ?_
  show ∃ _x : Bool, _ = _ ∧ Weak _ _
  exact ⟨false, Option.some.inj j3, (by (refine weak_mk rfl rfl ?_ ?_ rfl <;> repeat' (first | exact trivial | refine ⟨?_, ?_⟩ | exact VLe.refl _ | exact BLe.refl _ | refine VLe.one (CLe.val ?_) | exact VLe.one (CLe.nil _) | exact VLe.one (CLe.emp _))))⟩
set_option maxHeartbeats 2000000 in
theorem actorgridref1_Value_fn (k : Nat) (a0 : Value) (r : (List UInt8)) (h : actorgridref1_Value k a0 = some r) : FnC Try.prog 52 [.agg [.val (.int .i64 a0.Kind), .val (.int .i64 a0.N), .val (Sv a0.S), CV.ls c_Int a0.I, CV.ls c_Str a0.L]] [] (Det (.one (CV.ls byC r)) []) := by
  unfold actorgridref1_Value at h
  refine fn_intro' 50 Try.func52 rfl rfl rfl ?_
  refine aw_seq ?_
  refine aw_region ?_
  refine aops_step1 rfl (st_box 0 rfl rfl rfl rfl) ?_
  refine aops_step1 rfl (st_assign rfl rfl) ?_
  refine aops_nil ?_
  refine aw_seq ?_
  refine aw_seq ?_
  refine aw_region ?_
  refine aops_step1 rfl (ev_loads (ds := [_, _, _, _, _]) rfl rfl rfl rfl rfl) ?_
  obtain ⟨x1, hx1, h⟩ := Md.bind_s h
  refine aops_step1 rfl (ev_call_v (actorgridref1_ValidValue_fn k a0 x1 hx1) rfl [] (by repeat' (first | exact All2.nil | refine All2.cons ?_ ?_ | refine ArgV.one ?_ | refine ArgV.agg ?_ | exact ArgC.mk rfl | exact ArgC.lend rfl (by simp) | exact ArgC.le (CLe.nil _) rfl | exact ArgC.le (CLe.emp _) rfl | exact ArgC.le (CLe.any _) rfl)) rfl rfl rfl (.inl rfl) rfl) ?_
  refine aops_step1 rfl (ev_not rfl rfl) ?_
  refine aops_nil ?_
  refine aw_cond rfl (fun c2 => ?_) (fun c2 => ?_)
  · replace h := Md.cond_t h c2
    refine aw_seq ?_
    refine aw_region ?_
    refine aops_step1 rfl (st_assign rfl rfl) ?_
    refine aops_nil ?_
    cases Option.some.inj h
    refine aw_ret ⟨rfl, ret_v (.inl ⟨_, rfl, rfl, fun _ e => nomatch e⟩) rfl rfl rfl ?_⟩
    (repeat' (first | exact TLe.refl _ | exact VLe.refl _ | exact CLe.refl _ | exact All2.nil | refine TLe.tup ?_ | refine TLe.v ?_ | refine All2.cons ?_ ?_ | refine VLe.agg ?_ | refine VLe.one ?_ | exact CLe.nil _ | exact CLe.emp _ | refine CLe.val ?_ | refine CLe.slc ?_ ?_))
  replace h := Md.cond_f h c2
  refine aw_skip ?_
  refine aw_seq ?_
  refine aw_region ?_
  refine aops_step1 rfl (ev_field rfl rfl rfl) ?_
  refine aops_step1 rfl (ev_load rfl rfl rfl rfl) ?_
  refine aops_step1 rfl (st_conv_int rfl rfl Try.underlying3 Try.underlying5 (Md.ofInt_u8 a0.Kind)) ?_
  refine aops_step1 rfl (st_slice_lit (el := lsEl byC [(UInt8.ofInt a0.Kind)]) 1 rfl rfl rfl rfl rfl rfl rfl rfl (lit_el byC 1 [(UInt8.ofInt a0.Kind)] (fun _ => rfl)) rfl) ?_
  refine aops_step1 rfl (st_assign rfl rfl) ?_
  refine aops_nil ?_
  refine aw_seq ?_
  refine aw_seq ?_
  refine aw_region ?_
  refine aops_step1 rfl (ev_field rfl rfl rfl) ?_
  refine aops_step1 rfl (ev_load rfl rfl rfl rfl) ?_
  refine aops_nil ?_
  refine aw_block ?_
  refine aw_seq ?_
  refine aw_region ?_
  refine aops_step1 rfl (ev_cmp rfl rfl rfl rfl) ?_
  refine aops_step1 rfl (st_assign rfl rfl) ?_
  refine aops_nil ?_
  refine aw_cond rfl (fun c3 => ?_) (fun c3 => ?_)
  · replace h := Md.cond_t h c3
    refine aw_region ?_
    refine aops_step1 rfl (st_move rfl rfl) ?_
    refine aops_step1 rfl (ev_field rfl rfl rfl) ?_
    refine aops_step1 rfl (ev_load rfl rfl rfl rfl) ?_
    obtain ⟨x4, hx4, h⟩ := Md.bind_s h
    refine aops_step1 rfl (st_call_r (r' := .one (.own 2)) 2 rfl (actorgridref1_Int_fn k a0.N x4 hx4) rfl [] (by repeat' (first | exact All2.nil | refine All2.cons ?_ ?_ | refine ArgV.one ?_ | refine ArgV.agg ?_ | exact ArgC.mk rfl | exact ArgC.lend rfl (by simp) | exact ArgC.le (CLe.nil _) rfl | exact ArgC.le (CLe.emp _) rfl | exact ArgC.le (CLe.any _) rfl)) rfl rfl rfl (.inl rfl) rfl rfl) ?_
    obtain ⟨g5, h⟩ := Md.ifp_s h
    refine aops_step1 rfl (st_app_ls (f := byC) [(UInt8.ofInt a0.Kind)] x4 (fun _ => rfl) rfl rfl (.inr ⟨_, _, rfl, rfl⟩) (by omega) (by omega) rfl) ?_
    refine aops_step1 rfl (st_assign rfl rfl) ?_
    refine aops_nil ?_
    refine aw_seq ?_
    refine aw_region ?_
    refine aops_step1 rfl (st_move rfl rfl) ?_
    refine aops_step1 rfl (st_assign rfl rfl) ?_
    refine aops_nil ?_
    cases Option.some.inj h
    refine aw_freeze 1 rfl ?_
    refine aw_ret ⟨rfl, ret_v (.inl ⟨_, rfl, rfl, fun _ e => nomatch e⟩) rfl rfl rfl ?_⟩
    (repeat' (first | exact TLe.refl _ | exact VLe.refl _ | exact CLe.refl _ | exact All2.nil | refine TLe.tup ?_ | refine TLe.v ?_ | refine All2.cons ?_ ?_ | refine VLe.agg ?_ | refine VLe.one ?_ | exact CLe.nil _ | exact CLe.emp _ | refine CLe.val ?_ | refine CLe.slc ?_ ?_))
  replace h := Md.cond_f h c3
  refine aw_seq ?_
  refine aw_region ?_
  refine aops_step1 rfl (ev_cmp rfl rfl rfl rfl) ?_
  refine aops_step1 rfl (st_assign rfl rfl) ?_
  refine aops_nil ?_
  refine aw_cond rfl (fun c6 => ?_) (fun c6 => ?_)
  · replace h := Md.cond_t h c6
    refine aw_region ?_
    refine aops_step1 rfl (st_move rfl rfl) ?_
    refine aops_step1 rfl (ev_field rfl rfl rfl) ?_
    refine aops_step1 rfl (ev_load rfl rfl rfl rfl) ?_
    refine aops_step1 rfl (st_conv_int rfl rfl Try.underlying3 Try.underlying5 (Md.ofInt_u8 a0.N)) ?_
    refine aops_step1 rfl (st_slice_lit (el := lsEl byC [(UInt8.ofInt a0.N)]) 2 rfl rfl rfl rfl rfl rfl rfl rfl (lit_el byC 1 [(UInt8.ofInt a0.N)] (fun _ => rfl)) rfl) ?_
    obtain ⟨g7, h⟩ := Md.ifp_s h
    refine aops_step1 rfl (st_app_ls (f := byC) [(UInt8.ofInt a0.Kind)] [(UInt8.ofInt a0.N)] (fun _ => rfl) rfl rfl (.inr ⟨_, _, rfl, rfl⟩) (by omega) (by omega) rfl) ?_
    refine aops_step1 rfl (st_assign rfl rfl) ?_
    refine aops_nil ?_
    refine aw_seq ?_
    refine aw_region ?_
    refine aops_step1 rfl (st_move rfl rfl) ?_
    refine aops_step1 rfl (st_assign rfl rfl) ?_
    refine aops_nil ?_
    cases Option.some.inj h
    refine aw_freeze 1 rfl ?_
    refine aw_ret ⟨rfl, ret_v (.inl ⟨_, rfl, rfl, fun _ e => nomatch e⟩) rfl rfl rfl ?_⟩
    (repeat' (first | exact TLe.refl _ | exact VLe.refl _ | exact CLe.refl _ | exact All2.nil | refine TLe.tup ?_ | refine TLe.v ?_ | refine All2.cons ?_ ?_ | refine VLe.agg ?_ | refine VLe.one ?_ | exact CLe.nil _ | exact CLe.emp _ | refine CLe.val ?_ | refine CLe.slc ?_ ?_))
  replace h := Md.cond_f h c6
  refine aw_seq ?_
  refine aw_region ?_
  refine aops_step1 rfl (ev_cmp rfl rfl rfl rfl) ?_
  refine aops_step1 rfl (st_assign rfl rfl) ?_
  refine aops_nil ?_
  refine aw_cond rfl (fun c8 => ?_) (fun c8 => ?_)
  · replace h := Md.cond_t h c8
    refine aw_region ?_
    refine aops_step1 rfl (st_move rfl rfl) ?_
    refine aops_step1 rfl (ev_field rfl rfl rfl) ?_
    refine aops_step1 rfl (ev_load rfl rfl rfl rfl) ?_
    obtain ⟨x9, hx9, h⟩ := Md.bind_s h
    refine aops_step1 rfl (st_call_r (r' := .one (.own 2)) 2 rfl (actorgridref1_String_fn k a0.S x9 hx9) rfl [] (by repeat' (first | exact All2.nil | refine All2.cons ?_ ?_ | refine ArgV.one ?_ | refine ArgV.agg ?_ | exact ArgC.mk rfl | exact ArgC.lend rfl (by simp) | exact ArgC.le (CLe.nil _) rfl | exact ArgC.le (CLe.emp _) rfl | exact ArgC.le (CLe.any _) rfl)) rfl rfl rfl (.inl rfl) rfl rfl) ?_
    obtain ⟨g10, h⟩ := Md.ifp_s h
    refine aops_step1 rfl (st_app_ls (f := byC) [(UInt8.ofInt a0.Kind)] x9 (fun _ => rfl) rfl rfl (.inr ⟨_, _, rfl, rfl⟩) (by omega) (by omega) rfl) ?_
    refine aops_step1 rfl (st_assign rfl rfl) ?_
    refine aops_nil ?_
    refine aw_seq ?_
    refine aw_region ?_
    refine aops_step1 rfl (st_move rfl rfl) ?_
    refine aops_step1 rfl (st_assign rfl rfl) ?_
    refine aops_nil ?_
    cases Option.some.inj h
    refine aw_freeze 1 rfl ?_
    refine aw_ret ⟨rfl, ret_v (.inl ⟨_, rfl, rfl, fun _ e => nomatch e⟩) rfl rfl rfl ?_⟩
    (repeat' (first | exact TLe.refl _ | exact VLe.refl _ | exact CLe.refl _ | exact All2.nil | refine TLe.tup ?_ | refine TLe.v ?_ | refine All2.cons ?_ ?_ | refine VLe.agg ?_ | refine VLe.one ?_ | exact CLe.nil _ | exact CLe.emp _ | refine CLe.val ?_ | refine CLe.slc ?_ ?_))
  replace h := Md.cond_f h c8
  refine aw_seq ?_
  refine aw_region ?_
  refine aops_step1 rfl (ev_cmp rfl rfl rfl rfl) ?_
  refine aops_step1 rfl (st_assign rfl rfl) ?_
  refine aops_nil ?_
  refine aw_cond rfl (fun c11 => ?_) (fun c11 => ?_)
  · replace h := Md.cond_t h c11
    refine aw_region ?_
    refine aops_step1 rfl (st_move rfl rfl) ?_
    refine aops_step1 rfl (ev_field rfl rfl rfl) ?_
    refine aops_step1 rfl (ev_load rfl rfl rfl rfl) ?_
    obtain ⟨x12, hx12, h⟩ := Md.bind_s h
    refine aops_step1 rfl (st_call_r (r' := .one (.own 2)) 2 rfl (actorgridref1_IntList_fn k a0.I x12 hx12) rfl [] (by repeat' (first | exact All2.nil | refine All2.cons ?_ ?_ | refine ArgV.one ?_ | refine ArgV.agg ?_ | exact ArgC.mk rfl | exact ArgC.lend rfl (by simp) | exact ArgC.le (CLe.nil _) rfl | exact ArgC.le (CLe.emp _) rfl | exact ArgC.le (CLe.any _) rfl)) rfl rfl rfl (.inl rfl) rfl rfl) ?_
    obtain ⟨g13, h⟩ := Md.ifp_s h
    refine aops_step1 rfl (st_app_ls (f := byC) [(UInt8.ofInt a0.Kind)] x12 (fun _ => rfl) rfl rfl (.inr ⟨_, _, rfl, rfl⟩) (by omega) (by omega) rfl) ?_
    refine aops_step1 rfl (st_assign rfl rfl) ?_
    refine aops_nil ?_
    refine aw_seq ?_
    refine aw_region ?_
    refine aops_step1 rfl (st_move rfl rfl) ?_
    refine aops_step1 rfl (st_assign rfl rfl) ?_
    refine aops_nil ?_
    cases Option.some.inj h
    refine aw_freeze 1 rfl ?_
    refine aw_ret ⟨rfl, ret_v (.inl ⟨_, rfl, rfl, fun _ e => nomatch e⟩) rfl rfl rfl ?_⟩
    (repeat' (first | exact TLe.refl _ | exact VLe.refl _ | exact CLe.refl _ | exact All2.nil | refine TLe.tup ?_ | refine TLe.v ?_ | refine All2.cons ?_ ?_ | refine VLe.agg ?_ | refine VLe.one ?_ | exact CLe.nil _ | exact CLe.emp _ | refine CLe.val ?_ | refine CLe.slc ?_ ?_))
  replace h := Md.cond_f h c11
  refine aw_seq ?_
  refine aw_region ?_
  refine aops_step1 rfl (ev_cmp rfl rfl rfl rfl) ?_
  refine aops_step1 rfl (st_assign rfl rfl) ?_
  refine aops_nil ?_
  refine aw_cond rfl (fun c14 => ?_) (fun c14 => ?_)
  · replace h := Md.cond_t h c14
    refine aw_region ?_
    refine aops_step1 rfl (st_move rfl rfl) ?_
    refine aops_step1 rfl (ev_field rfl rfl rfl) ?_
    refine aops_step1 rfl (ev_load rfl rfl rfl rfl) ?_
    obtain ⟨x15, hx15, h⟩ := Md.bind_s h
    refine aops_step1 rfl (st_call_r (r' := .one (.own 2)) 2 rfl (actorgridref1_StringList_fn k a0.L x15 hx15) rfl [] (by repeat' (first | exact All2.nil | refine All2.cons ?_ ?_ | refine ArgV.one ?_ | refine ArgV.agg ?_ | exact ArgC.mk rfl | exact ArgC.lend rfl (by simp) | exact ArgC.le (CLe.nil _) rfl | exact ArgC.le (CLe.emp _) rfl | exact ArgC.le (CLe.any _) rfl)) rfl rfl rfl (.inl rfl) rfl rfl) ?_
    obtain ⟨g16, h⟩ := Md.ifp_s h
    refine aops_step1 rfl (st_app_ls (f := byC) [(UInt8.ofInt a0.Kind)] x15 (fun _ => rfl) rfl rfl (.inr ⟨_, _, rfl, rfl⟩) (by omega) (by omega) rfl) ?_
    refine aops_step1 rfl (st_assign rfl rfl) ?_
    refine aops_nil ?_
    refine aw_seq ?_
    refine aw_region ?_
    refine aops_step1 rfl (st_move rfl rfl) ?_
    refine aops_step1 rfl (st_assign rfl rfl) ?_
    refine aops_nil ?_
    cases Option.some.inj h
    refine aw_freeze 1 rfl ?_
    refine aw_ret ⟨rfl, ret_v (.inl ⟨_, rfl, rfl, fun _ e => nomatch e⟩) rfl rfl rfl ?_⟩
    (repeat' (first | exact TLe.refl _ | exact VLe.refl _ | exact CLe.refl _ | exact All2.nil | refine TLe.tup ?_ | refine TLe.v ?_ | refine All2.cons ?_ ?_ | refine VLe.agg ?_ | refine VLe.one ?_ | exact CLe.nil _ | exact CLe.emp _ | refine CLe.val ?_ | refine CLe.slc ?_ ?_))
  replace h := Md.cond_f h c14
  refine aw_skip ?_
  refine aw_seq ?_
  refine aw_region ?_
  refine aops_step1 rfl (st_move rfl rfl) ?_
  refine aops_step1 rfl (st_assign rfl rfl) ?_
  refine aops_nil ?_
  cases Option.some.inj h
  refine aw_freeze 1 rfl ?_
  refine aw_ret ⟨rfl, ret_v (.inl ⟨_, rfl, rfl, fun _ e => nomatch e⟩) rfl rfl rfl ?_⟩
  (repeat' (first | exact TLe.refl _ | exact VLe.refl _ | exact CLe.refl _ | exact All2.nil | refine TLe.tup ?_ | refine TLe.v ?_ | refine All2.cons ?_ ?_ | refine VLe.agg ?_ | refine VLe.one ?_ | exact CLe.nil _ | exact CLe.emp _ | refine CLe.val ?_ | refine CLe.slc ?_ ?_))
set_option maxHeartbeats 2000000 in
theorem actorgridref1_ReadValue_fn (k : Nat) (a0 : List UInt8) (r : Value × Int × Int) (h : actorgridref1_ReadValue k a0 = some r) : FnC Try.prog 48 [.one (CV.ls byC a0)] [] (Det (.tup [.agg [.val (.int .i64 r.1.Kind), .val (.int .i64 r.1.N), .val (Sv r.1.S), CV.ls c_Int r.1.I, CV.ls c_Str r.1.L], .one (.val (.int .i64 r.2.1)), .one (.val (.int .i64 r.2.2))]) []) := by
  unfold actorgridref1_ReadValue at h
  refine fn_intro' 84 Try.func48 rfl rfl rfl ?_
  refine aw_seq ?_
  refine aw_region ?_
  refine aops_step1 rfl (st_alloc (cs := [.val (.int .i64 0), .val (.int .i64 0), .val (Sv []), .val (.slice none 0 0), .val (.slice none 0 0)]) 0 rfl rfl rfl rfl rfl) ?_
  refine aops_step1 rfl (st_assign rfl rfl) ?_
  refine aops_step1 rfl (st_assign rfl rfl) ?_
  refine aops_nil ?_
  refine aw_seq ?_
  refine aw_seq ?_
  refine aw_region ?_
  refine aops_step1 rfl (st_move rfl rfl) ?_
  refine aops_step1 rfl (ev_len_slc rfl rfl) ?_
  refine aops_step1 rfl (ev_cmp rfl rfl rfl rfl) ?_
  refine aops_nil ?_
  refine aw_cond rfl (fun c1 => ?_) (fun c1 => ?_)
  · replace h := Md.cond_t h c1
    refine aw_seq ?_
    refine aw_region ?_
    refine aops_step1 rfl (ev_build' (out := [_, _, _, _, _]) rfl rfl rfl rfl rfl) ?_
    refine aops_step1 rfl (st_store (cs' := [_, _, _, _, _]) rfl rfl rfl rfl rfl rfl rfl rfl rfl) ?_
    refine aops_step1 rfl (st_assign rfl rfl) ?_
    refine aops_step1 rfl (st_assign rfl rfl) ?_
    refine aops_nil ?_
    cases Option.some.inj h
    refine aw_ret ⟨rfl, ret_v (.inr ⟨by decide, _, rfl, .cons (show resVar _ _ _ (AV.agg [_, _, _, _, _]) from ⟨_, _, _, _, _, rfl, rfl, TVar.h, rfl, rfl⟩) (.cons (show get _ _ = AV.one _ from rfl) (.cons (show get _ _ = AV.one _ from rfl) (.nil))), by intro y hy vs e; subst e; simp at hy⟩) rfl rfl rfl ?_⟩
    (repeat' (first | exact TLe.refl _ | exact VLe.refl _ | exact CLe.refl _ | exact All2.nil | refine TLe.tup ?_ | refine TLe.v ?_ | refine All2.cons ?_ ?_ | refine VLe.agg ?_ | refine VLe.one ?_ | exact CLe.nil _ | exact CLe.emp _ | refine CLe.val ?_ | refine CLe.slc ?_ ?_))
  replace h := Md.cond_f h c1
  refine aw_skip ?_
  refine aw_seq ?_
  refine aw_region ?_
  refine aops_step1 rfl (st_move rfl rfl) ?_
  obtain ⟨g2, h⟩ := Md.ifp_s h
  refine aops_step1 rfl (ev_index_in rfl rfl rfl g2 rfl rfl) ?_
  refine aops_step1 rfl (ev_load_in rfl rfl rfl) ?_
  refine aops_step1 rfl (st_conv_int rfl rfl Try.underlying5 Try.underlying3 (Md.conv_u8_i64 (a0.getD 0 default))) ?_
  refine aops_step1 rfl (ev_build' (out := [_, _, _, _, _]) rfl rfl rfl rfl rfl) ?_
  refine aops_step1 rfl (st_alloc (cs := [.val (.int .i64 0), .val (.int .i64 0), .val (Sv []), .val (.slice none 0 0), .val (.slice none 0 0)]) 1 rfl rfl rfl rfl rfl) ?_
  refine aops_step1 rfl (st_store (cs' := [_, _, _, _, _]) rfl rfl rfl rfl rfl rfl rfl rfl rfl) ?_
  refine aops_nil ?_
  refine aw_seq ?_
  refine aw_region ?_
  refine aops_step1 rfl (st_assign rfl rfl) ?_
  refine aops_nil ?_
  refine aw_seq ?_
  refine aw_region ?_
  refine aops_step1 rfl (st_assign rfl rfl) ?_
  refine aops_nil ?_
  refine aw_seq ?_
  refine aw_seq ?_
  refine aw_region ?_
  refine aops_step1 rfl (ev_field rfl rfl rfl) ?_
  refine aops_step1 rfl (ev_load rfl rfl rfl rfl) ?_
  refine aops_nil ?_
  refine aw_block ?_
  refine aw_seq ?_
  refine aw_region ?_
  refine aops_step1 rfl (ev_cmp rfl rfl rfl rfl) ?_
  refine aops_step1 rfl (st_assign rfl rfl) ?_
  refine aops_nil ?_
  refine aw_cond rfl (fun c3 => ?_) (fun c3 => ?_)
  · replace h := Md.cond_t h c3
    refine aw_skip ?_
    refine aw_seq ?_
    refine aw_seq ?_
    refine aw_region ?_
    refine aops_step1 rfl (st_move rfl rfl) ?_
    refine aops_step1 rfl (ev_cmp (b := false) rfl rfl rfl rfl) ?_
    refine aops_nil ?_
    refine aw_no rfl (rfl) ?_
    refine aw_skip ?_
    refine aw_seq ?_
    refine aw_region ?_
    refine aops_step1 rfl (ev_loads (ds := [_, _, _, _, _]) rfl rfl rfl rfl rfl) ?_
    refine aops_step1 rfl (st_move rfl rfl) ?_
    refine aops_step1 rfl (ev_add (q := 1) rfl rfl rfl (by decide)) ?_
    refine aops_step1 rfl (st_store (cs' := [_, _, _, _, _]) rfl rfl rfl rfl rfl rfl rfl rfl rfl) ?_
    refine aops_step1 rfl (st_assign rfl rfl) ?_
    refine aops_step1 rfl (st_assign rfl rfl) ?_
    refine aops_nil ?_
    cases Option.some.inj h
    refine aw_ret ⟨rfl, ret_v (.inr ⟨by decide, _, rfl, .cons (show resVar _ _ _ (AV.agg [_, _, _, _, _]) from ⟨_, _, _, _, _, rfl, rfl, TVar.h, rfl, rfl⟩) (.cons (show get _ _ = AV.one _ from rfl) (.cons (show get _ _ = AV.one _ from rfl) (.nil))), by intro y hy vs e; subst e; simp at hy⟩) rfl rfl rfl ?_⟩
    (repeat' (first | exact TLe.refl _ | exact VLe.refl _ | exact CLe.refl _ | exact All2.nil | refine TLe.tup ?_ | refine TLe.v ?_ | refine All2.cons ?_ ?_ | refine VLe.agg ?_ | refine VLe.one ?_ | exact CLe.nil _ | exact CLe.emp _ | refine CLe.val ?_ | refine CLe.slc ?_ ?_))
  replace h := Md.cond_f h c3
  refine aw_seq ?_
  refine aw_region ?_
  refine aops_step1 rfl (ev_cmp rfl rfl rfl rfl) ?_
  refine aops_step1 rfl (st_assign rfl rfl) ?_
  refine aops_nil ?_
  refine aw_cond rfl (fun c4 => ?_) (fun c4 => ?_)
  · replace h := Md.cond_t h c4
    refine aw_region ?_
    refine aops_step1 rfl (st_move rfl rfl) ?_
    obtain ⟨g5, h⟩ := Md.ifp_s h
    refine aops_step1 rfl (st_cut_lo (f := byC) (fun _ => rfl) rfl ⟨_, _, rfl, rfl⟩ g5 rfl) ?_
    obtain ⟨x6, hx6, h⟩ := Md.bind_s h
    refine aops_step1 rfl (ev_call_v (actorgridref1_ReadInt_fn k (a0.drop 1) x6 hx6) rfl [] (by repeat' (first | exact All2.nil | refine All2.cons ?_ ?_ | refine ArgV.one ?_ | refine ArgV.agg ?_ | exact ArgC.mk rfl | exact ArgC.lend rfl (by simp) | exact ArgC.le (CLe.nil _) rfl | exact ArgC.le (CLe.emp _) rfl | exact ArgC.le (CLe.any _) rfl)) rfl rfl rfl (.inl rfl) rfl) ?_
    refine aops_step1 rfl (st_movet rfl rfl) ?_
    refine aops_step1 rfl (ev_extract rfl rfl rfl) ?_
    refine aops_step1 rfl (ev_extract rfl rfl rfl) ?_
    refine aops_step1 rfl (ev_extract rfl rfl rfl) ?_
    refine aops_step1 rfl (ev_field rfl rfl rfl) ?_
    refine aops_step1 rfl (st_store (cs' := [_, _, _, _, _]) rfl rfl rfl rfl rfl rfl rfl rfl rfl) ?_
    refine aops_step1 rfl (st_assign rfl rfl) ?_
    refine aops_step1 rfl (st_assign rfl rfl) ?_
    refine aops_nil ?_
    refine aw_seq ?_
    refine aw_seq ?_
    refine aw_region ?_
    refine aops_step1 rfl (st_move rfl rfl) ?_
    refine aops_step1 rfl (ev_cmp rfl rfl rfl rfl) ?_
    refine aops_nil ?_
    refine aw_cond rfl (fun c7 => ?_) (fun c7 => ?_)
    · replace h := Md.cond_t h c7
      refine aw_seq ?_
      refine aw_region ?_
      refine aops_step1 rfl (ev_build' (out := [_, _, _, _, _]) rfl rfl rfl rfl rfl) ?_
      refine aops_step1 rfl (st_move rfl rfl) ?_
      refine aops_step1 rfl (st_store (cs' := [_, _, _, _, _]) rfl rfl rfl rfl rfl rfl rfl rfl rfl) ?_
      refine aops_step1 rfl (st_assign rfl rfl) ?_
      refine aops_step1 rfl (st_assign rfl rfl) ?_
      refine aops_nil ?_
      cases Option.some.inj h
      refine aw_ret ⟨rfl, ret_v (.inr ⟨by decide, _, rfl, .cons (show resVar _ _ _ (AV.agg [_, _, _, _, _]) from ⟨_, _, _, _, _, rfl, rfl, TVar.h, rfl, rfl⟩) (.cons (show get _ _ = AV.one _ from rfl) (.cons (show get _ _ = AV.one _ from rfl) (.nil))), by intro y hy vs e; subst e; simp at hy⟩) rfl rfl rfl ?_⟩
      (repeat' (first | exact TLe.refl _ | exact VLe.refl _ | exact CLe.refl _ | exact All2.nil | refine TLe.tup ?_ | refine TLe.v ?_ | refine All2.cons ?_ ?_ | refine VLe.agg ?_ | refine VLe.one ?_ | exact CLe.nil _ | exact CLe.emp _ | refine CLe.val ?_ | refine CLe.slc ?_ ?_))
    replace h := Md.cond_f h c7
    refine aw_skip ?_
    refine aw_seq ?_
    refine aw_region ?_
    refine aops_step1 rfl (ev_loads (ds := [_, _, _, _, _]) rfl rfl rfl rfl rfl) ?_
    refine aops_step1 rfl (st_move rfl rfl) ?_
    refine aops_step1 rfl (ev_add rfl rfl rfl (Md.wrap_W _)) ?_
    refine aops_step1 rfl (st_store (cs' := [_, _, _, _, _]) rfl rfl rfl rfl rfl rfl rfl rfl rfl) ?_
    refine aops_step1 rfl (st_assign rfl rfl) ?_
    refine aops_step1 rfl (st_assign rfl rfl) ?_
    refine aops_nil ?_
    cases Option.some.inj h
    refine aw_ret ⟨rfl, ret_v (.inr ⟨by decide, _, rfl, .cons (show resVar _ _ _ (AV.agg [_, _, _, _, _]) from ⟨_, _, _, _, _, rfl, rfl, TVar.h, rfl, rfl⟩) (.cons (show get _ _ = AV.one _ from rfl) (.cons (show get _ _ = AV.one _ from rfl) (.nil))), by intro y hy vs e; subst e; simp at hy⟩) rfl rfl rfl ?_⟩
    (repeat' (first | exact TLe.refl _ | exact VLe.refl _ | exact CLe.refl _ | exact All2.nil | refine TLe.tup ?_ | refine TLe.v ?_ | refine All2.cons ?_ ?_ | refine VLe.agg ?_ | refine VLe.one ?_ | exact CLe.nil _ | exact CLe.emp _ | refine CLe.val ?_ | refine CLe.slc ?_ ?_))
  replace h := Md.cond_f h c4
  refine aw_seq ?_
  refine aw_region ?_
  refine aops_step1 rfl (ev_cmp rfl rfl rfl rfl) ?_
  refine aops_step1 rfl (st_assign rfl rfl) ?_
  refine aops_nil ?_
  refine aw_cond rfl (fun c8 => ?_) (fun c8 => ?_)
  · replace h := Md.cond_t h c8
    refine aw_seq ?_
    refine aw_seq ?_
    refine aw_region ?_
    refine aops_step1 rfl (st_move rfl rfl) ?_
    refine aops_step1 rfl (ev_len_slc rfl rfl) ?_
    refine aops_step1 rfl (ev_cmp rfl rfl rfl rfl) ?_
    refine aops_nil ?_
    refine aw_cond rfl (fun c9 => ?_) (fun c9 => ?_)
    · replace h := Md.cond_t h c9
      refine aw_seq ?_
      refine aw_region ?_
      refine aops_step1 rfl (ev_build' (out := [_, _, _, _, _]) rfl rfl rfl rfl rfl) ?_
      refine aops_step1 rfl (st_store (cs' := [_, _, _, _, _]) rfl rfl rfl rfl rfl rfl rfl rfl rfl) ?_
      refine aops_step1 rfl (st_assign rfl rfl) ?_
      refine aops_step1 rfl (st_assign rfl rfl) ?_
      refine aops_nil ?_
      cases Option.some.inj h
      refine aw_ret ⟨rfl, ret_v (.inr ⟨by decide, _, rfl, .cons (show resVar _ _ _ (AV.agg [_, _, _, _, _]) from ⟨_, _, _, _, _, rfl, rfl, TVar.h, rfl, rfl⟩) (.cons (show get _ _ = AV.one _ from rfl) (.cons (show get _ _ = AV.one _ from rfl) (.nil))), by intro y hy vs e; subst e; simp at hy⟩) rfl rfl rfl ?_⟩
      (repeat' (first | exact TLe.refl _ | exact VLe.refl _ | exact CLe.refl _ | exact All2.nil | refine TLe.tup ?_ | refine TLe.v ?_ | refine All2.cons ?_ ?_ | refine VLe.agg ?_ | refine VLe.one ?_ | exact CLe.nil _ | exact CLe.emp _ | refine CLe.val ?_ | refine CLe.slc ?_ ?_))
    replace h := Md.cond_f h c9
    refine aw_skip ?_
    refine aw_seq ?_
    refine aw_seq ?_
    refine aw_region ?_
    refine aops_step1 rfl (st_move rfl rfl) ?_
    obtain ⟨g10, h⟩ := Md.ifp_s h
    refine aops_step1 rfl (ev_index_in rfl rfl rfl g10 rfl rfl) ?_
    refine aops_step1 rfl (ev_load_in rfl rfl rfl) ?_
    refine aops_step1 rfl (ev_cmp rfl rfl rfl rfl) ?_
    refine aops_nil ?_
    refine aw_cond rfl (fun c11 => ?_) (fun c11 => ?_)
    · replace h := Md.cond_t h c11
      refine aw_seq ?_
      refine aw_region ?_
      refine aops_step1 rfl (ev_build' (out := [_, _, _, _, _]) rfl rfl rfl rfl rfl) ?_
      refine aops_step1 rfl (st_store (cs' := [_, _, _, _, _]) rfl rfl rfl rfl rfl rfl rfl rfl rfl) ?_
      refine aops_step1 rfl (st_assign rfl rfl) ?_
      refine aops_step1 rfl (st_assign rfl rfl) ?_
      refine aops_nil ?_
      cases Option.some.inj h
      refine aw_ret ⟨rfl, ret_v (.inr ⟨by decide, _, rfl, .cons (show resVar _ _ _ (AV.agg [_, _, _, _, _]) from ⟨_, _, _, _, _, rfl, rfl, TVar.h, rfl, rfl⟩) (.cons (show get _ _ = AV.one _ from rfl) (.cons (show get _ _ = AV.one _ from rfl) (.nil))), by intro y hy vs e; subst e; simp at hy⟩) rfl rfl rfl ?_⟩
      (repeat' (first | exact TLe.refl _ | exact VLe.refl _ | exact CLe.refl _ | exact All2.nil | refine TLe.tup ?_ | refine TLe.v ?_ | refine All2.cons ?_ ?_ | refine VLe.agg ?_ | refine VLe.one ?_ | exact CLe.nil _ | exact CLe.emp _ | refine CLe.val ?_ | refine CLe.slc ?_ ?_))
    replace h := Md.cond_f h c11
    refine aw_skip ?_
    refine aw_seq ?_
    refine aw_region ?_
    refine aops_step1 rfl (st_move rfl rfl) ?_
    obtain ⟨g12, h⟩ := Md.ifp_s h
    refine aops_step1 rfl (ev_index_in rfl rfl rfl g12 rfl rfl) ?_
    refine aops_step1 rfl (ev_load_in rfl rfl rfl) ?_
    refine aops_step1 rfl (st_conv_int rfl rfl Try.underlying5 Try.underlying3 (Md.conv_u8_i64 (a0.getD 1 default))) ?_
    refine aops_step1 rfl (ev_field rfl rfl rfl) ?_
    refine aops_step1 rfl (st_store (cs' := [_, _, _, _, _]) rfl rfl rfl rfl rfl rfl rfl rfl rfl) ?_
    refine aops_nil ?_
    refine aw_region ?_
    refine aops_step1 rfl (st_assign rfl rfl) ?_
    refine aops_nil ?_
    refine aw_seq ?_
    refine aw_seq ?_
    refine aw_region ?_
    refine aops_step1 rfl (st_move rfl rfl) ?_
    refine aops_step1 rfl (ev_cmp (b := false) rfl rfl rfl rfl) ?_
    refine aops_nil ?_
    refine aw_no rfl (rfl) ?_
    refine aw_skip ?_
    refine aw_seq ?_
    refine aw_region ?_
    refine aops_step1 rfl (ev_loads (ds := [_, _, _, _, _]) rfl rfl rfl rfl rfl) ?_
    refine aops_step1 rfl (st_move rfl rfl) ?_
    refine aops_step1 rfl (ev_add (q := 2) rfl rfl rfl (by decide)) ?_
    refine aops_step1 rfl (st_store (cs' := [_, _, _, _, _]) rfl rfl rfl rfl rfl rfl rfl rfl rfl) ?_
    refine aops_step1 rfl (st_assign rfl rfl) ?_
    refine aops_step1 rfl (st_assign rfl rfl) ?_
    refine aops_nil ?_
    cases Option.some.inj h
    refine aw_ret ⟨rfl, ret_v (.inr ⟨by decide, _, rfl, .cons (show resVar _ _ _ (AV.agg [_, _, _, _, _]) from ⟨_, _, _, _, _, rfl, rfl, TVar.h, rfl, rfl⟩) (.cons (show get _ _ = AV.one _ from rfl) (.cons (show get _ _ = AV.one _ from rfl) (.nil))), by intro y hy vs e; subst e; simp at hy⟩) rfl rfl rfl ?_⟩
    (repeat' (first | exact TLe.refl _ | exact VLe.refl _ | exact CLe.refl _ | exact All2.nil | refine TLe.tup ?_ | refine TLe.v ?_ | refine All2.cons ?_ ?_ | refine VLe.agg ?_ | refine VLe.one ?_ | exact CLe.nil _ | exact CLe.emp _ | refine CLe.val ?_ | refine CLe.slc ?_ ?_))
  replace h := Md.cond_f h c8
  refine aw_seq ?_
  refine aw_region ?_
  refine aops_step1 rfl (ev_cmp rfl rfl rfl rfl) ?_
  refine aops_step1 rfl (st_assign rfl rfl) ?_
  refine aops_nil ?_
  refine aw_cond rfl (fun c13 => ?_) (fun c13 => ?_)
  · replace h := Md.cond_t h c13
    refine aw_region ?_
    refine aops_step1 rfl (st_move rfl rfl) ?_
    obtain ⟨g14, h⟩ := Md.ifp_s h
    refine aops_step1 rfl (st_cut_lo (f := byC) (fun _ => rfl) rfl ⟨_, _, rfl, rfl⟩ g14 rfl) ?_
    obtain ⟨x15, hx15, h⟩ := Md.bind_s h
    refine aops_step1 rfl (ev_call_v (actorgridref1_ReadString_fn k (a0.drop 1) 64 x15 hx15) rfl [] (by repeat' (first | exact All2.nil | refine All2.cons ?_ ?_ | refine ArgV.one ?_ | refine ArgV.agg ?_ | exact ArgC.mk rfl | exact ArgC.lend rfl (by simp) | exact ArgC.le (CLe.nil _) rfl | exact ArgC.le (CLe.emp _) rfl | exact ArgC.le (CLe.any _) rfl)) rfl rfl rfl (.inl rfl) rfl) ?_
    refine aops_step1 rfl (st_movet rfl rfl) ?_
    refine aops_step1 rfl (ev_extract rfl rfl rfl) ?_
    refine aops_step1 rfl (ev_extract rfl rfl rfl) ?_
    refine aops_step1 rfl (ev_extract rfl rfl rfl) ?_
    refine aops_step1 rfl (ev_field rfl rfl rfl) ?_
    refine aops_step1 rfl (st_store (cs' := [_, _, _, _, _]) rfl rfl rfl rfl rfl rfl rfl rfl rfl) ?_
    refine aops_step1 rfl (st_assign rfl rfl) ?_
    refine aops_step1 rfl (st_assign rfl rfl) ?_
    refine aops_nil ?_
    refine aw_seq ?_
    refine aw_seq ?_
    refine aw_region ?_
    refine aops_step1 rfl (st_move rfl rfl) ?_
    refine aops_step1 rfl (ev_cmp rfl rfl rfl rfl) ?_
    refine aops_nil ?_
    refine aw_cond rfl (fun c16 => ?_) (fun c16 => ?_)
    · replace h := Md.cond_t h c16
      refine aw_seq ?_
      refine aw_region ?_
      refine aops_step1 rfl (ev_build' (out := [_, _, _, _, _]) rfl rfl rfl rfl rfl) ?_
      refine aops_step1 rfl (st_move rfl rfl) ?_
      refine aops_step1 rfl (st_store (cs' := [_, _, _, _, _]) rfl rfl rfl rfl rfl rfl rfl rfl rfl) ?_
      refine aops_step1 rfl (st_assign rfl rfl) ?_
      refine aops_step1 rfl (st_assign rfl rfl) ?_
      refine aops_nil ?_
      cases Option.some.inj h
      refine aw_ret ⟨rfl, ret_v (.inr ⟨by decide, _, rfl, .cons (show resVar _ _ _ (AV.agg [_, _, _, _, _]) from ⟨_, _, _, _, _, rfl, rfl, TVar.h, rfl, rfl⟩) (.cons (show get _ _ = AV.one _ from rfl) (.cons (show get _ _ = AV.one _ from rfl) (.nil))), by intro y hy vs e; subst e; simp at hy⟩) rfl rfl rfl ?_⟩
      (repeat' (first | exact TLe.refl _ | exact VLe.refl _ | exact CLe.refl _ | exact All2.nil | refine TLe.tup ?_ | refine TLe.v ?_ | refine All2.cons ?_ ?_ | refine VLe.agg ?_ | refine VLe.one ?_ | exact CLe.nil _ | exact CLe.emp _ | refine CLe.val ?_ | refine CLe.slc ?_ ?_))
    replace h := Md.cond_f h c16
    refine aw_skip ?_
    refine aw_seq ?_
    refine aw_region ?_
    refine aops_step1 rfl (ev_loads (ds := [_, _, _, _, _]) rfl rfl rfl rfl rfl) ?_
    refine aops_step1 rfl (st_move rfl rfl) ?_
    refine aops_step1 rfl (ev_add rfl rfl rfl (Md.wrap_W _)) ?_
    refine aops_step1 rfl (st_store (cs' := [_, _, _, _, _]) rfl rfl rfl rfl rfl rfl rfl rfl rfl) ?_
    refine aops_step1 rfl (st_assign rfl rfl) ?_
    refine aops_step1 rfl (st_assign rfl rfl) ?_
    refine aops_nil ?_
    cases Option.some.inj h
    refine aw_ret ⟨rfl, ret_v (.inr ⟨by decide, _, rfl, .cons (show resVar _ _ _ (AV.agg [_, _, _, _, _]) from ⟨_, _, _, _, _, rfl, rfl, TVar.h, rfl, rfl⟩) (.cons (show get _ _ = AV.one _ from rfl) (.cons (show get _ _ = AV.one _ from rfl) (.nil))), by intro y hy vs e; subst e; simp at hy⟩) rfl rfl rfl ?_⟩
    (repeat' (first | exact TLe.refl _ | exact VLe.refl _ | exact CLe.refl _ | exact All2.nil | refine TLe.tup ?_ | refine TLe.v ?_ | refine All2.cons ?_ ?_ | refine VLe.agg ?_ | refine VLe.one ?_ | exact CLe.nil _ | exact CLe.emp _ | refine CLe.val ?_ | refine CLe.slc ?_ ?_))
  replace h := Md.cond_f h c13
  refine aw_seq ?_
  refine aw_region ?_
  refine aops_step1 rfl (ev_cmp rfl rfl rfl rfl) ?_
  refine aops_step1 rfl (st_assign rfl rfl) ?_
  refine aops_nil ?_
  refine aw_cond rfl (fun c17 => ?_) (fun c17 => ?_)
  · replace h := Md.cond_t h c17
    refine aw_region ?_
    refine aops_step1 rfl (st_move rfl rfl) ?_
    obtain ⟨g18, h⟩ := Md.ifp_s h
    refine aops_step1 rfl (st_cut_lo (f := byC) (fun _ => rfl) rfl ⟨_, _, rfl, rfl⟩ g18 rfl) ?_
    obtain ⟨x19, hx19, h⟩ := Md.bind_s h
    refine aops_step1 rfl (ev_call_v (actorgridref1_ReadIntList_fn k (a0.drop 1) 16 x19 hx19) rfl [] (by repeat' (first | exact All2.nil | refine All2.cons ?_ ?_ | refine ArgV.one ?_ | refine ArgV.agg ?_ | exact ArgC.mk rfl | exact ArgC.lend rfl (by simp) | exact ArgC.le (CLe.nil _) rfl | exact ArgC.le (CLe.emp _) rfl | exact ArgC.le (CLe.any _) rfl)) rfl rfl rfl (.inl rfl) rfl) ?_
    refine aops_step1 rfl (st_movet rfl rfl) ?_
    refine aops_step1 rfl (ev_extract rfl rfl rfl) ?_
    refine aops_step1 rfl (ev_extract rfl rfl rfl) ?_
    refine aops_step1 rfl (ev_extract rfl rfl rfl) ?_
    refine aops_step1 rfl (ev_field rfl rfl rfl) ?_
    refine aops_step1 rfl (st_store (cs' := [_, _, _, _, _]) rfl rfl rfl rfl rfl rfl rfl rfl rfl) ?_
    refine aops_step1 rfl (st_assign rfl rfl) ?_
    refine aops_step1 rfl (st_assign rfl rfl) ?_
    refine aops_nil ?_
    refine aw_seq ?_
    refine aw_seq ?_
    refine aw_region ?_
    refine aops_step1 rfl (st_move rfl rfl) ?_
    refine aops_step1 rfl (ev_cmp rfl rfl rfl rfl) ?_
    refine aops_nil ?_
    refine aw_cond rfl (fun c20 => ?_) (fun c20 => ?_)
    · replace h := Md.cond_t h c20
      refine aw_seq ?_
      refine aw_region ?_
      refine aops_step1 rfl (ev_build' (out := [_, _, _, _, _]) rfl rfl rfl rfl rfl) ?_
      refine aops_step1 rfl (st_move rfl rfl) ?_
      refine aops_step1 rfl (st_store (cs' := [_, _, _, _, _]) rfl rfl rfl rfl rfl rfl rfl rfl rfl) ?_
      refine aops_step1 rfl (st_assign rfl rfl) ?_
      refine aops_step1 rfl (st_assign rfl rfl) ?_
      refine aops_nil ?_
      cases Option.some.inj h
      refine aw_ret ⟨rfl, ret_v (.inr ⟨by decide, _, rfl, .cons (show resVar _ _ _ (AV.agg [_, _, _, _, _]) from ⟨_, _, _, _, _, rfl, rfl, TVar.h, rfl, rfl⟩) (.cons (show get _ _ = AV.one _ from rfl) (.cons (show get _ _ = AV.one _ from rfl) (.nil))), by intro y hy vs e; subst e; simp at hy⟩) rfl rfl rfl ?_⟩
      (repeat' (first | exact TLe.refl _ | exact VLe.refl _ | exact CLe.refl _ | exact All2.nil | refine TLe.tup ?_ | refine TLe.v ?_ | refine All2.cons ?_ ?_ | refine VLe.agg ?_ | refine VLe.one ?_ | exact CLe.nil _ | exact CLe.emp _ | refine CLe.val ?_ | refine CLe.slc ?_ ?_))
    replace h := Md.cond_f h c20
    refine aw_skip ?_
    refine aw_seq ?_
    refine aw_region ?_
    refine aops_step1 rfl (ev_loads (ds := [_, _, _, _, _]) rfl rfl rfl rfl rfl) ?_
    refine aops_step1 rfl (st_move rfl rfl) ?_
    refine aops_step1 rfl (ev_add rfl rfl rfl (Md.wrap_W _)) ?_
    refine aops_step1 rfl (st_store (cs' := [_, _, _, _, _]) rfl rfl rfl rfl rfl rfl rfl rfl rfl) ?_
    refine aops_step1 rfl (st_assign rfl rfl) ?_
    refine aops_step1 rfl (st_assign rfl rfl) ?_
    refine aops_nil ?_
    cases Option.some.inj h
    refine aw_ret ⟨rfl, ret_v (.inr ⟨by decide, _, rfl, .cons (show resVar _ _ _ (AV.agg [_, _, _, _, _]) from ⟨_, _, _, _, _, rfl, rfl, TVar.h, rfl, rfl⟩) (.cons (show get _ _ = AV.one _ from rfl) (.cons (show get _ _ = AV.one _ from rfl) (.nil))), by intro y hy vs e; subst e; simp at hy⟩) rfl rfl rfl ?_⟩
    (repeat' (first | exact TLe.refl _ | exact VLe.refl _ | exact CLe.refl _ | exact All2.nil | refine TLe.tup ?_ | refine TLe.v ?_ | refine All2.cons ?_ ?_ | refine VLe.agg ?_ | refine VLe.one ?_ | exact CLe.nil _ | exact CLe.emp _ | refine CLe.val ?_ | refine CLe.slc ?_ ?_))
  replace h := Md.cond_f h c17
  refine aw_seq ?_
  refine aw_region ?_
  refine aops_step1 rfl (ev_cmp rfl rfl rfl rfl) ?_
  refine aops_step1 rfl (st_assign rfl rfl) ?_
  refine aops_nil ?_
  refine aw_cond rfl (fun c21 => ?_) (fun c21 => ?_)
  · replace h := Md.cond_t h c21
    refine aw_region ?_
    refine aops_step1 rfl (st_move rfl rfl) ?_
    obtain ⟨g22, h⟩ := Md.ifp_s h
    refine aops_step1 rfl (st_cut_lo (f := byC) (fun _ => rfl) rfl ⟨_, _, rfl, rfl⟩ g22 rfl) ?_
    obtain ⟨x23, hx23, h⟩ := Md.bind_s h
    refine aops_step1 rfl (ev_call_v (actorgridref1_ReadStringList_fn k (a0.drop 1) 16 x23 hx23) rfl [] (by repeat' (first | exact All2.nil | refine All2.cons ?_ ?_ | refine ArgV.one ?_ | refine ArgV.agg ?_ | exact ArgC.mk rfl | exact ArgC.lend rfl (by simp) | exact ArgC.le (CLe.nil _) rfl | exact ArgC.le (CLe.emp _) rfl | exact ArgC.le (CLe.any _) rfl)) rfl rfl rfl (.inl rfl) rfl) ?_
    refine aops_step1 rfl (st_movet rfl rfl) ?_
    refine aops_step1 rfl (ev_extract rfl rfl rfl) ?_
    refine aops_step1 rfl (ev_extract rfl rfl rfl) ?_
    refine aops_step1 rfl (ev_extract rfl rfl rfl) ?_
    refine aops_step1 rfl (ev_field rfl rfl rfl) ?_
    refine aops_step1 rfl (st_store (cs' := [_, _, _, _, _]) rfl rfl rfl rfl rfl rfl rfl rfl rfl) ?_
    refine aops_step1 rfl (st_assign rfl rfl) ?_
    refine aops_step1 rfl (st_assign rfl rfl) ?_
    refine aops_nil ?_
    refine aw_seq ?_
    refine aw_seq ?_
    refine aw_region ?_
    refine aops_step1 rfl (st_move rfl rfl) ?_
    refine aops_step1 rfl (ev_cmp rfl rfl rfl rfl) ?_
    refine aops_nil ?_
    refine aw_cond rfl (fun c24 => ?_) (fun c24 => ?_)
    · replace h := Md.cond_t h c24
      refine aw_seq ?_
      refine aw_region ?_
      refine aops_step1 rfl (ev_build' (out := [_, _, _, _, _]) rfl rfl rfl rfl rfl) ?_
      refine aops_step1 rfl (st_move rfl rfl) ?_
      refine aops_step1 rfl (st_store (cs' := [_, _, _, _, _]) rfl rfl rfl rfl rfl rfl rfl rfl rfl) ?_
      refine aops_step1 rfl (st_assign rfl rfl) ?_
      refine aops_step1 rfl (st_assign rfl rfl) ?_
      refine aops_nil ?_
      cases Option.some.inj h
      refine aw_ret ⟨rfl, ret_v (.inr ⟨by decide, _, rfl, .cons (show resVar _ _ _ (AV.agg [_, _, _, _, _]) from ⟨_, _, _, _, _, rfl, rfl, TVar.h, rfl, rfl⟩) (.cons (show get _ _ = AV.one _ from rfl) (.cons (show get _ _ = AV.one _ from rfl) (.nil))), by intro y hy vs e; subst e; simp at hy⟩) rfl rfl rfl ?_⟩
      (repeat' (first | exact TLe.refl _ | exact VLe.refl _ | exact CLe.refl _ | exact All2.nil | refine TLe.tup ?_ | refine TLe.v ?_ | refine All2.cons ?_ ?_ | refine VLe.agg ?_ | refine VLe.one ?_ | exact CLe.nil _ | exact CLe.emp _ | refine CLe.val ?_ | refine CLe.slc ?_ ?_))
    replace h := Md.cond_f h c24
    refine aw_skip ?_
    refine aw_seq ?_
    refine aw_region ?_
    refine aops_step1 rfl (ev_loads (ds := [_, _, _, _, _]) rfl rfl rfl rfl rfl) ?_
    refine aops_step1 rfl (st_move rfl rfl) ?_
    refine aops_step1 rfl (ev_add rfl rfl rfl (Md.wrap_W _)) ?_
    refine aops_step1 rfl (st_store (cs' := [_, _, _, _, _]) rfl rfl rfl rfl rfl rfl rfl rfl rfl) ?_
    refine aops_step1 rfl (st_assign rfl rfl) ?_
    refine aops_step1 rfl (st_assign rfl rfl) ?_
    refine aops_nil ?_
    cases Option.some.inj h
    refine aw_ret ⟨rfl, ret_v (.inr ⟨by decide, _, rfl, .cons (show resVar _ _ _ (AV.agg [_, _, _, _, _]) from ⟨_, _, _, _, _, rfl, rfl, TVar.h, rfl, rfl⟩) (.cons (show get _ _ = AV.one _ from rfl) (.cons (show get _ _ = AV.one _ from rfl) (.nil))), by intro y hy vs e; subst e; simp at hy⟩) rfl rfl rfl ?_⟩
    (repeat' (first | exact TLe.refl _ | exact VLe.refl _ | exact CLe.refl _ | exact All2.nil | refine TLe.tup ?_ | refine TLe.v ?_ | refine All2.cons ?_ ?_ | refine VLe.agg ?_ | refine VLe.one ?_ | exact CLe.nil _ | exact CLe.emp _ | refine CLe.val ?_ | refine CLe.slc ?_ ?_))
  replace h := Md.cond_f h c21
  refine aw_region ?_
  refine aops_step1 rfl (st_assign rfl rfl) ?_
  refine aops_nil ?_
  refine aw_seq ?_
  refine aw_seq ?_
  refine aw_region ?_
  refine aops_step1 rfl (st_move rfl rfl) ?_
  refine aops_step1 rfl (ev_cmp (b := true) rfl rfl rfl rfl) ?_
  refine aops_nil ?_
  refine aw_yes rfl (rfl) ?_
  refine aw_seq ?_
  refine aw_region ?_
  refine aops_step1 rfl (ev_build' (out := [_, _, _, _, _]) rfl rfl rfl rfl rfl) ?_
  refine aops_step1 rfl (st_move rfl rfl) ?_
  refine aops_step1 rfl (st_store (cs' := [_, _, _, _, _]) rfl rfl rfl rfl rfl rfl rfl rfl rfl) ?_
  refine aops_step1 rfl (st_assign rfl rfl) ?_
  refine aops_step1 rfl (st_assign rfl rfl) ?_
  refine aops_nil ?_
  cases Option.some.inj h
  refine aw_ret ⟨rfl, ret_v (.inr ⟨by decide, _, rfl, .cons (show resVar _ _ _ (AV.agg [_, _, _, _, _]) from ⟨_, _, _, _, _, rfl, rfl, TVar.h, rfl, rfl⟩) (.cons (show get _ _ = AV.one _ from rfl) (.cons (show get _ _ = AV.one _ from rfl) (.nil))), by intro y hy vs e; subst e; simp at hy⟩) rfl rfl rfl ?_⟩
  (repeat' (first | exact TLe.refl _ | exact VLe.refl _ | exact CLe.refl _ | exact All2.nil | refine TLe.tup ?_ | refine TLe.v ?_ | refine All2.cons ?_ ?_ | refine VLe.agg ?_ | refine VLe.one ?_ | exact CLe.nil _ | exact CLe.emp _ | refine CLe.val ?_ | refine CLe.slc ?_ ?_))
set_option maxHeartbeats 2000000 in
theorem actorgridref1_Checksum_fn (k : Nat) (a0 : List UInt8) (r : UInt32) (h : actorgridref1_Checksum k a0 = some r) : FnC Try.prog 35 [.one (CV.ls byC a0)] [] (Det (.one (.val (.int .u32 (r.toNat : Int)))) []) := by
  unfold actorgridref1_Checksum at h
  refine fn_intro' 34 Try.func35 rfl rfl rfl ?_
  refine aw_seq ?_
  refine aw_region ?_
  refine aops_step1 rfl (st_assign rfl rfl) ?_
  refine aops_nil ?_
  refine aw_seq ?_
  refine aw_region ?_
  refine aops_step1 rfl (st_assign rfl rfl) ?_
  refine aops_nil ?_
  refine aw_seq ?_
  refine aw_seq ?_
  refine aw_region ?_
  refine aops_step1 rfl (st_assign rfl rfl) ?_
  refine aops_nil ?_
  refine aw_block ?_
  obtain ⟨o1, ho1, h⟩ := Md.bind_s h
  refine aw_loop_x (ι := {p : Nat × UInt32 × Nat // actorgridref1_Checksum_loop1 k a0 p.1 p.2.1 p.2.2 = some o1}) (fun p => (⟨34, [], [(0, .one (CV.ls byC a0)), (3, .one (.val (.int .u32 (p.1.2.1.toNat : Int)))), (4, .one (.val (.int .i64 ((p.1.2.2 : Nat) : Int))))], []⟩ : ASt)) (fun p => p.1.1) ⟨(k, (4294967295 : UInt32), 0), ho1⟩ (by (refine weak_mk rfl rfl ?_ ?_ rfl <;> repeat' (first | exact trivial | refine ⟨?_, ?_⟩ | exact VLe.refl _ | exact BLe.refl _ | refine VLe.one (CLe.val ?_) | exact VLe.one (CLe.nil _) | exact VLe.one (CLe.emp _)))) 0 (ε := UInt32) (fun x => (⟨34, [], [(3, .one (.val (.int .u32 (x.toNat : Int))))], []⟩ : ASt)) (fun x => x = o1) (fun _ _ w h => aw_weak w h) ?_ ?_
  · intro x1_0 hI1
    subst hI1
    change AW _ _ (⟨34, [], [(3, .one (.val (.int .u32 (x1_0.toNat : Int))))], []⟩ : ASt) _
    refine aw_seq ?_
    refine aw_region ?_
    refine aops_step1 rfl (st_move rfl rfl) ?_
    refine aops_step1 rfl (st_compl rfl rfl (Md.compl_u32 _)) ?_
    refine aops_step1 rfl (st_assign rfl rfl) ?_
    refine aops_nil ?_
    cases Option.some.inj h
    refine aw_ret ⟨rfl, ret_v (.inl ⟨_, rfl, rfl, fun _ e => nomatch e⟩) rfl rfl rfl ?_⟩
    (repeat' (first | exact TLe.refl _ | exact VLe.refl _ | exact CLe.refl _ | exact All2.nil | refine TLe.tup ?_ | refine TLe.v ?_ | refine All2.cons ?_ ?_ | refine VLe.agg ?_ | refine VLe.one ?_ | exact CLe.nil _ | exact CLe.emp _ | refine CLe.val ?_ | refine CLe.slc ?_ ?_))
  intro p1
  obtain ⟨⟨n1, s1_0, s1_1⟩, l1⟩ := p1
  change AW _ _ (⟨34, [], [(0, .one (CV.ls byC a0)), (3, .one (.val (.int .u32 (s1_0.toNat : Int)))), (4, .one (.val (.int .i64 ((s1_1 : Nat) : Int))))], []⟩ : ASt) _
  replace l1 : actorgridref1_Checksum_loop1 k a0 n1 s1_0 s1_1 = some o1 := l1
  rcases n1 with _ | n1
  · exact absurd (show none = some o1 from l1) nofun
  rw [actorgridref1_Checksum_loop1] at l1
  refine aw_seq ?_
  refine aw_seq ?_
  refine aw_region ?_
  refine aops_step1 rfl (st_move rfl rfl) ?_
  refine aops_step1 rfl (st_move rfl rfl) ?_
  refine aops_step1 rfl (ev_len_slc rfl rfl) ?_
  refine aops_step1 rfl (ev_cmp rfl rfl rfl rfl) ?_
  refine aops_nil ?_
  refine aw_cond rfl (fun c2 => ?_) (fun c2 => ?_)
  · replace l1 := Md.cond_t l1 c2
    refine aw_skip ?_
    refine aw_seq ?_
    refine aw_block ?_
    refine aw_seq ?_
    refine aw_region ?_
    refine aops_step1 rfl (st_move rfl rfl) ?_
    refine aops_step1 rfl (st_move rfl rfl) ?_
    refine aops_step1 rfl (st_move rfl rfl) ?_
    obtain ⟨g3, l1⟩ := Md.ifp_s l1
    refine aops_step1 rfl (ev_index_in rfl rfl rfl g3 rfl rfl) ?_
    refine aops_step1 rfl (ev_load_in rfl rfl rfl) ?_
    refine aops_step1 rfl (st_conv_int rfl rfl Try.underlying5 Try.underlying48 (Md.conv_u8_u32 (a0.getD s1_1 default))) ?_
    refine aops_step1 rfl (ev_bits rfl rfl rfl rfl (Md.xor_u32 s1_0 ((a0.getD s1_1 default).toUInt32))) ?_
    refine aops_step1 rfl (st_assign rfl rfl) ?_
    refine aops_nil ?_
    refine aw_seq ?_
    refine aw_region ?_
    refine aops_step1 rfl (st_assign rfl rfl) ?_
    refine aops_nil ?_
    refine aw_block ?_
    obtain ⟨o4, ho4, l1⟩ := Md.bind_s l1
    refine aw_loop_x (ι := {p : Nat × UInt32 × Nat // actorgridref1_Checksum_loop2 k p.1 p.2.1 p.2.2 = some o4}) (fun p => (⟨34, [], [(0, .one (CV.ls byC a0)), (3, .one (.val (.int .u32 (p.1.2.1.toNat : Int)))), (4, .one (.val (.int .i64 ((s1_1 : Nat) : Int)))), (5, .one (.val (.int .i64 ((p.1.2.2 : Nat) : Int))))], []⟩ : ASt)) (fun p => p.1.1) ⟨(k, (s1_0 ^^^ ((a0.getD s1_1 default).toUInt32)), 0), ho4⟩ (by (refine weak_mk rfl rfl ?_ ?_ rfl <;> repeat' (first | exact trivial | refine ⟨?_, ?_⟩ | exact VLe.refl _ | exact BLe.refl _ | refine VLe.one (CLe.val ?_) | exact VLe.one (CLe.nil _) | exact VLe.one (CLe.emp _)))) 2 (ε := UInt32) (fun x => (⟨34, [], [(0, .one (CV.ls byC a0)), (3, .one (.val (.int .u32 (x.toNat : Int)))), (4, .one (.val (.int .i64 ((s1_1 : Nat) : Int))))], []⟩ : ASt)) (fun x => x = o4) (fun _ _ w h => aw_weak w h) ?_ ?_
    · intro x4_0 hI4
      subst hI4
      change AW _ _ (⟨34, [], [(0, .one (CV.ls byC a0)), (3, .one (.val (.int .u32 (x4_0.toNat : Int)))), (4, .one (.val (.int .i64 ((s1_1 : Nat) : Int))))], []⟩ : ASt) _
      refine aw_region ?_
      refine aops_step1 rfl (st_move rfl rfl) ?_
      obtain ⟨g5, l1⟩ := Md.ifp_s l1
      refine aops_step1 rfl (ev_add rfl rfl rfl (Md.nat_add g5)) ?_
      refine aops_step1 rfl (st_assign rfl rfl) ?_
      refine aops_nil ?_
      exact ⟨⟨(n1, x4_0, (s1_1 + 1)), l1⟩, Nat.lt_succ_self _, (by (refine weak_mk rfl rfl ?_ ?_ rfl <;> repeat' (first | exact trivial | refine ⟨?_, ?_⟩ | exact VLe.refl _ | exact BLe.refl _ | refine VLe.one (CLe.val ?_) | exact VLe.one (CLe.nil _) | exact VLe.one (CLe.emp _))))⟩
    intro p4
    obtain ⟨⟨n4, s4_0, s4_1⟩, l4⟩ := p4
    change AW _ _ (⟨34, [], [(0, .one (CV.ls byC a0)), (3, .one (.val (.int .u32 (s4_0.toNat : Int)))), (4, .one (.val (.int .i64 ((s1_1 : Nat) : Int)))), (5, .one (.val (.int .i64 ((s4_1 : Nat) : Int))))], []⟩ : ASt) _
    replace l4 : actorgridref1_Checksum_loop2 k n4 s4_0 s4_1 = some o4 := l4
    rcases n4 with _ | n4
    · exact absurd (show none = some o4 from l4) nofun
    rw [actorgridref1_Checksum_loop2] at l4
    refine aw_seq ?_
    refine aw_seq ?_
    refine aw_region ?_
    refine aops_step1 rfl (st_move rfl rfl) ?_
    refine aops_step1 rfl (ev_cmp rfl rfl rfl rfl) ?_
    refine aops_nil ?_
    refine aw_cond rfl (fun c6 => ?_) (fun c6 => ?_)
    · replace l4 := Md.cond_t l4 c6
      refine aw_skip ?_
      obtain ⟨o7, j7, l4⟩ := Md.bind_s l4
      refine aw_cut (ε := UInt32) (fun x => (⟨34, [], [(0, .one (CV.ls byC a0)), (3, .one (.val (.int .u32 (x.toNat : Int)))), (4, .one (.val (.int .i64 ((s1_1 : Nat) : Int)))), (5, .one (.val (.int .i64 ((s4_1 : Nat) : Int))))], []⟩ : ASt)) (fun x => x = o7) ?_ ?_
      · intro x7_0 hI7
        subst hI7
        change AW _ _ (⟨34, [], [(0, .one (CV.ls byC a0)), (3, .one (.val (.int .u32 (x7_0.toNat : Int)))), (4, .one (.val (.int .i64 ((s1_1 : Nat) : Int)))), (5, .one (.val (.int .i64 ((s4_1 : Nat) : Int))))], []⟩ : ASt) _
        refine aw_region ?_
        refine aops_step1 rfl (st_move rfl rfl) ?_
        obtain ⟨g8, l4⟩ := Md.ifp_s l4
        refine aops_step1 rfl (ev_add rfl rfl rfl (Md.nat_add g8)) ?_
        refine aops_step1 rfl (st_assign rfl rfl) ?_
        refine aops_nil ?_
        exact ⟨⟨(n4, x7_0, (s4_1 + 1)), l4⟩, Nat.lt_succ_self _, (by (refine weak_mk rfl rfl ?_ ?_ rfl <;> repeat' (first | exact trivial | refine ⟨?_, ?_⟩ | exact VLe.refl _ | exact BLe.refl _ | refine VLe.one (CLe.val ?_) | exact VLe.one (CLe.nil _) | exact VLe.one (CLe.emp _))))⟩
      refine aw_block ?_
      refine aw_seq ?_
      refine aw_region ?_
      refine aops_step1 rfl (st_move rfl rfl) ?_
      refine aops_step1 rfl (ev_bits rfl rfl rfl rfl (Md.and_u32 s4_0 (1 : UInt32))) ?_
      refine aops_step1 rfl (st_assign rfl rfl) ?_
      refine aops_nil ?_
      refine aw_seq ?_
      refine aw_region ?_
      refine aops_step1 rfl (st_move rfl rfl) ?_
      refine aops_step1 rfl (ev_shr rfl rfl rfl (by decide) (Md.shr_u32 s4_0 (Md.nat_toNat 1))) ?_
      refine aops_step1 rfl (st_assign rfl rfl) ?_
      refine aops_nil ?_
      refine aw_seq ?_
      refine aw_region ?_
      refine aops_step1 rfl (st_move rfl rfl) ?_
      refine aops_step1 rfl (ev_cmp rfl rfl rfl rfl) ?_
      refine aops_nil ?_
      refine aw_cond rfl (fun c9 => ?_) (fun c9 => ?_)
      · replace j7 := Md.cond_t j7 c9
        refine aw_region ?_
        refine aops_step1 rfl (st_move rfl rfl) ?_
        refine aops_step1 rfl (ev_bits rfl rfl rfl rfl (Md.xor_u32 (Md.shr32 s4_0 1) (3988292384 : UInt32))) ?_
        refine aops_step1 rfl (st_assign rfl rfl) ?_
        refine aops_nil ?_
        show ∃ _x : UInt32, _ = _ ∧ Weak _ _
        exact ⟨((Md.shr32 s4_0 1) ^^^ (3988292384 : UInt32)), Option.some.inj j7, (by (refine weak_mk rfl rfl ?_ ?_ rfl <;> repeat' (first | exact trivial | refine ⟨?_, ?_⟩ | exact VLe.refl _ | exact BLe.refl _ | refine VLe.one (CLe.val ?_) | exact VLe.one (CLe.nil _) | exact VLe.one (CLe.emp _))))⟩
      replace j7 := Md.cond_f j7 c9
      refine aw_skip ?_
      show ∃ _x : UInt32, _ = _ ∧ Weak _ _
      exact ⟨(Md.shr32 s4_0 1), Option.some.inj j7, (by (refine weak_mk rfl rfl ?_ ?_ rfl <;> repeat' (first | exact trivial | refine ⟨?_, ?_⟩ | exact VLe.refl _ | exact BLe.refl _ | refine VLe.one (CLe.val ?_) | exact VLe.one (CLe.nil _) | exact VLe.one (CLe.emp _))))⟩
    replace l4 := Md.cond_f l4 c6
    refine aw_exit ?_
    show ∃ _x : UInt32, _ = _ ∧ Weak _ _
    exact ⟨s4_0, Option.some.inj l4, (by (refine weak_mk rfl rfl ?_ ?_ rfl <;> repeat' (first | exact trivial | refine ⟨?_, ?_⟩ | exact VLe.refl _ | exact BLe.refl _ | refine VLe.one (CLe.val ?_) | exact VLe.one (CLe.nil _) | exact VLe.one (CLe.emp _))))⟩
  replace l1 := Md.cond_f l1 c2
  refine aw_exit ?_
  show ∃ _x : UInt32, _ = _ ∧ Weak _ _
  exact ⟨s1_0, Option.some.inj l1, (by (refine weak_mk rfl rfl ?_ ?_ rfl <;> repeat' (first | exact trivial | refine ⟨?_, ?_⟩ | exact VLe.refl _ | exact BLe.refl _ | refine VLe.one (CLe.val ?_) | exact VLe.one (CLe.nil _) | exact VLe.one (CLe.emp _))))⟩
set_option maxHeartbeats 2000000 in
theorem actorgridref1_Low_fn (k : Nat) (a0 : UInt32) (r : (List UInt8)) (h : actorgridref1_Low k a0 = some r) : FnC Try.prog 62 [.one (.val (.int .u32 (a0.toNat : Int)))] [] (Det (.one (.own 0)) [(0, some (.row 5 1 r.length (lsEl byC r)))]) := by
  unfold actorgridref1_Low at h
  refine fn_intro' 15 Try.func62 rfl rfl rfl ?_
  refine aw_seq ?_
  refine aw_region ?_
  refine aops_step1 rfl (st_assign rfl rfl) ?_
  refine aops_nil ?_
  refine aw_seq ?_
  refine aw_region ?_
  refine aops_step1 rfl (st_move rfl rfl) ?_
  refine aops_step1 rfl (st_conv_int rfl rfl Try.underlying48 Try.underlying5 (Md.conv_u32_u8 a0)) ?_
  refine aops_step1 rfl (st_move rfl rfl) ?_
  refine aops_step1 rfl (ev_shr rfl rfl rfl (by decide) (Md.shr_u32 a0 (Md.nat_toNat 8))) ?_
  refine aops_step1 rfl (st_conv_int rfl rfl Try.underlying48 Try.underlying5 (Md.conv_u32_u8 (Md.shr32 a0 8))) ?_
  refine aops_step1 rfl (st_move rfl rfl) ?_
  refine aops_step1 rfl (ev_shr rfl rfl rfl (by decide) (Md.shr_u32 a0 (Md.nat_toNat 16))) ?_
  refine aops_step1 rfl (st_conv_int rfl rfl Try.underlying48 Try.underlying5 (Md.conv_u32_u8 (Md.shr32 a0 16))) ?_
  refine aops_step1 rfl (st_move rfl rfl) ?_
  refine aops_step1 rfl (ev_shr rfl rfl rfl (by decide) (Md.shr_u32 a0 (Md.nat_toNat 24))) ?_
  refine aops_step1 rfl (st_conv_int rfl rfl Try.underlying48 Try.underlying5 (Md.conv_u32_u8 (Md.shr32 a0 24))) ?_
  refine aops_step1 rfl (st_slice_lit (el := lsEl byC [(a0.toUInt8), ((Md.shr32 a0 8).toUInt8), ((Md.shr32 a0 16).toUInt8), ((Md.shr32 a0 24).toUInt8)]) 0 rfl rfl rfl rfl rfl rfl rfl rfl (lit_el byC 1 [(a0.toUInt8), ((Md.shr32 a0 8).toUInt8), ((Md.shr32 a0 16).toUInt8), ((Md.shr32 a0 24).toUInt8)] (fun _ => rfl)) rfl) ?_
  refine aops_step1 rfl (st_assign rfl rfl) ?_
  refine aops_nil ?_
  cases Option.some.inj h
  refine aw_ret ⟨rfl, ret_r 0 (.inl ⟨_, rfl, rfl, fun _ e => nomatch e⟩) rfl rfl rfl ?_ ?_ ?_⟩
  · first | exact TLe.refl _ | (repeat' (first | exact TLe.refl _ | exact VLe.refl _ | exact CLe.refl _ | exact All2.nil | refine TLe.tup ?_ | refine TLe.v ?_ | refine All2.cons ?_ ?_ | refine VLe.agg ?_ | refine VLe.one ?_ | exact CLe.nil _ | exact CLe.emp _ | refine CLe.val ?_ | refine CLe.slc ?_ ?_))
  · rfl
  · rfl
set_option maxHeartbeats 2000000 in
theorem actorgridref1_Seal_fn (k : Nat) (a0 : Int) (a1 : List UInt8) (r : (List UInt8) × Int) (h : actorgridref1_Seal k a0 a1 = some r) : FnC Try.prog 31 [.one (.val (.int .i64 a0)), .one (CV.ls byC a1)] [] (Det (.tup [.one (CV.ls byC r.1), .one (.val (.int .i64 r.2))]) []) := by
  unfold actorgridref1_Seal at h
  refine fn_intro' 34 Try.func31 rfl rfl rfl ?_
  refine aw_seq ?_
  refine aw_region ?_
  refine aops_step1 rfl (st_assign rfl rfl) ?_
  refine aops_step1 rfl (st_assign rfl rfl) ?_
  refine aops_nil ?_
  refine aw_seq ?_
  refine aw_seq ?_
  refine aw_region ?_
  refine aops_step1 rfl (st_move rfl rfl) ?_
  refine aops_step1 rfl (ev_cmp rfl rfl rfl rfl) ?_
  refine aops_step1 rfl (st_move rfl rfl) ?_
  refine aops_mid 3 (⟨34, [], [(0, .one (.val (.int .i64 a0))), (1, .one (CV.ls byC a1)), (12, .one (.val (.bool ((decide (a0 < 1)) || (decide (a0 > 255))))))], []⟩ : ASt) ?_ ?_
  · rcases Md.bool_or ((decide (a0 < 1))) with q1 | q1
    · skip
      refine aops_no rfl rfl rfl rfl rfl (by first | decide | (rw [q1]; decide)) ?_
      refine aops_no rfl rfl rfl rfl rfl (by first | decide | (rw [q1]; decide)) ?_
      refine aops_step1 rfl (st_pick_yes rfl (by first | rfl | exact q1) rfl rfl) ?_
      refine aops_nil ?_
      show Weak _ _
      (refine weak_mk rfl rfl ?_ ?_ rfl <;> repeat' (first | exact trivial | refine ⟨?_, ?_⟩ | exact VLe.refl _ | exact BLe.refl _ | refine VLe.one (CLe.val ?_) | exact VLe.one (CLe.nil _) | exact VLe.one (CLe.emp _))) <;> (first | (rw [q1]; done) | (rw [q1]; rfl) | (simp [q1]; done))
    refine aops_yes rfl rfl rfl rfl q1 (st_move rfl rfl) ?_
    refine aops_yes rfl rfl rfl rfl q1 (ev_cmp rfl rfl rfl rfl) ?_
    refine aops_step1 rfl (st_pick_no rfl (by first | rfl | exact q1) rfl rfl) ?_
    refine aops_nil ?_
    show Weak _ _
    (refine weak_mk rfl rfl ?_ ?_ rfl <;> repeat' (first | exact trivial | refine ⟨?_, ?_⟩ | exact VLe.refl _ | exact BLe.refl _ | refine VLe.one (CLe.val ?_) | exact VLe.one (CLe.nil _) | exact VLe.one (CLe.emp _))) <;> (first | (rw [q1]; done) | (rw [q1]; rfl) | (simp [q1]; done))
  change AOps _ _ _ (⟨34, [], [(0, .one (.val (.int .i64 a0))), (1, .one (CV.ls byC a1)), (12, .one (.val (.bool ((decide (a0 < 1)) || (decide (a0 > 255))))))], []⟩ : ASt) _
  refine aops_step1 rfl (st_move rfl rfl) ?_
  refine aops_mid 4 (⟨34, [], [(0, .one (.val (.int .i64 a0))), (1, .one (CV.ls byC a1)), (17, .one (.val (.bool (((decide (a0 < 1)) || (decide (a0 > 255))) || (decide (((a1.length : Nat) : Int) > 16777216))))))], []⟩ : ASt) ?_ ?_
  · rcases Md.bool_or (((decide (a0 < 1)) || (decide (a0 > 255)))) with q2 | q2
    · skip
      refine aops_no rfl rfl rfl rfl rfl (by first | decide | (rw [q2]; decide)) ?_
      refine aops_no rfl rfl rfl rfl rfl (by first | decide | (rw [q2]; decide)) ?_
      refine aops_no rfl rfl rfl rfl rfl (by first | decide | (rw [q2]; decide)) ?_
      refine aops_step1 rfl (st_pick_yes rfl (by first | rfl | exact q2) rfl rfl) ?_
      refine aops_nil ?_
      show Weak _ _
      (refine weak_mk rfl rfl ?_ ?_ rfl <;> repeat' (first | exact trivial | refine ⟨?_, ?_⟩ | exact VLe.refl _ | exact BLe.refl _ | refine VLe.one (CLe.val ?_) | exact VLe.one (CLe.nil _) | exact VLe.one (CLe.emp _))) <;> (first | (rw [q2]; done) | (rw [q2]; rfl) | (simp [q2]; done))
    refine aops_yes rfl rfl rfl rfl q2 (st_move rfl rfl) ?_
    refine aops_yes rfl rfl rfl rfl q2 (ev_len_slc rfl rfl) ?_
    refine aops_yes rfl rfl rfl rfl q2 (ev_cmp rfl rfl rfl rfl) ?_
    refine aops_step1 rfl (st_pick_no rfl (by first | rfl | exact q2) rfl rfl) ?_
    refine aops_nil ?_
    show Weak _ _
    (refine weak_mk rfl rfl ?_ ?_ rfl <;> repeat' (first | exact trivial | refine ⟨?_, ?_⟩ | exact VLe.refl _ | exact BLe.refl _ | refine VLe.one (CLe.val ?_) | exact VLe.one (CLe.nil _) | exact VLe.one (CLe.emp _))) <;> (first | (rw [q2]; done) | (rw [q2]; rfl) | (simp [q2]; done))
  change AOps _ _ _ (⟨34, [], [(0, .one (.val (.int .i64 a0))), (1, .one (CV.ls byC a1)), (17, .one (.val (.bool (((decide (a0 < 1)) || (decide (a0 > 255))) || (decide (((a1.length : Nat) : Int) > 16777216))))))], []⟩ : ASt) _
  refine aops_nil ?_
  refine aw_cond rfl (fun c3 => ?_) (fun c3 => ?_)
  · replace h := Md.cond_t h c3
    refine aw_seq ?_
    refine aw_region ?_
    refine aops_step1 rfl (st_assign rfl rfl) ?_
    refine aops_step1 rfl (st_assign rfl rfl) ?_
    refine aops_nil ?_
    cases Option.some.inj h
    refine aw_ret ⟨rfl, ret_v (.inr ⟨by decide, _, rfl, .cons (show get _ _ = AV.one _ from rfl) (.cons (show get _ _ = AV.one _ from rfl) (.nil)), by intro y hy vs e; subst e; simp at hy⟩) rfl rfl rfl ?_⟩
    (repeat' (first | exact TLe.refl _ | exact VLe.refl _ | exact CLe.refl _ | exact All2.nil | refine TLe.tup ?_ | refine TLe.v ?_ | refine All2.cons ?_ ?_ | refine VLe.agg ?_ | refine VLe.one ?_ | exact CLe.nil _ | exact CLe.emp _ | refine CLe.val ?_ | refine CLe.slc ?_ ?_))
  replace h := Md.cond_f h c3
  refine aw_skip ?_
  refine aw_seq ?_
  refine aw_region ?_
  refine aops_step1 rfl (st_move rfl rfl) ?_
  refine aops_step1 rfl (st_conv_int rfl rfl Try.underlying3 Try.underlying5 (Md.ofInt_u8 a0)) ?_
  refine aops_step1 rfl (st_slice_lit (el := lsEl byC [(65 : UInt8), (71 : UInt8), (UInt8.ofInt a0)]) 0 rfl rfl rfl rfl rfl rfl rfl rfl (lit_el byC 1 [(65 : UInt8), (71 : UInt8), (UInt8.ofInt a0)] (fun _ => rfl)) rfl) ?_
  refine aops_step1 rfl (st_move rfl rfl) ?_
  refine aops_step1 rfl (ev_len_slc rfl rfl) ?_
  refine aops_step1 rfl (st_conv_int rfl rfl Try.underlying3 Try.underlying61 (Md.ofNat_u64 a1.length)) ?_
  obtain ⟨x4, hx4, h⟩ := Md.bind_s h
  refine aops_step1 rfl (st_call_r (r' := .one (.own 1)) 1 rfl (actorgridref1_Uint_fn k (UInt64.ofNat a1.length) x4 hx4) rfl [] (by repeat' (first | exact All2.nil | refine All2.cons ?_ ?_ | refine ArgV.one ?_ | refine ArgV.agg ?_ | exact ArgC.mk rfl | exact ArgC.lend rfl (by simp) | exact ArgC.le (CLe.nil _) rfl | exact ArgC.le (CLe.emp _) rfl | exact ArgC.le (CLe.any _) rfl)) rfl rfl rfl (.inl rfl) rfl rfl) ?_
  obtain ⟨g5, h⟩ := Md.ifp_s h
  refine aops_step1 rfl (st_app_ls (f := byC) [(65 : UInt8), (71 : UInt8), (UInt8.ofInt a0)] x4 (fun _ => rfl) rfl rfl (.inr ⟨_, _, rfl, rfl⟩) (by omega) (by omega) rfl) ?_
  refine aops_step1 rfl (st_assign rfl rfl) ?_
  refine aops_nil ?_
  refine aw_seq ?_
  refine aw_region ?_
  refine aops_step1 rfl (st_move rfl rfl) ?_
  refine aops_step1 rfl (st_move rfl rfl) ?_
  obtain ⟨g6, h⟩ := Md.ifp_s h
  refine aops_step1 rfl (st_app_ls (f := byC) ([(65 : UInt8), (71 : UInt8), (UInt8.ofInt a0)] ++ x4) a1 (fun _ => rfl) rfl rfl (.inl rfl) (by omega) (by omega) rfl) ?_
  refine aops_step1 rfl (st_assign rfl rfl) ?_
  refine aops_nil ?_
  refine aw_seq ?_
  refine aw_region ?_
  refine aops_step1 rfl (st_move rfl rfl) ?_
  refine aops_step1 rfl (st_move rfl rfl) ?_
  obtain ⟨x7, hx7, h⟩ := Md.bind_s h
  refine aops_step1 rfl (ev_call_v (actorgridref1_Checksum_fn k (([(65 : UInt8), (71 : UInt8), (UInt8.ofInt a0)] ++ x4) ++ a1) x7 hx7) rfl [0] (by repeat' (first | exact All2.nil | refine All2.cons ?_ ?_ | refine ArgV.one ?_ | refine ArgV.agg ?_ | exact ArgC.mk rfl | exact ArgC.lend rfl (by simp) | exact ArgC.le (CLe.nil _) rfl | exact ArgC.le (CLe.emp _) rfl | exact ArgC.le (CLe.any _) rfl)) rfl rfl rfl (.inr rfl) rfl) ?_
  obtain ⟨x8, hx8, h⟩ := Md.bind_s h
  refine aops_step1 rfl (st_call_r (r' := .one (.own 2)) 2 rfl (actorgridref1_Low_fn k x7 x8 hx8) rfl [] (by repeat' (first | exact All2.nil | refine All2.cons ?_ ?_ | refine ArgV.one ?_ | refine ArgV.agg ?_ | exact ArgC.mk rfl | exact ArgC.lend rfl (by simp) | exact ArgC.le (CLe.nil _) rfl | exact ArgC.le (CLe.emp _) rfl | exact ArgC.le (CLe.any _) rfl)) rfl rfl rfl (.inl rfl) rfl rfl) ?_
  obtain ⟨g9, h⟩ := Md.ifp_s h
  refine aops_step1 rfl (st_app_ls (f := byC) (([(65 : UInt8), (71 : UInt8), (UInt8.ofInt a0)] ++ x4) ++ a1) x8 (fun _ => rfl) rfl rfl (.inr ⟨_, _, rfl, rfl⟩) (by omega) (by omega) rfl) ?_
  refine aops_step1 rfl (st_assign rfl rfl) ?_
  refine aops_step1 rfl (st_assign rfl rfl) ?_
  refine aops_nil ?_
  cases Option.some.inj h
  refine aw_freeze 0 rfl ?_
  refine aw_ret ⟨rfl, ret_v (.inr ⟨by decide, _, rfl, .cons (show get _ _ = AV.one _ from rfl) (.cons (show get _ _ = AV.one _ from rfl) (.nil)), by intro y hy vs e; subst e; simp at hy⟩) rfl rfl rfl ?_⟩
  (repeat' (first | exact TLe.refl _ | exact VLe.refl _ | exact CLe.refl _ | exact All2.nil | refine TLe.tup ?_ | refine TLe.v ?_ | refine All2.cons ?_ ?_ | refine VLe.agg ?_ | refine VLe.one ?_ | exact CLe.nil _ | exact CLe.emp _ | refine CLe.val ?_ | refine CLe.slc ?_ ?_))
set_option maxHeartbeats 2000000 in
theorem actorgridref1_Open_fn (k : Nat) (a0 : List UInt8) (r : Int × (List UInt8) × Int × Int) (h : actorgridref1_Open k a0 = some r) : FnC Try.prog 33 [.one (CV.ls byC a0)] [] (Det (.tup [.one (.val (.int .i64 r.1)), .one (CV.ls byC r.2.1), .one (.val (.int .i64 r.2.2.1)), .one (.val (.int .i64 r.2.2.2))]) []) := by
  unfold actorgridref1_Open at h
  refine fn_intro' 81 Try.func33 rfl rfl rfl ?_
  refine aw_seq ?_
  refine aw_region ?_
  refine aops_step1 rfl (st_assign rfl rfl) ?_
  refine aops_step1 rfl (st_assign rfl rfl) ?_
  refine aops_step1 rfl (st_assign rfl rfl) ?_
  refine aops_step1 rfl (st_assign rfl rfl) ?_
  refine aops_nil ?_
  refine aw_seq ?_
  refine aw_seq ?_
  refine aw_region ?_
  refine aops_step1 rfl (st_move rfl rfl) ?_
  refine aops_step1 rfl (ev_len_slc rfl rfl) ?_
  refine aops_step1 rfl (ev_cmp rfl rfl rfl rfl) ?_
  refine aops_nil ?_
  refine aw_cond rfl (fun c1 => ?_) (fun c1 => ?_)
  · replace h := Md.cond_t h c1
    refine aw_seq ?_
    refine aw_region ?_
    refine aops_step1 rfl (st_assign rfl rfl) ?_
    refine aops_step1 rfl (st_assign rfl rfl) ?_
    refine aops_step1 rfl (st_assign rfl rfl) ?_
    refine aops_step1 rfl (st_assign rfl rfl) ?_
    refine aops_nil ?_
    cases Option.some.inj h
    refine aw_ret ⟨rfl, ret_v (.inr ⟨by decide, _, rfl, .cons (show get _ _ = AV.one _ from rfl) (.cons (show get _ _ = AV.one _ from rfl) (.cons (show get _ _ = AV.one _ from rfl) (.cons (show get _ _ = AV.one _ from rfl) (.nil)))), by intro y hy vs e; subst e; simp at hy⟩) rfl rfl rfl ?_⟩
    (repeat' (first | exact TLe.refl _ | exact VLe.refl _ | exact CLe.refl _ | exact All2.nil | refine TLe.tup ?_ | refine TLe.v ?_ | refine All2.cons ?_ ?_ | refine VLe.agg ?_ | refine VLe.one ?_ | exact CLe.nil _ | exact CLe.emp _ | refine CLe.val ?_ | refine CLe.slc ?_ ?_))
  replace h := Md.cond_f h c1
  refine aw_skip ?_
  refine aw_seq ?_
  refine aw_seq ?_
  refine aw_region ?_
  refine aops_step1 rfl (st_move rfl rfl) ?_
  obtain ⟨g2, h⟩ := Md.ifp_s h
  refine aops_step1 rfl (ev_index_in rfl rfl rfl g2 rfl rfl) ?_
  refine aops_step1 rfl (ev_load_in rfl rfl rfl) ?_
  refine aops_step1 rfl (ev_cmp rfl rfl rfl rfl) ?_
  refine aops_step1 rfl (st_move rfl rfl) ?_
  obtain ⟨o3, j3, h⟩ := Md.bind_s h
  refine aops_cut 5 (ε := Bool) (fun x3 => (⟨81, [], [(0, .one (CV.ls byC a0)), (23, .one (.val (.bool x3)))], []⟩ : ASt)) (fun x3 => x3 = o3) ?_ ?_
  · intro x3 hI3
    subst hI3
    change AOps _ _ _ (⟨81, [], [(0, .one (CV.ls byC a0)), (23, .one (.val (.bool x3)))], []⟩ : ASt) _
    refine aops_step1 rfl (st_move rfl rfl) ?_
    obtain ⟨o4, j4, h⟩ := Md.bind_s h
    refine aops_cut 5 (ε := Bool) (fun x4 => (⟨81, [], [(0, .one (CV.ls byC a0)), (29, .one (.val (.bool x4)))], []⟩ : ASt)) (fun x4 => x4 = o4) ?_ ?_
    · intro x4 hI4
      subst hI4
      change AOps _ _ _ (⟨81, [], [(0, .one (CV.ls byC a0)), (29, .one (.val (.bool x4)))], []⟩ : ASt) _
      refine aops_nil ?_
      refine aw_cond rfl (fun c5 => ?_) (fun c5 => ?_)
      · replace h := Md.cond_t h c5
        refine aw_seq ?_
        refine aw_region ?_
        refine aops_step1 rfl (st_assign rfl rfl) ?_
        refine aops_step1 rfl (st_assign rfl rfl) ?_
        refine aops_step1 rfl (st_assign rfl rfl) ?_
        refine aops_step1 rfl (st_assign rfl rfl) ?_
        refine aops_nil ?_
        cases Option.some.inj h
        refine aw_ret ⟨rfl, ret_v (.inr ⟨by decide, _, rfl, .cons (show get _ _ = AV.one _ from rfl) (.cons (show get _ _ = AV.one _ from rfl) (.cons (show get _ _ = AV.one _ from rfl) (.cons (show get _ _ = AV.one _ from rfl) (.nil)))), by intro y hy vs e; subst e; simp at hy⟩) rfl rfl rfl ?_⟩
        (repeat' (first | exact TLe.refl _ | exact VLe.refl _ | exact CLe.refl _ | exact All2.nil | refine TLe.tup ?_ | refine TLe.v ?_ | refine All2.cons ?_ ?_ | refine VLe.agg ?_ | refine VLe.one ?_ | exact CLe.nil _ | exact CLe.emp _ | refine CLe.val ?_ | refine CLe.slc ?_ ?_))
      replace h := Md.cond_f h c5
      refine aw_skip ?_
      refine aw_seq ?_
      refine aw_region ?_
      refine aops_step1 rfl (st_move rfl rfl) ?_
      obtain ⟨g6, h⟩ := Md.ifp_s h
      refine aops_step1 rfl (st_cut_lo (f := byC) (fun _ => rfl) rfl ⟨_, _, rfl, rfl⟩ g6 rfl) ?_
      obtain ⟨x7, hx7, h⟩ := Md.bind_s h
      refine aops_step1 rfl (ev_call_v (actorgridref1_ReadUint_fn k (a0.drop 3) x7 hx7) rfl [] (by repeat' (first | exact All2.nil | refine All2.cons ?_ ?_ | refine ArgV.one ?_ | refine ArgV.agg ?_ | exact ArgC.mk rfl | exact ArgC.lend rfl (by simp) | exact ArgC.le (CLe.nil _) rfl | exact ArgC.le (CLe.emp _) rfl | exact ArgC.le (CLe.any _) rfl)) rfl rfl rfl (.inl rfl) rfl) ?_
      refine aops_step1 rfl (st_movet rfl rfl) ?_
      refine aops_step1 rfl (ev_extract rfl rfl rfl) ?_
      refine aops_step1 rfl (ev_extract rfl rfl rfl) ?_
      refine aops_step1 rfl (ev_extract rfl rfl rfl) ?_
      refine aops_step1 rfl (st_assign rfl rfl) ?_
      refine aops_step1 rfl (st_assign rfl rfl) ?_
      refine aops_step1 rfl (st_assign rfl rfl) ?_
      refine aops_nil ?_
      refine aw_seq ?_
      refine aw_seq ?_
      refine aw_region ?_
      refine aops_step1 rfl (st_move rfl rfl) ?_
      refine aops_step1 rfl (ev_cmp rfl rfl rfl rfl) ?_
      refine aops_nil ?_
      refine aw_cond rfl (fun c8 => ?_) (fun c8 => ?_)
      · replace h := Md.cond_t h c8
        refine aw_seq ?_
        refine aw_region ?_
        refine aops_step1 rfl (st_move rfl rfl) ?_
        refine aops_step1 rfl (st_assign rfl rfl) ?_
        refine aops_step1 rfl (st_assign rfl rfl) ?_
        refine aops_step1 rfl (st_assign rfl rfl) ?_
        refine aops_step1 rfl (st_assign rfl rfl) ?_
        refine aops_nil ?_
        cases Option.some.inj h
        refine aw_ret ⟨rfl, ret_v (.inr ⟨by decide, _, rfl, .cons (show get _ _ = AV.one _ from rfl) (.cons (show get _ _ = AV.one _ from rfl) (.cons (show get _ _ = AV.one _ from rfl) (.cons (show get _ _ = AV.one _ from rfl) (.nil)))), by intro y hy vs e; subst e; simp at hy⟩) rfl rfl rfl ?_⟩
        (repeat' (first | exact TLe.refl _ | exact VLe.refl _ | exact CLe.refl _ | exact All2.nil | refine TLe.tup ?_ | refine TLe.v ?_ | refine All2.cons ?_ ?_ | refine VLe.agg ?_ | refine VLe.one ?_ | exact CLe.nil _ | exact CLe.emp _ | refine CLe.val ?_ | refine CLe.slc ?_ ?_))
      replace h := Md.cond_f h c8
      refine aw_skip ?_
      refine aw_seq ?_
      refine aw_seq ?_
      refine aw_region ?_
      refine aops_step1 rfl (st_move rfl rfl) ?_
      refine aops_step1 rfl (ev_cmp rfl rfl rfl rfl) ?_
      refine aops_nil ?_
      refine aw_cond rfl (fun c9 => ?_) (fun c9 => ?_)
      · replace h := Md.cond_t h c9
        refine aw_seq ?_
        refine aw_region ?_
        refine aops_step1 rfl (st_assign rfl rfl) ?_
        refine aops_step1 rfl (st_assign rfl rfl) ?_
        refine aops_step1 rfl (st_assign rfl rfl) ?_
        refine aops_step1 rfl (st_assign rfl rfl) ?_
        refine aops_nil ?_
        cases Option.some.inj h
        refine aw_ret ⟨rfl, ret_v (.inr ⟨by decide, _, rfl, .cons (show get _ _ = AV.one _ from rfl) (.cons (show get _ _ = AV.one _ from rfl) (.cons (show get _ _ = AV.one _ from rfl) (.cons (show get _ _ = AV.one _ from rfl) (.nil)))), by intro y hy vs e; subst e; simp at hy⟩) rfl rfl rfl ?_⟩
        (repeat' (first | exact TLe.refl _ | exact VLe.refl _ | exact CLe.refl _ | exact All2.nil | refine TLe.tup ?_ | refine TLe.v ?_ | refine All2.cons ?_ ?_ | refine VLe.agg ?_ | refine VLe.one ?_ | exact CLe.nil _ | exact CLe.emp _ | refine CLe.val ?_ | refine CLe.slc ?_ ?_))
      replace h := Md.cond_f h c9
      refine aw_skip ?_
      refine aw_seq ?_
      refine aw_region ?_
      refine aops_step1 rfl (st_move rfl rfl) ?_
      refine aops_step1 rfl (ev_add rfl rfl rfl (Md.wrap_W _)) ?_
      refine aops_step1 rfl (st_assign rfl rfl) ?_
      refine aops_nil ?_
      refine aw_seq ?_
      refine aw_seq ?_
      refine aw_region ?_
      refine aops_step1 rfl (st_move rfl rfl) ?_
      refine aops_step1 rfl (ev_len_slc rfl rfl) ?_
      refine aops_step1 rfl (st_move rfl rfl) ?_
      refine aops_step1 rfl (ev_sub rfl rfl rfl (Md.wrap_W _)) ?_
      refine aops_step1 rfl (st_move rfl rfl) ?_
      refine aops_step1 rfl (st_conv_int rfl rfl Try.underlying61 Try.underlying3 (Md.wrap_W _)) ?_
      refine aops_step1 rfl (ev_add rfl rfl rfl (Md.wrap_W _)) ?_
      refine aops_step1 rfl (ev_cmp rfl rfl rfl rfl) ?_
      refine aops_nil ?_
      refine aw_cond rfl (fun c10 => ?_) (fun c10 => ?_)
      · replace h := Md.cond_t h c10
        refine aw_seq ?_
        refine aw_region ?_
        refine aops_step1 rfl (st_assign rfl rfl) ?_
        refine aops_step1 rfl (st_assign rfl rfl) ?_
        refine aops_step1 rfl (st_assign rfl rfl) ?_
        refine aops_step1 rfl (st_assign rfl rfl) ?_
        refine aops_nil ?_
        cases Option.some.inj h
        refine aw_ret ⟨rfl, ret_v (.inr ⟨by decide, _, rfl, .cons (show get _ _ = AV.one _ from rfl) (.cons (show get _ _ = AV.one _ from rfl) (.cons (show get _ _ = AV.one _ from rfl) (.cons (show get _ _ = AV.one _ from rfl) (.nil)))), by intro y hy vs e; subst e; simp at hy⟩) rfl rfl rfl ?_⟩
        (repeat' (first | exact TLe.refl _ | exact VLe.refl _ | exact CLe.refl _ | exact All2.nil | refine TLe.tup ?_ | refine TLe.v ?_ | refine All2.cons ?_ ?_ | refine VLe.agg ?_ | refine VLe.one ?_ | exact CLe.nil _ | exact CLe.emp _ | refine CLe.val ?_ | refine CLe.slc ?_ ?_))
      replace h := Md.cond_f h c10
      refine aw_skip ?_
      refine aw_seq ?_
      refine aw_region ?_
      refine aops_step1 rfl (st_move rfl rfl) ?_
      refine aops_step1 rfl (st_move rfl rfl) ?_
      refine aops_step1 rfl (st_conv_int rfl rfl Try.underlying61 Try.underlying3 (Md.wrap_W _)) ?_
      refine aops_step1 rfl (ev_add rfl rfl rfl (Md.wrap_W _)) ?_
      refine aops_step1 rfl (st_assign rfl rfl) ?_
      refine aops_nil ?_
      refine aw_seq ?_
      obtain ⟨g11, h⟩ := Md.ifp_s h
      obtain ⟨g12, h⟩ := Md.ifp_s h
      obtain ⟨x13, hx13, h⟩ := Md.bind_s h
      obtain ⟨x14, hx14, h⟩ := Md.bind_s h
      obtain ⟨g15, h⟩ := Md.ifp_s h
      obtain ⟨g16, h⟩ := Md.ifp_s h
      obtain ⟨g17, h⟩ := Md.ifp_s h
      refine aw_seq ?_
      apply aw_draw 12 ((⟨[], .one (CV.ls byC a0)⟩ : Add) :: ⟨[], .one (.val (.int .i64 (Md.W ((Md.W (3 + x7.2.1)) + (Md.W (x7.1.toNat : Int))))))⟩ :: ⟨[], .one (CV.ls byC (a0.take (((Md.W ((Md.W (3 + x7.2.1)) + (Md.W (x7.1.toNat : Int))))).toNat)))⟩ :: ⟨[], .one (.val (.int .u32 (x13.toNat : Int)))⟩ :: ⟨[], .one (CV.ls byC x14)⟩ :: ⟨[], .one (.val (Sv x14))⟩ :: ⟨[], .one (CV.ls byC a0)⟩ :: ⟨[], .one (.val (.int .i64 (Md.W ((Md.W (3 + x7.2.1)) + (Md.W (x7.1.toNat : Int))))))⟩ :: ⟨[], .one (.val (.int .i64 (Md.W ((Md.W (3 + x7.2.1)) + (Md.W (x7.1.toNat : Int))))))⟩ :: ⟨[], .one (.val (.int .i64 (Md.W ((Md.W ((Md.W (3 + x7.2.1)) + (Md.W (x7.1.toNat : Int)))) + 4))))⟩ :: ⟨[], .one (CV.ls byC ((a0.drop (((Md.W ((Md.W (3 + x7.2.1)) + (Md.W (x7.1.toNat : Int))))).toNat)).take (((Md.W ((Md.W ((Md.W (3 + x7.2.1)) + (Md.W (x7.1.toNat : Int)))) + 4))).toNat - (((Md.W ((Md.W (3 + x7.2.1)) + (Md.W (x7.1.toNat : Int))))).toNat))))⟩ :: ⟨[], .one (.val (Sv ((a0.drop (((Md.W ((Md.W (3 + x7.2.1)) + (Md.W (x7.1.toNat : Int))))).toNat)).take (((Md.W ((Md.W ((Md.W (3 + x7.2.1)) + (Md.W (x7.1.toNat : Int)))) + 4))).toNat - (((Md.W ((Md.W (3 + x7.2.1)) + (Md.W (x7.1.toNat : Int))))).toNat)))))⟩ :: []) (by decide) rfl ?hk1x ?hf1x ?ho1x ?hr1x
      case ho1x =>
       refine ⟨⟨[], (by decide +kernel), fun S hle hfr => ?_⟩, ?_⟩
       · exact .inl ⟨.inl ⟨rfl, rfl⟩, st_move (hle.ev rfl (by nofun)) (hle.d rfl)⟩
       refine ⟨⟨[], (by decide +kernel), fun S hle hfr => ?_⟩, ?_⟩
       · exact .inl ⟨.inl ⟨rfl, rfl⟩, st_move (hle.ev rfl (by nofun)) (hle.d rfl)⟩
       refine ⟨⟨0 :: 1 :: [], (by decide +kernel), fun S hle hfr => ?_⟩, ?_⟩
       · exact .inl ⟨.inl ⟨rfl, rfl⟩, st_cut_hi (f := byC) (fun _ => rfl) (hle.ev rfl (by nofun)) ⟨_, _, (hle.ev rfl (by nofun)), (Md.nn_eq g11)⟩ g12 (hle.d rfl)⟩
       refine ⟨⟨2 :: 0 :: 1 :: [], (by decide +kernel), fun S hle hfr => ?_⟩, ?_⟩
       · exact .inl ⟨.inl ⟨rfl, rfl⟩, ev_call_v (actorgridref1_Checksum_fn k (a0.take (((Md.W ((Md.W (3 + x7.2.1)) + (Md.W (x7.1.toNat : Int))))).toNat)) x13 hx13) (map_ev (.cons (hle.ev rfl (by nofun)) (.nil))) [] (by repeat' (first | exact All2.nil | refine All2.cons ?_ ?_ | refine ArgV.one ?_ | refine ArgV.agg ?_ | exact ArgC.mk rfl | exact ArgC.lend (hle.heap _ _ rfl) (by simp) | exact ArgC.le (CLe.nil _) rfl | exact ArgC.le (CLe.emp _) rfl | exact ArgC.le (CLe.any _) rfl)) rfl rfl rfl (.inl rfl) (hle.d rfl)⟩
       refine ⟨⟨3 :: 2 :: 0 :: 1 :: [], (by decide +kernel), fun S hle hfr => ?_⟩, ?_⟩
       · exact .inl ⟨.inl ⟨rfl, rfl⟩, st_call_z (actorgridref1_Low_fn k x13 x14 hx14) (map_ev (.cons (hle.ev rfl (by nofun)) (.nil))) [] (fun _ => (by repeat' (first | exact All2.nil | refine All2.cons ?_ ?_ | refine ArgV.one ?_ | refine ArgV.agg ?_ | exact ArgC.mk rfl | exact ArgC.lend (hle.heap _ _ rfl) (by simp) | exact ArgC.le (CLe.nil _) rfl | exact ArgC.le (CLe.emp _) rfl | exact ArgC.le (CLe.any _) rfl))) rfl (.inl rfl) (hle.d rfl)⟩
       refine ⟨⟨4 :: 3 :: 2 :: 0 :: 1 :: [], (by decide +kernel), fun S hle hfr => ?_⟩, ?_⟩
       · exact .inl ⟨.inl ⟨rfl, rfl⟩, ev_str_bytes (.inl (hle.ev rfl (by nofun))) Try.underlying22 Try.underlying5 Try.underlying9 (hle.d rfl)⟩
       refine ⟨⟨[], (by decide +kernel), fun S hle hfr => ?_⟩, ?_⟩
       · exact .inl ⟨.inl ⟨rfl, rfl⟩, st_move (hle.ev rfl (by nofun)) (hle.d rfl)⟩
       refine ⟨⟨[], (by decide +kernel), fun S hle hfr => ?_⟩, ?_⟩
       · exact .inl ⟨.inl ⟨rfl, rfl⟩, st_move (hle.ev rfl (by nofun)) (hle.d rfl)⟩
       refine ⟨⟨[], (by decide +kernel), fun S hle hfr => ?_⟩, ?_⟩
       · exact .inl ⟨.inl ⟨rfl, rfl⟩, st_move (hle.ev rfl (by nofun)) (hle.d rfl)⟩
       refine ⟨⟨8 :: [], (by decide +kernel), fun S hle hfr => ?_⟩, ?_⟩
       · exact .inl ⟨.inl ⟨rfl, rfl⟩, ev_add (hle.ev rfl (by nofun)) (hle.ev rfl (by nofun)) (hle.d rfl) (Md.wrap_W _)⟩
       refine ⟨⟨6 :: 7 :: 9 :: 8 :: [], (by decide +kernel), fun S hle hfr => ?_⟩, ?_⟩
       · exact .inl ⟨.inl ⟨rfl, rfl⟩, st_cut_both (f := byC) (fun _ => rfl) (hle.ev rfl (by nofun)) ⟨_, _, (hle.ev rfl (by nofun)), (Md.nn_eq g15)⟩ ⟨_, _, (hle.ev rfl (by nofun)), (Md.nn_eq g16)⟩ g17 (hle.d rfl)⟩
       refine ⟨⟨10 :: 6 :: 7 :: 9 :: 8 :: [], (by decide +kernel), fun S hle hfr => ?_⟩, ?_⟩
       · exact .inl ⟨.inl ⟨rfl, rfl⟩, ev_str_bytes (.inl (hle.ev rfl (by nofun))) Try.underlying22 Try.underlying5 Try.underlying9 (hle.d rfl)⟩
       exact trivial
      case hk1x => rfl
      case hf1x => rfl
      refine aops_step1 rfl (st_str_ne rfl rfl rfl) ?_
      refine aops_nil ?_
      refine aw_cond rfl (fun c18 => ?_) (fun c18 => ?_)
      · replace h := Md.cond_t h c18
        refine aw_seq ?_
        refine aw_region ?_
        refine aops_step1 rfl (st_assign rfl rfl) ?_
        refine aops_step1 rfl (st_assign rfl rfl) ?_
        refine aops_step1 rfl (st_assign rfl rfl) ?_
        refine aops_step1 rfl (st_assign rfl rfl) ?_
        refine aops_nil ?_
        cases Option.some.inj h
        refine aw_ret ⟨rfl, ret_v (.inr ⟨by decide, _, rfl, .cons (show get _ _ = AV.one _ from rfl) (.cons (show get _ _ = AV.one _ from rfl) (.cons (show get _ _ = AV.one _ from rfl) (.cons (show get _ _ = AV.one _ from rfl) (.nil)))), by intro y hy vs e; subst e; simp at hy⟩) rfl rfl rfl ?_⟩
        (repeat' (first | exact TLe.refl _ | exact VLe.refl _ | exact CLe.refl _ | exact All2.nil | refine TLe.tup ?_ | refine TLe.v ?_ | refine All2.cons ?_ ?_ | refine VLe.agg ?_ | refine VLe.one ?_ | exact CLe.nil _ | exact CLe.emp _ | refine CLe.val ?_ | refine CLe.slc ?_ ?_))
      replace h := Md.cond_f h c18
      refine aw_skip ?_
      obtain ⟨g19, h⟩ := Md.ifp_s h
      obtain ⟨g20, h⟩ := Md.ifp_s h
      obtain ⟨g21, h⟩ := Md.ifp_s h
      obtain ⟨g22, h⟩ := Md.ifp_s h
      obtain ⟨g23, h⟩ := Md.ifp_s h
      refine aw_seq ?_
      apply aw_draw 14 ((⟨[], .one (CV.ls byC a0)⟩ : Add) :: ⟨[], .one (.cptr _)⟩ :: ⟨[], .one (.val (.int .u8 (((a0.getD 2 default)).toNat : Int)))⟩ :: ⟨[], .one (.val (.int .i64 (((a0.getD 2 default).toNat : Nat) : Int)))⟩ :: ⟨[], .one (.emp0)⟩ :: ⟨[], .one (CV.ls byC a0)⟩ :: ⟨[], .one (.val (.int .i64 (Md.W (3 + x7.2.1))))⟩ :: ⟨[], .one (.val (.int .i64 (Md.W ((Md.W (3 + x7.2.1)) + (Md.W (x7.1.toNat : Int))))))⟩ :: ⟨[], .one (CV.ls byC ((a0.drop (((Md.W (3 + x7.2.1))).toNat)).take (((Md.W ((Md.W (3 + x7.2.1)) + (Md.W (x7.1.toNat : Int))))).toNat - (((Md.W (3 + x7.2.1))).toNat))))⟩ :: ⟨[], .one (CV.ls byC ((a0.drop (((Md.W (3 + x7.2.1))).toNat)).take (((Md.W ((Md.W (3 + x7.2.1)) + (Md.W (x7.1.toNat : Int))))).toNat - (((Md.W (3 + x7.2.1))).toNat))))⟩ :: ⟨[], .one (.val (.int .i64 (Md.W ((Md.W (3 + x7.2.1)) + (Md.W (x7.1.toNat : Int))))))⟩ :: ⟨[], .one (.val (.int .i64 (Md.W ((Md.W ((Md.W (3 + x7.2.1)) + (Md.W (x7.1.toNat : Int)))) + 4))))⟩ :: ⟨[], .one (.val (.int .i64 (((a0.getD 2 default).toNat : Nat) : Int)))⟩ :: ⟨[], .one (CV.ls byC ((a0.drop (((Md.W (3 + x7.2.1))).toNat)).take (((Md.W ((Md.W (3 + x7.2.1)) + (Md.W (x7.1.toNat : Int))))).toNat - (((Md.W (3 + x7.2.1))).toNat))))⟩ :: []) (by decide) rfl ?hk2x ?hf2x ?ho2x ?hr2x
      case ho2x =>
       refine ⟨⟨[], (by decide +kernel), fun S hle hfr => ?_⟩, ?_⟩
       · exact .inl ⟨.inl ⟨rfl, rfl⟩, st_move (hle.ev rfl (by nofun)) (hle.d rfl)⟩
       refine ⟨⟨0 :: [], (by decide +kernel), fun S hle hfr => ?_⟩, ?_⟩
       · exact .inl ⟨.inl ⟨rfl, rfl⟩, ev_index_in (hle.ev rfl (by nofun)) (hle.ev rfl (by nofun)) rfl g19 rfl (hle.d rfl)⟩
       refine ⟨⟨1 :: 0 :: [], (by decide +kernel), fun S hle hfr => ?_⟩, ?_⟩
       · exact .inl ⟨.inl ⟨rfl, rfl⟩, ev_load_in (hle.ev rfl (by nofun)) rfl (hle.d rfl)⟩
       refine ⟨⟨2 :: 1 :: 0 :: [], (by decide +kernel), fun S hle hfr => ?_⟩, ?_⟩
       · exact .inl ⟨.inl ⟨rfl, rfl⟩, st_conv_int (hle.ev rfl (by nofun)) (hle.d rfl) Try.underlying5 Try.underlying3 (Md.conv_u8_i64 (a0.getD 2 default))⟩
       refine ⟨⟨[], (by decide +kernel), fun S hle hfr => ?_⟩, ?_⟩
       · exact .inl ⟨.inl ⟨rfl, rfl⟩, st_slice_emp (hle.d rfl)⟩
       refine ⟨⟨[], (by decide +kernel), fun S hle hfr => ?_⟩, ?_⟩
       · exact .inl ⟨.inl ⟨rfl, rfl⟩, st_move (hle.ev rfl (by nofun)) (hle.d rfl)⟩
       refine ⟨⟨[], (by decide +kernel), fun S hle hfr => ?_⟩, ?_⟩
       · exact .inl ⟨.inl ⟨rfl, rfl⟩, st_move (hle.ev rfl (by nofun)) (hle.d rfl)⟩
       refine ⟨⟨[], (by decide +kernel), fun S hle hfr => ?_⟩, ?_⟩
       · exact .inl ⟨.inl ⟨rfl, rfl⟩, st_move (hle.ev rfl (by nofun)) (hle.d rfl)⟩
       refine ⟨⟨5 :: 6 :: 7 :: [], (by decide +kernel), fun S hle hfr => ?_⟩, ?_⟩
       · exact .inl ⟨.inl ⟨rfl, rfl⟩, st_cut_both (f := byC) (fun _ => rfl) (hle.ev rfl (by nofun)) ⟨_, _, (hle.ev rfl (by nofun)), (Md.nn_eq g20)⟩ ⟨_, _, (hle.ev rfl (by nofun)), (Md.nn_eq g21)⟩ g22 (hle.d rfl)⟩
       refine ⟨⟨4 :: 8 :: 5 :: 6 :: 7 :: [], (by decide +kernel), fun S hle hfr => ?_⟩, ?_⟩
       · exact .inl ⟨.inl ⟨rfl, rfl⟩, st_app_emp_z (f := byC) ((a0.drop (((Md.W (3 + x7.2.1))).toNat)).take (((Md.W ((Md.W (3 + x7.2.1)) + (Md.W (x7.1.toNat : Int))))).toNat - (((Md.W (3 + x7.2.1))).toNat))) (fun _ => rfl) (hle.ev rfl (by nofun)) (.inl (hle.ev rfl (by nofun))) (by omega) (by omega) (hle.d rfl)⟩
       refine ⟨⟨[], (by decide +kernel), fun S hle hfr => ?_⟩, ?_⟩
       · exact .inl ⟨.inl ⟨rfl, rfl⟩, st_move (hle.ev rfl (by nofun)) (hle.d rfl)⟩
       refine ⟨⟨10 :: [], (by decide +kernel), fun S hle hfr => ?_⟩, ?_⟩
       · exact .inl ⟨.inl ⟨rfl, rfl⟩, ev_add (hle.ev rfl (by nofun)) (hle.ev rfl (by nofun)) (hle.d rfl) (Md.wrap_W _)⟩
       refine ⟨⟨3 :: 9 :: 0 :: 1 :: 2 :: 4 :: 8 :: 5 :: 6 :: 7 :: [], (by decide +kernel), fun S hle hfr => ?_⟩, ?_⟩
       · exact .inl ⟨.inl ⟨rfl, rfl⟩, st_assign (hle.ev rfl (by nofun)) (hle.d rfl)⟩
       refine ⟨⟨9 :: 12 :: 0 :: 1 :: 2 :: 3 :: 4 :: 5 :: 6 :: 7 :: 8 :: [], (by decide +kernel), fun S hle hfr => ?_⟩, ?_⟩
       · exact .inl ⟨.inl ⟨rfl, rfl⟩, st_assign (hle.ev rfl (by nofun)) (hle.d rfl)⟩
       exact trivial
      case hk2x => rfl
      case hf2x => rfl
      refine aops_step1 rfl (st_assign rfl rfl) ?_
      refine aops_step1 rfl (st_assign rfl rfl) ?_
      refine aops_nil ?_
      cases Option.some.inj h
      refine aw_ret ⟨rfl, ret_v (.inr ⟨by decide, _, rfl, .cons (show get _ _ = AV.one _ from rfl) (.cons (show get _ _ = AV.one _ from rfl) (.cons (show get _ _ = AV.one _ from rfl) (.cons (show get _ _ = AV.one _ from rfl) (.nil)))), by intro y hy vs e; subst e; simp at hy⟩) rfl rfl rfl ?_⟩
      (repeat' (first | exact TLe.refl _ | exact VLe.refl _ | exact CLe.refl _ | exact All2.nil | refine TLe.tup ?_ | refine TLe.v ?_ | refine All2.cons ?_ ?_ | refine VLe.agg ?_ | refine VLe.one ?_ | exact CLe.nil _ | exact CLe.emp _ | refine CLe.val ?_ | refine CLe.slc ?_ ?_))
    rcases Md.bool_or (x3) with q4 | q4
    · replace j4 := Md.cond_t j4 q4
      refine aops_no rfl rfl rfl rfl rfl (by first | decide | (rw [q4]; decide)) ?_
      refine aops_no rfl rfl rfl rfl rfl (by first | decide | (rw [q4]; decide)) ?_
      refine aops_no rfl rfl rfl rfl rfl (by first | decide | (rw [q4]; decide)) ?_
      refine aops_no rfl rfl rfl rfl rfl (by first | decide | (rw [q4]; decide)) ?_
      refine aops_step1 rfl (st_pick_yes rfl (by first | rfl | exact q4) rfl rfl) ?_
      refine aops_nil ?_
      show ∃ _x : Bool, _ = _ ∧ Weak _ _
      exact ⟨true, Option.some.inj j4, (by (refine weak_mk rfl rfl ?_ ?_ rfl <;> repeat' (first | exact trivial | refine ⟨?_, ?_⟩ | exact VLe.refl _ | exact BLe.refl _ | refine VLe.one (CLe.val ?_) | exact VLe.one (CLe.nil _) | exact VLe.one (CLe.emp _))))⟩
    replace j4 := Md.cond_f j4 q4
    refine aops_yes rfl rfl rfl rfl q4 (st_move rfl rfl) ?_
    obtain ⟨g24, j4⟩ := Md.ifp_s j4
    refine aops_yes rfl rfl rfl rfl q4 (ev_index_in rfl rfl rfl g24 rfl rfl) ?_
    refine aops_yes rfl rfl rfl rfl q4 (ev_load_in rfl rfl rfl) ?_
    refine aops_yes rfl rfl rfl rfl q4 (ev_cmp rfl rfl rfl rfl) ?_
    refine aops_step1 rfl (st_pick_no rfl (by first | rfl | exact q4) rfl rfl) ?_
    refine aops_nil ?_
    show ∃ _x : Bool, _ = _ ∧ Weak _ _
    exact ⟨((((a0.getD 2 default)).toNat : Int) == 0), Option.some.inj j4, (by (refine weak_mk rfl rfl ?_ ?_ rfl <;> repeat' (first | exact trivial | refine ⟨?_, ?_⟩ | exact VLe.refl _ | exact BLe.refl _ | refine VLe.one (CLe.val ?_) | exact VLe.one (CLe.nil _) | exact VLe.one (CLe.emp _))))⟩
  rcases Md.bool_or (((((a0.getD 0 default)).toNat : Int) != 65)) with q3 | q3
  · replace j3 := Md.cond_t j3 q3
    refine aops_no rfl rfl rfl rfl rfl (by first | decide | (rw [q3]; decide)) ?_
    refine aops_no rfl rfl rfl rfl rfl (by first | decide | (rw [q3]; decide)) ?_
    refine aops_no rfl rfl rfl rfl rfl (by first | decide | (rw [q3]; decide)) ?_
    refine aops_no rfl rfl rfl rfl rfl (by first | decide | (rw [q3]; decide)) ?_
    refine aops_step1 rfl (st_pick_yes rfl (by first | rfl | exact q3) rfl rfl) ?_
    refine aops_nil ?_
    show ∃ _x : Bool, _ = _ ∧ Weak _ _
    exact ⟨true, Option.some.inj j3, (by (refine weak_mk rfl rfl ?_ ?_ rfl <;> repeat' (first | exact trivial | refine ⟨?_, ?_⟩ | exact VLe.refl _ | exact BLe.refl _ | refine VLe.one (CLe.val ?_) | exact VLe.one (CLe.nil _) | exact VLe.one (CLe.emp _))))⟩
  replace j3 := Md.cond_f j3 q3
  refine aops_yes rfl rfl rfl rfl q3 (st_move rfl rfl) ?_
  obtain ⟨g25, j3⟩ := Md.ifp_s j3
  refine aops_yes rfl rfl rfl rfl q3 (ev_index_in rfl rfl rfl g25 rfl rfl) ?_
  refine aops_yes rfl rfl rfl rfl q3 (ev_load_in rfl rfl rfl) ?_
  refine aops_yes rfl rfl rfl rfl q3 (ev_cmp rfl rfl rfl rfl) ?_
  refine aops_step1 rfl (st_pick_no rfl (by first | rfl | exact q3) rfl rfl) ?_
  refine aops_nil ?_
  show ∃ _x : Bool, _ = _ ∧ Weak _ _
  exact ⟨((((a0.getD 1 default)).toNat : Int) != 71), Option.some.inj j3, (by (refine weak_mk rfl rfl ?_ ?_ rfl <;> repeat' (first | exact trivial | refine ⟨?_, ?_⟩ | exact VLe.refl _ | exact BLe.refl _ | refine VLe.one (CLe.val ?_) | exact VLe.one (CLe.nil _) | exact VLe.one (CLe.emp _))))⟩
end Md
end Go.Proofs.Ytbnjdkpangmneaa
