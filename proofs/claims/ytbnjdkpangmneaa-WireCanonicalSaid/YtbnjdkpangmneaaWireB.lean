/-
  WireB: where a function's model gives a value, the function returns what reads as it (printed by wip/tools/auto.py). Condition of each: the model gives a value.
-/
import Derived.Test.YtbnjdkpangmneaaWireBM
import Derived.Test.YtbnjdkpangmneaaWireA
namespace Go.Proofs.Ytbnjdkpangmneaa
open Go.ChangeShapes Go.WideShapes Go.RowKit
open Abs
set_option linter.unusedVariables false
set_option linter.unusedSimpArgs false
set_option maxRecDepth 10000
namespace Md
set_option maxHeartbeats 2000000 in
theorem wire_Uint_fn (k : Nat) (a0 : List UInt8) (r : UInt64 × Int × Int) (h : wire_Uint k a0 = some r) : FnC Try.prog 40 [.one (CV.ls byC a0)] [] (Det (.tup [.one (.val (.int .u64 (r.1.toNat : Int))), .one (.val (.int .i64 r.2.1)), .one (.val (.int .i64 r.2.2))]) []) := by
  unfold wire_Uint at h
  refine fn_intro' 42 Try.func40 rfl rfl rfl ?_
  refine aw_seq ?_
  refine aw_region ?_
  refine aops_step1 rfl (st_assign rfl rfl) ?_
  refine aops_step1 rfl (st_assign rfl rfl) ?_
  refine aops_step1 rfl (st_assign rfl rfl) ?_
  refine aops_nil ?_
  refine aw_seq ?_
  refine aw_seq ?_
  refine aw_region ?_
  refine aops_step1 rfl (st_move rfl rfl) ?_
  refine aops_step1 rfl (ev_len_slc rfl rfl) ?_
  refine aops_step1 rfl (st_move rfl rfl) ?_
  refine aops_nil ?_
  refine aw_block ?_
  obtain ⟨o1, ho1, h⟩ := Md.bind_s h
  refine aw_loop_x (ι := {p : Nat × UInt64 × Nat // wire_Uint_loop1 k a0 p.1 p.2.1 p.2.2 = some o1}) (fun p => (⟨42, [], [(2, .one (.val (.int .u64 (p.1.2.1.toNat : Int)))), (7, .one (CV.ls byC a0)), (8, .one (.val (.int .i64 ((a0.length : Nat) : Int)))), (9, .one (.val (.int .i64 ((p.1.2.2 : Nat) : Int))))], []⟩ : ASt)) (fun p => p.1.1) ⟨(k, (0 : UInt64), 0), ho1⟩ (by (refine weak_mk rfl rfl ?_ ?_ rfl <;> repeat' (first | exact trivial | refine ⟨?_, ?_⟩ | exact VLe.refl _ | exact BLe.refl _ | refine VLe.one (CLe.val ?_) | exact VLe.one (CLe.nil _) | exact VLe.one (CLe.emp _)))) 0 (ε := Unit) (fun x => (⟨42, [], [], []⟩ : ASt)) (fun x => Sum.inl x = o1) (fun _ _ w h => aw_weak w h) ?_ ?_
  · intro x1_0 hI1
    subst hI1
    replace h := Md.onS_l h
    change AW _ _ (⟨42, [], [], []⟩ : ASt) _
    refine aw_seq ?_
    refine aw_region ?_
    refine aops_step1 rfl (st_assign rfl rfl) ?_
    refine aops_step1 rfl (st_assign rfl rfl) ?_
    refine aops_step1 rfl (st_assign rfl rfl) ?_
    refine aops_nil ?_
    cases Option.some.inj h
    refine aw_ret ⟨rfl, ret_v (.inr ⟨by decide, _, rfl, .cons (show get _ _ = AV.one _ from rfl) (.cons (show get _ _ = AV.one _ from rfl) (.cons (show get _ _ = AV.one _ from rfl) (.nil))), by intro y hy vs e; subst e; simp at hy⟩) rfl rfl rfl ?_⟩
    (repeat' (first | exact TLe.refl _ | exact VLe.refl _ | exact CLe.refl _ | exact All2.nil | refine TLe.tup ?_ | refine TLe.v ?_ | refine All2.cons ?_ ?_ | refine VLe.agg ?_ | refine VLe.one ?_ | exact CLe.nil _ | exact CLe.emp _ | refine CLe.val ?_ | refine CLe.slc ?_ ?_))
  intro p1
  obtain ⟨⟨n1, s1_0, s1_1⟩, l1⟩ := p1
  change AW _ _ (⟨42, [], [(2, .one (.val (.int .u64 (s1_0.toNat : Int)))), (7, .one (CV.ls byC a0)), (8, .one (.val (.int .i64 ((a0.length : Nat) : Int)))), (9, .one (.val (.int .i64 ((s1_1 : Nat) : Int))))], []⟩ : ASt) _
  replace l1 : wire_Uint_loop1 k a0 n1 s1_0 s1_1 = some o1 := l1
  rcases n1 with _ | n1
  · exact absurd (show none = some o1 from l1) nofun
  rw [wire_Uint_loop1] at l1
  refine aw_seq ?_
  refine aw_region ?_
  refine aops_step1 rfl (ev_cmp rfl rfl rfl rfl) ?_
  refine aops_nil ?_
  refine aw_seq ?_
  refine aw_cond rfl (fun c2 => ?_) (fun c2 => ?_)
  · replace l1 := Md.cond_t l1 c2
    refine aw_skip ?_
    refine aw_seq ?_
    refine aw_block ?_
    refine aw_seq ?_
    refine aw_region ?_
    refine aops_step1 rfl (st_move rfl rfl) ?_
    obtain ⟨g3, l1⟩ := Md.ifp_s l1
    refine aops_step1 rfl (ev_index_in rfl rfl rfl g3 rfl rfl) ?_
    refine aops_step1 rfl (ev_load_in rfl rfl rfl) ?_
    refine aops_step1 rfl (st_assign rfl rfl) ?_
    refine aops_step1 rfl (st_assign rfl rfl) ?_
    refine aops_nil ?_
    refine aw_seq ?_
    refine aw_seq ?_
    refine aw_region ?_
    refine aops_step1 rfl (st_move rfl rfl) ?_
    refine aops_step1 rfl (ev_cmp rfl rfl rfl rfl) ?_
    refine aops_step1 rfl (st_move rfl rfl) ?_
    refine aops_mid 3 (⟨42, [], [(2, .one (.val (.int .u64 (s1_0.toNat : Int)))), (5, .one (.val (.int .i64 ((s1_1 : Nat) : Int)))), (6, .one (.val (.int .u8 (((a0.getD s1_1 default)).toNat : Int)))), (7, .one (CV.ls byC a0)), (8, .one (.val (.int .i64 ((a0.length : Nat) : Int)))), (9, .one (.val (.int .i64 ((s1_1 : Nat) : Int)))), (19, .one (.val (.bool ((((s1_1 : Nat) : Int) == 9) && (decide ((((a0.getD s1_1 default)).toNat : Int) > 1))))))], []⟩ : ASt) ?_ ?_
    · rcases Md.bool_or ((((s1_1 : Nat) : Int) == 9)) with q4 | q4
      · skip
        refine aops_yes rfl rfl rfl rfl q4 (st_move rfl rfl) ?_
        refine aops_yes rfl rfl rfl rfl q4 (ev_cmp rfl rfl rfl rfl) ?_
        refine aops_step1 rfl (st_pick_yes rfl (by first | rfl | exact q4) rfl rfl) ?_
        refine aops_nil ?_
        show Weak _ _
        (refine weak_mk rfl rfl ?_ ?_ rfl <;> repeat' (first | exact trivial | refine ⟨?_, ?_⟩ | exact VLe.refl _ | exact BLe.refl _ | refine VLe.one (CLe.val ?_) | exact VLe.one (CLe.nil _) | exact VLe.one (CLe.emp _))) <;> (first | (rw [q4]; done) | (rw [q4]; rfl) | (simp [q4]; done))
      refine aops_no rfl rfl rfl rfl rfl (by first | decide | (rw [q4]; decide)) ?_
      refine aops_no rfl rfl rfl rfl rfl (by first | decide | (rw [q4]; decide)) ?_
      refine aops_step1 rfl (st_pick_no rfl (by first | rfl | exact q4) rfl rfl) ?_
      refine aops_nil ?_
      show Weak _ _
      (refine weak_mk rfl rfl ?_ ?_ rfl <;> repeat' (first | exact trivial | refine ⟨?_, ?_⟩ | exact VLe.refl _ | exact BLe.refl _ | refine VLe.one (CLe.val ?_) | exact VLe.one (CLe.nil _) | exact VLe.one (CLe.emp _))) <;> (first | (rw [q4]; done) | (rw [q4]; rfl) | (simp [q4]; done))
    change AOps _ _ _ (⟨42, [], [(2, .one (.val (.int .u64 (s1_0.toNat : Int)))), (5, .one (.val (.int .i64 ((s1_1 : Nat) : Int)))), (6, .one (.val (.int .u8 (((a0.getD s1_1 default)).toNat : Int)))), (7, .one (CV.ls byC a0)), (8, .one (.val (.int .i64 ((a0.length : Nat) : Int)))), (9, .one (.val (.int .i64 ((s1_1 : Nat) : Int)))), (19, .one (.val (.bool ((((s1_1 : Nat) : Int) == 9) && (decide ((((a0.getD s1_1 default)).toNat : Int) > 1))))))], []⟩ : ASt) _
    refine aops_step1 rfl (st_move rfl rfl) ?_
    refine aops_mid 7 (⟨42, [], [(2, .one (.val (.int .u64 (s1_0.toNat : Int)))), (5, .one (.val (.int .i64 ((s1_1 : Nat) : Int)))), (6, .one (.val (.int .u8 (((a0.getD s1_1 default)).toNat : Int)))), (7, .one (CV.ls byC a0)), (8, .one (.val (.int .i64 ((a0.length : Nat) : Int)))), (9, .one (.val (.int .i64 ((s1_1 : Nat) : Int)))), (27, .one (.val (.bool (((((s1_1 : Nat) : Int) == 9) && (decide ((((a0.getD s1_1 default)).toNat : Int) > 1))) || ((decide (((s1_1 : Nat) : Int) > 0)) && ((((a0.getD s1_1 default)).toNat : Int) == 0))))))], []⟩ : ASt) ?_ ?_
    · rcases Md.bool_or (((((s1_1 : Nat) : Int) == 9) && (decide ((((a0.getD s1_1 default)).toNat : Int) > 1)))) with q5 | q5
      · skip
        refine aops_no rfl rfl rfl rfl rfl (by first | decide | (rw [q5]; decide)) ?_
        refine aops_no rfl rfl rfl rfl rfl (by first | decide | (rw [q5]; decide)) ?_
        refine aops_no rfl rfl rfl rfl rfl (by first | decide | (rw [q5]; decide)) ?_
        refine aops_und rfl rfl rfl rfl rfl ?_
        refine aops_und rfl rfl rfl rfl rfl ?_
        refine aops_no rfl rfl rfl rfl rfl (by first | decide | (rw [q5]; decide)) ?_
        refine aops_step1 rfl (st_pick_yes rfl (by first | rfl | exact q5) rfl rfl) ?_
        refine aops_nil ?_
        show Weak _ _
        (refine weak_mk rfl rfl ?_ ?_ rfl <;> repeat' (first | exact trivial | refine ⟨?_, ?_⟩ | exact VLe.refl _ | exact BLe.refl _ | refine VLe.one (CLe.val ?_) | exact VLe.one (CLe.nil _) | exact VLe.one (CLe.emp _))) <;> (first | (rw [q5]; done) | (rw [q5]; rfl) | (simp [q5]; done))
      refine aops_yes rfl rfl rfl rfl q5 (st_move rfl rfl) ?_
      refine aops_yes rfl rfl rfl rfl q5 (ev_cmp rfl rfl rfl rfl) ?_
      refine aops_yes rfl rfl rfl rfl q5 (st_move rfl rfl) ?_
      refine aops_mid 3 (⟨42, [], [(2, .one (.val (.int .u64 (s1_0.toNat : Int)))), (5, .one (.val (.int .i64 ((s1_1 : Nat) : Int)))), (6, .one (.val (.int .u8 (((a0.getD s1_1 default)).toNat : Int)))), (7, .one (CV.ls byC a0)), (8, .one (.val (.int .i64 ((a0.length : Nat) : Int)))), (9, .one (.val (.int .i64 ((s1_1 : Nat) : Int)))), (20, .one (.val (.bool ((((s1_1 : Nat) : Int) == 9) && (decide ((((a0.getD s1_1 default)).toNat : Int) > 1)))))), (26, .one (.val (.bool ((decide (((s1_1 : Nat) : Int) > 0)) && ((((a0.getD s1_1 default)).toNat : Int) == 0)))))], []⟩ : ASt) ?_ ?_
      · rcases Md.bool_or ((decide (((s1_1 : Nat) : Int) > 0))) with q6 | q6
        · skip
          refine aops_yes rfl rfl rfl rfl q6 (st_move rfl rfl) ?_
          refine aops_yes rfl rfl rfl rfl q6 (ev_cmp rfl rfl rfl rfl) ?_
          refine aops_yes rfl rfl rfl rfl q5 (st_pick_yes rfl (by first | rfl | exact q6) rfl rfl) ?_
          refine aops_nil ?_
          show Weak _ _
          (refine weak_mk rfl rfl ?_ ?_ rfl <;> repeat' (first | exact trivial | refine ⟨?_, ?_⟩ | exact VLe.refl _ | exact BLe.refl _ | refine VLe.one (CLe.val ?_) | exact VLe.one (CLe.nil _) | exact VLe.one (CLe.emp _))) <;> (first | (rw [q6]; done) | (rw [q6]; rfl) | (simp [q6]; done))
        refine aops_no rfl rfl rfl rfl rfl (by first | decide | (rw [q6]; decide)) ?_
        refine aops_no rfl rfl rfl rfl rfl (by first | decide | (rw [q6]; decide)) ?_
        refine aops_yes rfl rfl rfl rfl q5 (st_pick_no rfl (by first | rfl | exact q6) rfl rfl) ?_
        refine aops_nil ?_
        show Weak _ _
        (refine weak_mk rfl rfl ?_ ?_ rfl <;> repeat' (first | exact trivial | refine ⟨?_, ?_⟩ | exact VLe.refl _ | exact BLe.refl _ | refine VLe.one (CLe.val ?_) | exact VLe.one (CLe.nil _) | exact VLe.one (CLe.emp _))) <;> (first | (rw [q6]; done) | (rw [q6]; rfl) | (simp [q6]; done))
      change AOps _ _ _ (⟨42, [], [(2, .one (.val (.int .u64 (s1_0.toNat : Int)))), (5, .one (.val (.int .i64 ((s1_1 : Nat) : Int)))), (6, .one (.val (.int .u8 (((a0.getD s1_1 default)).toNat : Int)))), (7, .one (CV.ls byC a0)), (8, .one (.val (.int .i64 ((a0.length : Nat) : Int)))), (9, .one (.val (.int .i64 ((s1_1 : Nat) : Int)))), (20, .one (.val (.bool ((((s1_1 : Nat) : Int) == 9) && (decide ((((a0.getD s1_1 default)).toNat : Int) > 1)))))), (26, .one (.val (.bool ((decide (((s1_1 : Nat) : Int) > 0)) && ((((a0.getD s1_1 default)).toNat : Int) == 0)))))], []⟩ : ASt) _
      refine aops_step1 rfl (st_pick_no rfl (by first | rfl | exact q5) rfl rfl) ?_
      refine aops_nil ?_
      show Weak _ _
      (refine weak_mk rfl rfl ?_ ?_ rfl <;> repeat' (first | exact trivial | refine ⟨?_, ?_⟩ | exact VLe.refl _ | exact BLe.refl _ | refine VLe.one (CLe.val ?_) | exact VLe.one (CLe.nil _) | exact VLe.one (CLe.emp _))) <;> (first | (rw [q5]; done) | (rw [q5]; rfl) | (simp [q5]; done))
    change AOps _ _ _ (⟨42, [], [(2, .one (.val (.int .u64 (s1_0.toNat : Int)))), (5, .one (.val (.int .i64 ((s1_1 : Nat) : Int)))), (6, .one (.val (.int .u8 (((a0.getD s1_1 default)).toNat : Int)))), (7, .one (CV.ls byC a0)), (8, .one (.val (.int .i64 ((a0.length : Nat) : Int)))), (9, .one (.val (.int .i64 ((s1_1 : Nat) : Int)))), (27, .one (.val (.bool (((((s1_1 : Nat) : Int) == 9) && (decide ((((a0.getD s1_1 default)).toNat : Int) > 1))) || ((decide (((s1_1 : Nat) : Int) > 0)) && ((((a0.getD s1_1 default)).toNat : Int) == 0))))))], []⟩ : ASt) _
    refine aops_nil ?_
    refine aw_cond rfl (fun c7 => ?_) (fun c7 => ?_)
    · replace l1 := Md.cond_t l1 c7
      refine aw_seq ?_
      refine aw_region ?_
      refine aops_step1 rfl (st_assign rfl rfl) ?_
      refine aops_step1 rfl (st_assign rfl rfl) ?_
      refine aops_step1 rfl (st_assign rfl rfl) ?_
      refine aops_nil ?_
      cases Option.some.inj l1
      replace h := Md.onS_r h
      cases Option.some.inj h
      refine aw_ret ⟨rfl, ret_v (.inr ⟨by decide, _, rfl, .cons (show get _ _ = AV.one _ from rfl) (.cons (show get _ _ = AV.one _ from rfl) (.cons (show get _ _ = AV.one _ from rfl) (.nil))), by intro y hy vs e; subst e; simp at hy⟩) rfl rfl rfl ?_⟩
      (repeat' (first | exact TLe.refl _ | exact VLe.refl _ | exact CLe.refl _ | exact All2.nil | refine TLe.tup ?_ | refine TLe.v ?_ | refine All2.cons ?_ ?_ | refine VLe.agg ?_ | refine VLe.one ?_ | exact CLe.nil _ | exact CLe.emp _ | refine CLe.val ?_ | refine CLe.slc ?_ ?_))
    replace l1 := Md.cond_f l1 c7
    refine aw_skip ?_
    refine aw_seq ?_
    refine aw_region ?_
    refine aops_step1 rfl (st_move rfl rfl) ?_
    refine aops_step1 rfl (st_move rfl rfl) ?_
    refine aops_step1 rfl (ev_bits rfl rfl rfl rfl (Md.and_u8 (a0.getD s1_1 default) (127 : UInt8))) ?_
    refine aops_step1 rfl (st_conv_int rfl rfl Try.underlying5 Try.underlying61 (Md.conv_u8_u64 ((a0.getD s1_1 default) &&& (127 : UInt8)))) ?_
    refine aops_step1 rfl (st_move rfl rfl) ?_
    obtain ⟨g8, l1⟩ := Md.ifp_s l1
    refine aops_step1 rfl (ev_mul rfl rfl rfl (Md.nat_mul g8)) ?_
    refine aops_step1 rfl (ev_shl rfl rfl rfl (Md.nn _) (Md.shl_u64 (((a0.getD s1_1 default) &&& (127 : UInt8)).toUInt64) (Md.nat_toNat (7 * s1_1)))) ?_
    refine aops_step1 rfl (ev_bits rfl rfl rfl rfl (Md.or_u64 s1_0 (Md.shl64 (((a0.getD s1_1 default) &&& (127 : UInt8)).toUInt64) (7 * s1_1)))) ?_
    refine aops_step1 rfl (st_assign rfl rfl) ?_
    refine aops_nil ?_
    refine aw_seq ?_
    refine aw_region ?_
    refine aops_step1 rfl (st_move rfl rfl) ?_
    refine aops_step1 rfl (ev_cmp rfl rfl rfl rfl) ?_
    refine aops_nil ?_
    refine aw_cond rfl (fun c9 => ?_) (fun c9 => ?_)
    · replace l1 := Md.cond_t l1 c9
      refine aw_seq ?_
      refine aw_region ?_
      refine aops_step1 rfl (st_move rfl rfl) ?_
      refine aops_step1 rfl (st_move rfl rfl) ?_
      obtain ⟨g10, l1⟩ := Md.ifp_s l1
      refine aops_step1 rfl (ev_add rfl rfl rfl (Md.nat_add g10)) ?_
      refine aops_step1 rfl (st_assign rfl rfl) ?_
      refine aops_step1 rfl (st_assign rfl rfl) ?_
      refine aops_step1 rfl (st_assign rfl rfl) ?_
      refine aops_nil ?_
      cases Option.some.inj l1
      replace h := Md.onS_r h
      cases Option.some.inj h
      refine aw_ret ⟨rfl, ret_v (.inr ⟨by decide, _, rfl, .cons (show get _ _ = AV.one _ from rfl) (.cons (show get _ _ = AV.one _ from rfl) (.cons (show get _ _ = AV.one _ from rfl) (.nil))), by intro y hy vs e; subst e; simp at hy⟩) rfl rfl rfl ?_⟩
      (repeat' (first | exact TLe.refl _ | exact VLe.refl _ | exact CLe.refl _ | exact All2.nil | refine TLe.tup ?_ | refine TLe.v ?_ | refine All2.cons ?_ ?_ | refine VLe.agg ?_ | refine VLe.one ?_ | exact CLe.nil _ | exact CLe.emp _ | refine CLe.val ?_ | refine CLe.slc ?_ ?_))
    replace l1 := Md.cond_f l1 c9
    refine aw_skip ?_
    refine aw_region ?_
    obtain ⟨g11, l1⟩ := Md.ifp_s l1
    refine aops_step1 rfl (ev_add rfl rfl rfl (Md.nat_add g11)) ?_
    refine aops_step1 rfl (st_move rfl rfl) ?_
    refine aops_nil ?_
    exact ⟨⟨(n1, (s1_0 ||| (Md.shl64 (((a0.getD s1_1 default) &&& (127 : UInt8)).toUInt64) (7 * s1_1))), (s1_1 + 1)), l1⟩, Nat.lt_succ_self _, (by (refine weak_mk rfl rfl ?_ ?_ rfl <;> repeat' (first | exact trivial | refine ⟨?_, ?_⟩ | exact VLe.refl _ | exact BLe.refl _ | refine VLe.one (CLe.val ?_) | exact VLe.one (CLe.nil _) | exact VLe.one (CLe.emp _))))⟩
  replace l1 := Md.cond_f l1 c2
  refine aw_exit ?_
  show ∃ _x : Unit, _ = _ ∧ Weak _ _
  exact ⟨(), Option.some.inj l1, (by (refine weak_mk rfl rfl ?_ ?_ rfl <;> repeat' (first | exact trivial | refine ⟨?_, ?_⟩ | exact VLe.refl _ | exact BLe.refl _ | refine VLe.one (CLe.val ?_) | exact VLe.one (CLe.nil _) | exact VLe.one (CLe.emp _))))⟩
set_option maxHeartbeats 2000000 in
theorem wire_Int_fn (k : Nat) (a0 : List UInt8) (r : Int × Int × Int) (h : wire_Int k a0 = some r) : FnC Try.prog 42 [.one (CV.ls byC a0)] [] (Det (.tup [.one (.val (.int .i64 r.1)), .one (.val (.int .i64 r.2.1)), .one (.val (.int .i64 r.2.2))]) []) := by
  unfold wire_Int at h
  refine fn_intro' 22 Try.func42 rfl rfl rfl ?_
  refine aw_seq ?_
  refine aw_region ?_
  refine aops_step1 rfl (st_assign rfl rfl) ?_
  refine aops_step1 rfl (st_assign rfl rfl) ?_
  refine aops_step1 rfl (st_assign rfl rfl) ?_
  refine aops_nil ?_
  refine aw_seq ?_
  refine aw_region ?_
  refine aops_step1 rfl (st_move rfl rfl) ?_
  obtain ⟨x1, hx1, h⟩ := Md.bind_s h
  refine aops_step1 rfl (ev_call_v (wire_Uint_fn k a0 x1 hx1) rfl [] (by repeat' (first | exact All2.nil | refine All2.cons ?_ ?_ | refine ArgV.one ?_ | refine ArgV.agg ?_ | exact ArgC.mk rfl | exact ArgC.lend rfl (by simp) | exact ArgC.le (CLe.nil _) rfl | exact ArgC.le (CLe.emp _) rfl | exact ArgC.le (CLe.any _) rfl)) rfl rfl rfl (.inl rfl) rfl) ?_
  refine aops_step1 rfl (st_movet rfl rfl) ?_
  refine aops_step1 rfl (ev_extract rfl rfl rfl) ?_
  refine aops_step1 rfl (ev_extract rfl rfl rfl) ?_
  refine aops_step1 rfl (ev_extract rfl rfl rfl) ?_
  refine aops_step1 rfl (st_assign rfl rfl) ?_
  refine aops_step1 rfl (st_assign rfl rfl) ?_
  refine aops_step1 rfl (st_assign rfl rfl) ?_
  refine aops_nil ?_
  refine aw_seq ?_
  refine aw_region ?_
  refine aops_step1 rfl (st_move rfl rfl) ?_
  refine aops_step1 rfl (ev_shr rfl rfl rfl (by decide) (Md.shr_u64 x1.1 (Md.nat_toNat 1))) ?_
  refine aops_step1 rfl (st_conv_int rfl rfl Try.underlying61 Try.underlying3 (Md.wrap_W _)) ?_
  refine aops_step1 rfl (st_move rfl rfl) ?_
  refine aops_step1 rfl (ev_bits rfl rfl rfl rfl (Md.and_u64 x1.1 (1 : UInt64))) ?_
  refine aops_step1 rfl (st_conv_int rfl rfl Try.underlying61 Try.underlying3 (Md.wrap_W _)) ?_
  refine aops_step1 rfl (st_neg rfl rfl (Md.wrap_W _)) ?_
  refine aops_step1 rfl (ev_bits rfl rfl rfl rfl (Md.ixor_i64 (Md.W ((Md.shr64 x1.1 1).toNat : Int)) (Md.W (-(Md.W ((x1.1 &&& (1 : UInt64)).toNat : Int)))))) ?_
  refine aops_step1 rfl (st_move rfl rfl) ?_
  refine aops_step1 rfl (st_move rfl rfl) ?_
  refine aops_step1 rfl (st_assign rfl rfl) ?_
  refine aops_step1 rfl (st_assign rfl rfl) ?_
  refine aops_step1 rfl (st_assign rfl rfl) ?_
  refine aops_nil ?_
  cases Option.some.inj h
  refine aw_ret ⟨rfl, ret_v (.inr ⟨by decide, _, rfl, .cons (show get _ _ = AV.one _ from rfl) (.cons (show get _ _ = AV.one _ from rfl) (.cons (show get _ _ = AV.one _ from rfl) (.nil))), by intro y hy vs e; subst e; simp at hy⟩) rfl rfl rfl ?_⟩
  (repeat' (first | exact TLe.refl _ | exact VLe.refl _ | exact CLe.refl _ | exact All2.nil | refine TLe.tup ?_ | refine TLe.v ?_ | refine All2.cons ?_ ?_ | refine VLe.agg ?_ | refine VLe.one ?_ | exact CLe.nil _ | exact CLe.emp _ | refine CLe.val ?_ | refine CLe.slc ?_ ?_))
set_option maxHeartbeats 2000000 in
theorem wire_length_fn (k : Nat) (a0 : List UInt8) (a1 : Int) (r : Int × Int × Int) (h : wire_length k a0 a1 = some r) : FnC Try.prog 53 [.one (CV.ls byC a0), .one (.val (.int .i64 a1))] [] (Det (.tup [.one (.val (.int .i64 r.1)), .one (.val (.int .i64 r.2.1)), .one (.val (.int .i64 r.2.2))]) []) := by
  unfold wire_length at h
  refine fn_intro' 26 Try.func53 rfl rfl rfl ?_
  refine aw_seq ?_
  refine aw_region ?_
  refine aops_step1 rfl (st_assign rfl rfl) ?_
  refine aops_step1 rfl (st_assign rfl rfl) ?_
  refine aops_step1 rfl (st_assign rfl rfl) ?_
  refine aops_nil ?_
  refine aw_seq ?_
  refine aw_seq ?_
  refine aw_region ?_
  refine aops_step1 rfl (st_move rfl rfl) ?_
  refine aops_step1 rfl (ev_cmp rfl rfl rfl rfl) ?_
  refine aops_nil ?_
  refine aw_cond rfl (fun c1 => ?_) (fun c1 => ?_)
  · replace h := Md.cond_t h c1
    refine aw_seq ?_
    refine aw_region ?_
    refine aops_step1 rfl (st_assign rfl rfl) ?_
    refine aops_step1 rfl (st_assign rfl rfl) ?_
    refine aops_step1 rfl (st_assign rfl rfl) ?_
    refine aops_nil ?_
    cases Option.some.inj h
    refine aw_ret ⟨rfl, ret_v (.inr ⟨by decide, _, rfl, .cons (show get _ _ = AV.one _ from rfl) (.cons (show get _ _ = AV.one _ from rfl) (.cons (show get _ _ = AV.one _ from rfl) (.nil))), by intro y hy vs e; subst e; simp at hy⟩) rfl rfl rfl ?_⟩
    (repeat' (first | exact TLe.refl _ | exact VLe.refl _ | exact CLe.refl _ | exact All2.nil | refine TLe.tup ?_ | refine TLe.v ?_ | refine All2.cons ?_ ?_ | refine VLe.agg ?_ | refine VLe.one ?_ | exact CLe.nil _ | exact CLe.emp _ | refine CLe.val ?_ | refine CLe.slc ?_ ?_))
  replace h := Md.cond_f h c1
  refine aw_skip ?_
  refine aw_seq ?_
  refine aw_region ?_
  refine aops_step1 rfl (st_move rfl rfl) ?_
  obtain ⟨x2, hx2, h⟩ := Md.bind_s h
  refine aops_step1 rfl (ev_call_v (wire_Uint_fn k a0 x2 hx2) rfl [] (by repeat' (first | exact All2.nil | refine All2.cons ?_ ?_ | refine ArgV.one ?_ | refine ArgV.agg ?_ | exact ArgC.mk rfl | exact ArgC.lend rfl (by simp) | exact ArgC.le (CLe.nil _) rfl | exact ArgC.le (CLe.emp _) rfl | exact ArgC.le (CLe.any _) rfl)) rfl rfl rfl (.inl rfl) rfl) ?_
  refine aops_step1 rfl (st_movet rfl rfl) ?_
  refine aops_step1 rfl (ev_extract rfl rfl rfl) ?_
  refine aops_step1 rfl (ev_extract rfl rfl rfl) ?_
  refine aops_step1 rfl (ev_extract rfl rfl rfl) ?_
  refine aops_step1 rfl (st_assign rfl rfl) ?_
  refine aops_step1 rfl (st_assign rfl rfl) ?_
  refine aops_step1 rfl (st_assign rfl rfl) ?_
  refine aops_nil ?_
  refine aw_seq ?_
  refine aw_seq ?_
  refine aw_region ?_
  refine aops_step1 rfl (st_move rfl rfl) ?_
  refine aops_step1 rfl (ev_cmp rfl rfl rfl rfl) ?_
  refine aops_nil ?_
  refine aw_cond rfl (fun c3 => ?_) (fun c3 => ?_)
  · replace h := Md.cond_t h c3
    refine aw_seq ?_
    refine aw_region ?_
    refine aops_step1 rfl (st_move rfl rfl) ?_
    refine aops_step1 rfl (st_assign rfl rfl) ?_
    refine aops_step1 rfl (st_assign rfl rfl) ?_
    refine aops_step1 rfl (st_assign rfl rfl) ?_
    refine aops_nil ?_
    cases Option.some.inj h
    refine aw_ret ⟨rfl, ret_v (.inr ⟨by decide, _, rfl, .cons (show get _ _ = AV.one _ from rfl) (.cons (show get _ _ = AV.one _ from rfl) (.cons (show get _ _ = AV.one _ from rfl) (.nil))), by intro y hy vs e; subst e; simp at hy⟩) rfl rfl rfl ?_⟩
    (repeat' (first | exact TLe.refl _ | exact VLe.refl _ | exact CLe.refl _ | exact All2.nil | refine TLe.tup ?_ | refine TLe.v ?_ | refine All2.cons ?_ ?_ | refine VLe.agg ?_ | refine VLe.one ?_ | exact CLe.nil _ | exact CLe.emp _ | refine CLe.val ?_ | refine CLe.slc ?_ ?_))
  replace h := Md.cond_f h c3
  refine aw_skip ?_
  refine aw_seq ?_
  refine aw_seq ?_
  refine aw_region ?_
  refine aops_step1 rfl (st_move rfl rfl) ?_
  refine aops_step1 rfl (st_move rfl rfl) ?_
  refine aops_step1 rfl (st_conv_int rfl rfl Try.underlying3 Try.underlying61 (Md.ofInt_u64 a1)) ?_
  refine aops_step1 rfl (ev_cmp rfl rfl rfl rfl) ?_
  refine aops_nil ?_
  refine aw_cond rfl (fun c4 => ?_) (fun c4 => ?_)
  · replace h := Md.cond_t h c4
    refine aw_seq ?_
    refine aw_region ?_
    refine aops_step1 rfl (st_assign rfl rfl) ?_
    refine aops_step1 rfl (st_assign rfl rfl) ?_
    refine aops_step1 rfl (st_assign rfl rfl) ?_
    refine aops_nil ?_
    cases Option.some.inj h
    refine aw_ret ⟨rfl, ret_v (.inr ⟨by decide, _, rfl, .cons (show get _ _ = AV.one _ from rfl) (.cons (show get _ _ = AV.one _ from rfl) (.cons (show get _ _ = AV.one _ from rfl) (.nil))), by intro y hy vs e; subst e; simp at hy⟩) rfl rfl rfl ?_⟩
    (repeat' (first | exact TLe.refl _ | exact VLe.refl _ | exact CLe.refl _ | exact All2.nil | refine TLe.tup ?_ | refine TLe.v ?_ | refine All2.cons ?_ ?_ | refine VLe.agg ?_ | refine VLe.one ?_ | exact CLe.nil _ | exact CLe.emp _ | refine CLe.val ?_ | refine CLe.slc ?_ ?_))
  replace h := Md.cond_f h c4
  refine aw_skip ?_
  refine aw_seq ?_
  refine aw_region ?_
  refine aops_step1 rfl (st_move rfl rfl) ?_
  refine aops_step1 rfl (st_conv_int rfl rfl Try.underlying61 Try.underlying3 (Md.wrap_W _)) ?_
  refine aops_step1 rfl (st_move rfl rfl) ?_
  refine aops_step1 rfl (st_assign rfl rfl) ?_
  refine aops_step1 rfl (st_assign rfl rfl) ?_
  refine aops_step1 rfl (st_assign rfl rfl) ?_
  refine aops_nil ?_
  cases Option.some.inj h
  refine aw_ret ⟨rfl, ret_v (.inr ⟨by decide, _, rfl, .cons (show get _ _ = AV.one _ from rfl) (.cons (show get _ _ = AV.one _ from rfl) (.cons (show get _ _ = AV.one _ from rfl) (.nil))), by intro y hy vs e; subst e; simp at hy⟩) rfl rfl rfl ?_⟩
  (repeat' (first | exact TLe.refl _ | exact VLe.refl _ | exact CLe.refl _ | exact All2.nil | refine TLe.tup ?_ | refine TLe.v ?_ | refine All2.cons ?_ ?_ | refine VLe.agg ?_ | refine VLe.one ?_ | exact CLe.nil _ | exact CLe.emp _ | refine CLe.val ?_ | refine CLe.slc ?_ ?_))
set_option maxHeartbeats 2000000 in
theorem wire_String_fn (k : Nat) (a0 : List UInt8) (a1 : Int) (r : (List UInt8) × Int × Int) (h : wire_String k a0 a1 = some r) : FnC Try.prog 14 [.one (CV.ls byC a0), .one (.val (.int .i64 a1))] [] (Det (.tup [.one (.val (Sv r.1)), .one (.val (.int .i64 r.2.1)), .one (.val (.int .i64 r.2.2))]) []) := by
  unfold wire_String at h
  refine fn_intro' 34 Try.func14 rfl rfl rfl ?_
  refine aw_seq ?_
  refine aw_region ?_
  refine aops_step1 rfl (st_assign rfl rfl) ?_
  refine aops_step1 rfl (st_assign rfl rfl) ?_
  refine aops_step1 rfl (st_assign rfl rfl) ?_
  refine aops_nil ?_
  refine aw_seq ?_
  refine aw_region ?_
  refine aops_step1 rfl (st_move rfl rfl) ?_
  refine aops_step1 rfl (st_move rfl rfl) ?_
  obtain ⟨x1, hx1, h⟩ := Md.bind_s h
  refine aops_step1 rfl (ev_call_v (wire_length_fn k a0 a1 x1 hx1) rfl [] (by repeat' (first | exact All2.nil | refine All2.cons ?_ ?_ | refine ArgV.one ?_ | refine ArgV.agg ?_ | exact ArgC.mk rfl | exact ArgC.lend rfl (by simp) | exact ArgC.le (CLe.nil _) rfl | exact ArgC.le (CLe.emp _) rfl | exact ArgC.le (CLe.any _) rfl)) rfl rfl rfl (.inl rfl) rfl) ?_
  refine aops_step1 rfl (st_movet rfl rfl) ?_
  refine aops_step1 rfl (ev_extract rfl rfl rfl) ?_
  refine aops_step1 rfl (ev_extract rfl rfl rfl) ?_
  refine aops_step1 rfl (ev_extract rfl rfl rfl) ?_
  refine aops_step1 rfl (st_assign rfl rfl) ?_
  refine aops_step1 rfl (st_assign rfl rfl) ?_
  refine aops_step1 rfl (st_assign rfl rfl) ?_
  refine aops_nil ?_
  refine aw_seq ?_
  refine aw_seq ?_
  refine aw_region ?_
  refine aops_step1 rfl (st_move rfl rfl) ?_
  refine aops_step1 rfl (ev_cmp rfl rfl rfl rfl) ?_
  refine aops_nil ?_
  refine aw_cond rfl (fun c2 => ?_) (fun c2 => ?_)
  · replace h := Md.cond_t h c2
    refine aw_seq ?_
    refine aw_region ?_
    refine aops_step1 rfl (st_move rfl rfl) ?_
    refine aops_step1 rfl (st_assign rfl rfl) ?_
    refine aops_step1 rfl (st_assign rfl rfl) ?_
    refine aops_step1 rfl (st_assign rfl rfl) ?_
    refine aops_nil ?_
    cases Option.some.inj h
    refine aw_ret ⟨rfl, ret_v (.inr ⟨by decide, _, rfl, .cons (show get _ _ = AV.one _ from rfl) (.cons (show get _ _ = AV.one _ from rfl) (.cons (show get _ _ = AV.one _ from rfl) (.nil))), by intro y hy vs e; subst e; simp at hy⟩) rfl rfl rfl ?_⟩
    (repeat' (first | exact TLe.refl _ | exact VLe.refl _ | exact CLe.refl _ | exact All2.nil | refine TLe.tup ?_ | refine TLe.v ?_ | refine All2.cons ?_ ?_ | refine VLe.agg ?_ | refine VLe.one ?_ | exact CLe.nil _ | exact CLe.emp _ | refine CLe.val ?_ | refine CLe.slc ?_ ?_))
  replace h := Md.cond_f h c2
  refine aw_skip ?_
  refine aw_seq ?_
  refine aw_seq ?_
  refine aw_region ?_
  refine aops_step1 rfl (st_move rfl rfl) ?_
  refine aops_step1 rfl (ev_len_slc rfl rfl) ?_
  refine aops_step1 rfl (st_move rfl rfl) ?_
  refine aops_step1 rfl (ev_sub rfl rfl rfl (Md.wrap_W _)) ?_
  refine aops_step1 rfl (st_move rfl rfl) ?_
  refine aops_step1 rfl (ev_cmp rfl rfl rfl rfl) ?_
  refine aops_nil ?_
  refine aw_cond rfl (fun c3 => ?_) (fun c3 => ?_)
  · replace h := Md.cond_t h c3
    refine aw_seq ?_
    refine aw_region ?_
    refine aops_step1 rfl (st_assign rfl rfl) ?_
    refine aops_step1 rfl (st_assign rfl rfl) ?_
    refine aops_step1 rfl (st_assign rfl rfl) ?_
    refine aops_nil ?_
    cases Option.some.inj h
    refine aw_ret ⟨rfl, ret_v (.inr ⟨by decide, _, rfl, .cons (show get _ _ = AV.one _ from rfl) (.cons (show get _ _ = AV.one _ from rfl) (.cons (show get _ _ = AV.one _ from rfl) (.nil))), by intro y hy vs e; subst e; simp at hy⟩) rfl rfl rfl ?_⟩
    (repeat' (first | exact TLe.refl _ | exact VLe.refl _ | exact CLe.refl _ | exact All2.nil | refine TLe.tup ?_ | refine TLe.v ?_ | refine All2.cons ?_ ?_ | refine VLe.agg ?_ | refine VLe.one ?_ | exact CLe.nil _ | exact CLe.emp _ | refine CLe.val ?_ | refine CLe.slc ?_ ?_))
  replace h := Md.cond_f h c3
  refine aw_skip ?_
  refine aw_seq ?_
  refine aw_region ?_
  refine aops_step1 rfl (st_move rfl rfl) ?_
  refine aops_step1 rfl (st_move rfl rfl) ?_
  refine aops_step1 rfl (st_move rfl rfl) ?_
  refine aops_step1 rfl (st_move rfl rfl) ?_
  refine aops_step1 rfl (ev_add rfl rfl rfl (Md.wrap_W _)) ?_
  obtain ⟨g4, h⟩ := Md.ifp_s h
  obtain ⟨g5, h⟩ := Md.ifp_s h
  obtain ⟨g6, h⟩ := Md.ifp_s h
  refine aops_step1 rfl (st_cut_both (f := byC) (fun _ => rfl) rfl ⟨_, _, rfl, (Md.nn_eq g4)⟩ ⟨_, _, rfl, (Md.nn_eq g5)⟩ g6 rfl) ?_
  refine aops_step1 rfl (ev_str_bytes (.inl rfl) Try.underlying22 Try.underlying5 Try.underlying9 rfl) ?_
  refine aops_step1 rfl (st_move rfl rfl) ?_
  refine aops_step1 rfl (st_move rfl rfl) ?_
  refine aops_step1 rfl (ev_add rfl rfl rfl (Md.wrap_W _)) ?_
  refine aops_step1 rfl (st_assign rfl rfl) ?_
  refine aops_step1 rfl (st_assign rfl rfl) ?_
  refine aops_step1 rfl (st_assign rfl rfl) ?_
  refine aops_nil ?_
  cases Option.some.inj h
  refine aw_ret ⟨rfl, ret_v (.inr ⟨by decide, _, rfl, .cons (show get _ _ = AV.one _ from rfl) (.cons (show get _ _ = AV.one _ from rfl) (.cons (show get _ _ = AV.one _ from rfl) (.nil))), by intro y hy vs e; subst e; simp at hy⟩) rfl rfl rfl ?_⟩
  (repeat' (first | exact TLe.refl _ | exact VLe.refl _ | exact CLe.refl _ | exact All2.nil | refine TLe.tup ?_ | refine TLe.v ?_ | refine All2.cons ?_ ?_ | refine VLe.agg ?_ | refine VLe.one ?_ | exact CLe.nil _ | exact CLe.emp _ | refine CLe.val ?_ | refine CLe.slc ?_ ?_))
set_option maxHeartbeats 2000000 in
theorem wire_list_int__wire_Int_fn (k : Nat) (a0 : List UInt8) (a1 : Int) (r : (List Int) × Int × Int) (h : wire_list_int__wire_Int k a0 a1 = some r) : FnC Try.prog 54 [.one (CV.ls byC a0), .one (.val (.int .i64 a1)), .one (.fn 42 [])] [] (Det (.tup [.one (CV.ls c_Int r.1), .one (.val (.int .i64 r.2.1)), .one (.val (.int .i64 r.2.2))]) []) := by
  unfold wire_list_int__wire_Int at h
  refine fn_intro' 52 Try.func54 rfl rfl rfl ?_
  refine aw_seq ?_
  refine aw_region ?_
  refine aops_step1 rfl (st_assign rfl rfl) ?_
  refine aops_step1 rfl (st_assign rfl rfl) ?_
  refine aops_step1 rfl (st_assign rfl rfl) ?_
  refine aops_nil ?_
  refine aw_seq ?_
  refine aw_region ?_
  refine aops_step1 rfl (st_move rfl rfl) ?_
  refine aops_step1 rfl (st_move rfl rfl) ?_
  obtain ⟨x1, hx1, h⟩ := Md.bind_s h
  refine aops_step1 rfl (ev_call_v (wire_length_fn k a0 a1 x1 hx1) rfl [] (by repeat' (first | exact All2.nil | refine All2.cons ?_ ?_ | refine ArgV.one ?_ | refine ArgV.agg ?_ | exact ArgC.mk rfl | exact ArgC.lend rfl (by simp) | exact ArgC.le (CLe.nil _) rfl | exact ArgC.le (CLe.emp _) rfl | exact ArgC.le (CLe.any _) rfl)) rfl rfl rfl (.inl rfl) rfl) ?_
  refine aops_step1 rfl (st_movet rfl rfl) ?_
  refine aops_step1 rfl (ev_extract rfl rfl rfl) ?_
  refine aops_step1 rfl (ev_extract rfl rfl rfl) ?_
  refine aops_step1 rfl (ev_extract rfl rfl rfl) ?_
  refine aops_step1 rfl (st_assign rfl rfl) ?_
  refine aops_step1 rfl (st_assign rfl rfl) ?_
  refine aops_step1 rfl (st_assign rfl rfl) ?_
  refine aops_nil ?_
  refine aw_seq ?_
  refine aw_seq ?_
  refine aw_region ?_
  refine aops_step1 rfl (st_assign rfl rfl) ?_
  refine aops_nil ?_
  refine aw_block ?_
  refine aw_own_nil 6 0 3 1 (lsEl c_Int []) rfl rfl ?_
  obtain ⟨o2, ho2, h⟩ := Md.bind_s h
  refine aw_loop_x (ι := {p : Nat × Int × Int × Nat × (List Int) // wire_list_int__wire_Int_loop1 k a0 x1 p.1 p.2.1 p.2.2.1 p.2.2.2.1 p.2.2.2.2 = some o2}) (fun p => (⟨52, [], [(0, .one (CV.ls byC a0)), (2, .one (.fn 42 [])), (6, .one (.own 0)), (7, .one (.val (.int .i64 p.1.2.1))), (8, .one (.val (.int .i64 p.1.2.2.1))), (9, .one (.val (.int .i64 x1.1))), (10, .one (.val (.int .i64 ((p.1.2.2.2.1 : Nat) : Int))))], [(0, some (.row 3 1 p.1.2.2.2.2.length (lsEl c_Int p.1.2.2.2.2)))]⟩ : ASt)) (fun p => p.1.1) ⟨(k, x1.2.1, x1.2.2, 0, ([] : List Int)), ho2⟩ (by (refine weak_mk rfl rfl ?_ ?_ rfl <;> repeat' (first | exact trivial | refine ⟨?_, ?_⟩ | exact VLe.refl _ | exact BLe.refl _ | refine VLe.one (CLe.val ?_) | exact VLe.one (CLe.nil _) | exact VLe.one (CLe.emp _)))) 0 (ε := (Int × Int × (List Int))) (fun x => (⟨52, [], [(6, .one (.own 0)), (7, .one (.val (.int .i64 x.1))), (8, .one (.val (.int .i64 x.2.1)))], [(0, some (.row 3 1 x.2.2.length (lsEl c_Int x.2.2)))]⟩ : ASt)) (fun x => x = o2) (fun _ _ w h => aw_weak w h) ?_ ?_
  · intro x2_0 hI2
    subst hI2
    change AW _ _ (⟨52, [], [(6, .one (.own 0)), (7, .one (.val (.int .i64 x2_0.1))), (8, .one (.val (.int .i64 x2_0.2.1)))], [(0, some (.row 3 1 x2_0.2.2.length (lsEl c_Int x2_0.2.2)))]⟩ : ASt) _
    refine aw_seq ?_
    refine aw_seq ?_
    refine aw_region ?_
    refine aops_step1 rfl (st_move rfl rfl) ?_
    refine aops_step1 rfl (ev_cmp rfl rfl rfl rfl) ?_
    refine aops_nil ?_
    refine aw_cond rfl (fun c3 => ?_) (fun c3 => ?_)
    · replace h := Md.cond_t h c3
      refine aw_seq ?_
      refine aw_region ?_
      refine aops_step1 rfl (st_move rfl rfl) ?_
      refine aops_step1 rfl (st_assign rfl rfl) ?_
      refine aops_step1 rfl (st_assign rfl rfl) ?_
      refine aops_step1 rfl (st_assign rfl rfl) ?_
      refine aops_nil ?_
      cases Option.some.inj h
      refine aw_ret ⟨rfl, ret_v (.inr ⟨by decide, _, rfl, .cons (show get _ _ = AV.one _ from rfl) (.cons (show get _ _ = AV.one _ from rfl) (.cons (show get _ _ = AV.one _ from rfl) (.nil))), by intro y hy vs e; subst e; simp at hy⟩) rfl rfl rfl ?_⟩
      (repeat' (first | exact TLe.refl _ | exact VLe.refl _ | exact CLe.refl _ | exact All2.nil | refine TLe.tup ?_ | refine TLe.v ?_ | refine All2.cons ?_ ?_ | refine VLe.agg ?_ | refine VLe.one ?_ | exact CLe.nil _ | exact CLe.emp _ | refine CLe.val ?_ | refine CLe.slc ?_ ?_))
    replace h := Md.cond_f h c3
    refine aw_skip ?_
    refine aw_seq ?_
    refine aw_region ?_
    refine aops_step1 rfl (st_move rfl rfl) ?_
    refine aops_step1 rfl (st_move rfl rfl) ?_
    refine aops_step1 rfl (st_assign rfl rfl) ?_
    refine aops_step1 rfl (st_assign rfl rfl) ?_
    refine aops_step1 rfl (st_assign rfl rfl) ?_
    refine aops_nil ?_
    cases Option.some.inj h
    refine aw_freeze 0 rfl ?_
    refine aw_ret ⟨rfl, ret_v (.inr ⟨by decide, _, rfl, .cons (show get _ _ = AV.one _ from rfl) (.cons (show get _ _ = AV.one _ from rfl) (.cons (show get _ _ = AV.one _ from rfl) (.nil))), by intro y hy vs e; subst e; simp at hy⟩) rfl rfl rfl ?_⟩
    (repeat' (first | exact TLe.refl _ | exact VLe.refl _ | exact CLe.refl _ | exact All2.nil | refine TLe.tup ?_ | refine TLe.v ?_ | refine All2.cons ?_ ?_ | refine VLe.agg ?_ | refine VLe.one ?_ | exact CLe.nil _ | exact CLe.emp _ | refine CLe.val ?_ | refine CLe.slc ?_ ?_))
  intro p2
  obtain ⟨⟨n2, s2_0, s2_1, s2_2, s2_3⟩, l2⟩ := p2
  change AW _ _ (⟨52, [], [(0, .one (CV.ls byC a0)), (2, .one (.fn 42 [])), (6, .one (.own 0)), (7, .one (.val (.int .i64 s2_0))), (8, .one (.val (.int .i64 s2_1))), (9, .one (.val (.int .i64 x1.1))), (10, .one (.val (.int .i64 ((s2_2 : Nat) : Int))))], [(0, some (.row 3 1 s2_3.length (lsEl c_Int s2_3)))]⟩ : ASt) _
  replace l2 : wire_list_int__wire_Int_loop1 k a0 x1 n2 s2_0 s2_1 s2_2 s2_3 = some o2 := l2
  rcases n2 with _ | n2
  · exact absurd (show none = some o2 from l2) nofun
  rw [wire_list_int__wire_Int_loop1] at l2
  refine aw_seq ?_
  refine aw_seq ?_
  refine aw_region ?_
  refine aops_step1 rfl (st_move rfl rfl) ?_
  refine aops_step1 rfl (ev_cmp rfl rfl rfl rfl) ?_
  refine aops_step1 rfl (st_move rfl rfl) ?_
  refine aops_mid 4 (⟨52, [], [(0, .one (CV.ls byC a0)), (2, .one (.fn 42 [])), (6, .one (.own 0)), (7, .one (.val (.int .i64 s2_0))), (8, .one (.val (.int .i64 s2_1))), (9, .one (.val (.int .i64 x1.1))), (10, .one (.val (.int .i64 ((s2_2 : Nat) : Int)))), (27, .one (.val (.bool ((s2_1 == 0) && (decide (((s2_2 : Nat) : Int) < x1.1))))))], [(0, some (.row 3 1 s2_3.length (lsEl c_Int s2_3)))]⟩ : ASt) ?_ ?_
  · rcases Md.bool_or ((s2_1 == 0)) with q4 | q4
    · skip
      refine aops_yes rfl rfl rfl rfl q4 (st_move rfl rfl) ?_
      refine aops_yes rfl rfl rfl rfl q4 (st_move rfl rfl) ?_
      refine aops_yes rfl rfl rfl rfl q4 (ev_cmp rfl rfl rfl rfl) ?_
      refine aops_step1 rfl (st_pick_yes rfl (by first | rfl | exact q4) rfl rfl) ?_
      refine aops_nil ?_
      show Weak _ _
      (refine weak_mk rfl rfl ?_ ?_ rfl <;> repeat' (first | exact trivial | refine ⟨?_, ?_⟩ | exact VLe.refl _ | exact BLe.refl _ | refine VLe.one (CLe.val ?_) | exact VLe.one (CLe.nil _) | exact VLe.one (CLe.emp _))) <;> (first | (rw [q4]; done) | (rw [q4]; rfl) | (simp [q4]; done))
    refine aops_no rfl rfl rfl rfl rfl (by first | decide | (rw [q4]; decide)) ?_
    refine aops_no rfl rfl rfl rfl rfl (by first | decide | (rw [q4]; decide)) ?_
    refine aops_no rfl rfl rfl rfl rfl (by first | decide | (rw [q4]; decide)) ?_
    refine aops_step1 rfl (st_pick_no rfl (by first | rfl | exact q4) rfl rfl) ?_
    refine aops_nil ?_
    show Weak _ _
    (refine weak_mk rfl rfl ?_ ?_ rfl <;> repeat' (first | exact trivial | refine ⟨?_, ?_⟩ | exact VLe.refl _ | exact BLe.refl _ | refine VLe.one (CLe.val ?_) | exact VLe.one (CLe.nil _) | exact VLe.one (CLe.emp _))) <;> (first | (rw [q4]; done) | (rw [q4]; rfl) | (simp [q4]; done))
  change AOps _ _ _ (⟨52, [], [(0, .one (CV.ls byC a0)), (2, .one (.fn 42 [])), (6, .one (.own 0)), (7, .one (.val (.int .i64 s2_0))), (8, .one (.val (.int .i64 s2_1))), (9, .one (.val (.int .i64 x1.1))), (10, .one (.val (.int .i64 ((s2_2 : Nat) : Int)))), (27, .one (.val (.bool ((s2_1 == 0) && (decide (((s2_2 : Nat) : Int) < x1.1))))))], [(0, some (.row 3 1 s2_3.length (lsEl c_Int s2_3)))]⟩ : ASt) _
  refine aops_nil ?_
  refine aw_cond rfl (fun c5 => ?_) (fun c5 => ?_)
  · replace l2 := Md.cond_t l2 c5
    refine aw_skip ?_
    refine aw_seq ?_
    refine aw_block ?_
    refine aw_seq ?_
    refine aw_region ?_
    refine aops_step1 rfl (st_move rfl rfl) ?_
    refine aops_step1 rfl (st_move rfl rfl) ?_
    refine aops_step1 rfl (st_move rfl rfl) ?_
    obtain ⟨g6, l2⟩ := Md.ifp_s l2
    obtain ⟨g7, l2⟩ := Md.ifp_s l2
    refine aops_step1 rfl (st_cut_lo (f := byC) (fun _ => rfl) rfl ⟨_, _, rfl, (Md.nn_eq g6)⟩ g7 rfl) ?_
    obtain ⟨x8, hx8, l2⟩ := Md.bind_s l2
    refine aops_step1 rfl (ev_callee rfl (ev_call_v (wire_Int_fn k (a0.drop ((s2_0).toNat)) x8 hx8) rfl [] (by repeat' (first | exact All2.nil | refine All2.cons ?_ ?_ | refine ArgV.one ?_ | refine ArgV.agg ?_ | exact ArgC.mk rfl | exact ArgC.lend rfl (by simp) | exact ArgC.le (CLe.nil _) rfl | exact ArgC.le (CLe.emp _) rfl | exact ArgC.le (CLe.any _) rfl)) rfl rfl rfl (.inl rfl) rfl)) ?_
    refine aops_step1 rfl (st_movet rfl rfl) ?_
    refine aops_step1 rfl (ev_extract rfl rfl rfl) ?_
    refine aops_step1 rfl (ev_extract rfl rfl rfl) ?_
    refine aops_step1 rfl (ev_extract rfl rfl rfl) ?_
    refine aops_step1 rfl (st_assign rfl rfl) ?_
    refine aops_step1 rfl (st_assign rfl rfl) ?_
    refine aops_step1 rfl (st_assign rfl rfl) ?_
    refine aops_nil ?_
    refine aw_region ?_
    refine aops_step1 rfl (st_move rfl rfl) ?_
    refine aops_step1 rfl (st_move rfl rfl) ?_
    refine aops_step1 rfl (st_slice_lit (el := lsEl c_Int [x8.1]) 1 rfl rfl rfl rfl rfl rfl rfl rfl (lit_el c_Int 1 [x8.1] (fun _ => rfl)) rfl) ?_
    obtain ⟨g9, l2⟩ := Md.ifp_s l2
    refine aops_step1 rfl (st_app_ls (f := c_Int) s2_3 [x8.1] (fun _ => rfl) rfl rfl (.inr ⟨_, _, rfl, rfl⟩) (by omega) (by omega) rfl) ?_
    refine aops_step1 rfl (st_move rfl rfl) ?_
    refine aops_step1 rfl (st_move rfl rfl) ?_
    refine aops_step1 rfl (ev_add rfl rfl rfl (Md.wrap_W _)) ?_
    refine aops_step1 rfl (st_move rfl rfl) ?_
    refine aops_step1 rfl (st_assign rfl rfl) ?_
    refine aops_step1 rfl (st_assign rfl rfl) ?_
    refine aops_step1 rfl (st_assign rfl rfl) ?_
    refine aops_nil ?_
    refine aw_region ?_
    refine aops_step1 rfl (st_move rfl rfl) ?_
    obtain ⟨g10, l2⟩ := Md.ifp_s l2
    refine aops_step1 rfl (ev_add rfl rfl rfl (Md.nat_add g10)) ?_
    refine aops_step1 rfl (st_assign rfl rfl) ?_
    refine aops_nil ?_
    exact ⟨⟨(n2, (Md.W (s2_0 + x8.2.1)), x8.2.2, (s2_2 + 1), (s2_3 ++ [x8.1])), l2⟩, Nat.lt_succ_self _, (by (refine weak_mk rfl rfl ?_ ?_ rfl <;> repeat' (first | exact trivial | refine ⟨?_, ?_⟩ | exact VLe.refl _ | exact BLe.refl _ | refine VLe.one (CLe.val ?_) | exact VLe.one (CLe.nil _) | exact VLe.one (CLe.emp _))))⟩
  replace l2 := Md.cond_f l2 c5
  refine aw_exit ?_
  show ∃ _x : Int × Int × (List Int), _ = _ ∧ Weak _ _
  exact ⟨(s2_0, s2_1, s2_3), Option.some.inj l2, (by (refine weak_mk rfl rfl ?_ ?_ rfl <;> repeat' (first | exact trivial | refine ⟨?_, ?_⟩ | exact VLe.refl _ | exact BLe.refl _ | refine VLe.one (CLe.val ?_) | exact VLe.one (CLe.nil _) | exact VLe.one (CLe.emp _))))⟩
set_option maxHeartbeats 2000000 in
theorem wire_IntList_fn (k : Nat) (a0 : List UInt8) (a1 : Int) (r : (List Int) × Int × Int) (h : wire_IntList k a0 a1 = some r) : FnC Try.prog 16 [.one (CV.ls byC a0), .one (.val (.int .i64 a1))] [] (Det (.tup [.one (CV.ls c_Int r.1), .one (.val (.int .i64 r.2.1)), .one (.val (.int .i64 r.2.2))]) []) := by
  unfold wire_IntList at h
  refine fn_intro' 13 Try.func16 rfl rfl rfl ?_
  refine aw_seq ?_
  refine aw_region ?_
  refine aops_step1 rfl (st_assign rfl rfl) ?_
  refine aops_step1 rfl (st_assign rfl rfl) ?_
  refine aops_step1 rfl (st_assign rfl rfl) ?_
  refine aops_nil ?_
  refine aw_seq ?_
  refine aw_region ?_
  refine aops_step1 rfl (st_move rfl rfl) ?_
  refine aops_step1 rfl (st_move rfl rfl) ?_
  obtain ⟨x1, hx1, h⟩ := Md.bind_s h
  refine aops_step1 rfl (ev_call_v (wire_list_int__wire_Int_fn k a0 a1 x1 hx1) rfl [] (by repeat' (first | exact All2.nil | refine All2.cons ?_ ?_ | refine ArgV.one ?_ | refine ArgV.agg ?_ | exact ArgC.mk rfl | exact ArgC.lend rfl (by simp) | exact ArgC.le (CLe.nil _) rfl | exact ArgC.le (CLe.emp _) rfl | exact ArgC.le (CLe.any _) rfl)) rfl rfl rfl (.inl rfl) rfl) ?_
  refine aops_step1 rfl (ev_extract rfl rfl rfl) ?_
  refine aops_step1 rfl (ev_extract rfl rfl rfl) ?_
  refine aops_step1 rfl (ev_extract rfl rfl rfl) ?_
  refine aops_step1 rfl (st_assign rfl rfl) ?_
  refine aops_step1 rfl (st_assign rfl rfl) ?_
  refine aops_step1 rfl (st_assign rfl rfl) ?_
  refine aops_nil ?_
  cases Option.some.inj h
  refine aw_ret ⟨rfl, ret_v (.inr ⟨by decide, _, rfl, .cons (show get _ _ = AV.one _ from rfl) (.cons (show get _ _ = AV.one _ from rfl) (.cons (show get _ _ = AV.one _ from rfl) (.nil))), by intro y hy vs e; subst e; simp at hy⟩) rfl rfl rfl ?_⟩
  (repeat' (first | exact TLe.refl _ | exact VLe.refl _ | exact CLe.refl _ | exact All2.nil | refine TLe.tup ?_ | refine TLe.v ?_ | refine All2.cons ?_ ?_ | refine VLe.agg ?_ | refine VLe.one ?_ | exact CLe.nil _ | exact CLe.emp _ | refine CLe.val ?_ | refine CLe.slc ?_ ?_))
set_option maxHeartbeats 2000000 in
theorem wire_StringList_1_fn (k : Nat) (a0 : List UInt8) (r : (List UInt8) × Int × Int) (h : wire_StringList_1 k a0 = some r) : FnC Try.prog 56 [.one (CV.ls byC a0)] [] (Det (.tup [.one (.val (Sv r.1)), .one (.val (.int .i64 r.2.1)), .one (.val (.int .i64 r.2.2))]) []) := by
  unfold wire_StringList_1 at h
  refine fn_intro' 10 Try.func56 rfl rfl rfl ?_
  refine aw_seq ?_
  refine aw_region ?_
  refine aops_step1 rfl (st_assign rfl rfl) ?_
  refine aops_step1 rfl (st_assign rfl rfl) ?_
  refine aops_step1 rfl (st_assign rfl rfl) ?_
  refine aops_nil ?_
  refine aw_seq ?_
  refine aw_region ?_
  refine aops_step1 rfl (st_move rfl rfl) ?_
  obtain ⟨x1, hx1, h⟩ := Md.bind_s h
  refine aops_step1 rfl (ev_call_v (wire_String_fn k a0 64 x1 hx1) rfl [] (by repeat' (first | exact All2.nil | refine All2.cons ?_ ?_ | refine ArgV.one ?_ | refine ArgV.agg ?_ | exact ArgC.mk rfl | exact ArgC.lend rfl (by simp) | exact ArgC.le (CLe.nil _) rfl | exact ArgC.le (CLe.emp _) rfl | exact ArgC.le (CLe.any _) rfl)) rfl rfl rfl (.inl rfl) rfl) ?_
  refine aops_step1 rfl (ev_extract rfl rfl rfl) ?_
  refine aops_step1 rfl (ev_extract rfl rfl rfl) ?_
  refine aops_step1 rfl (ev_extract rfl rfl rfl) ?_
  refine aops_step1 rfl (st_assign rfl rfl) ?_
  refine aops_step1 rfl (st_assign rfl rfl) ?_
  refine aops_step1 rfl (st_assign rfl rfl) ?_
  refine aops_nil ?_
  cases Option.some.inj h
  refine aw_ret ⟨rfl, ret_v (.inr ⟨by decide, _, rfl, .cons (show get _ _ = AV.one _ from rfl) (.cons (show get _ _ = AV.one _ from rfl) (.cons (show get _ _ = AV.one _ from rfl) (.nil))), by intro y hy vs e; subst e; simp at hy⟩) rfl rfl rfl ?_⟩
  (repeat' (first | exact TLe.refl _ | exact VLe.refl _ | exact CLe.refl _ | exact All2.nil | refine TLe.tup ?_ | refine TLe.v ?_ | refine All2.cons ?_ ?_ | refine VLe.agg ?_ | refine VLe.one ?_ | exact CLe.nil _ | exact CLe.emp _ | refine CLe.val ?_ | refine CLe.slc ?_ ?_))
set_option maxHeartbeats 2000000 in
theorem wire_list_string__wire_StringList_1_fn (k : Nat) (a0 : List UInt8) (a1 : Int) (r : (List (List UInt8)) × Int × Int) (h : wire_list_string__wire_StringList_1 k a0 a1 = some r) : FnC Try.prog 55 [.one (CV.ls byC a0), .one (.val (.int .i64 a1)), .one (.fn 56 [])] [] (Det (.tup [.one (CV.ls c_Str r.1), .one (.val (.int .i64 r.2.1)), .one (.val (.int .i64 r.2.2))]) []) := by
  unfold wire_list_string__wire_StringList_1 at h
  refine fn_intro' 52 Try.func55 rfl rfl rfl ?_
  refine aw_seq ?_
  refine aw_region ?_
  refine aops_step1 rfl (st_assign rfl rfl) ?_
  refine aops_step1 rfl (st_assign rfl rfl) ?_
  refine aops_step1 rfl (st_assign rfl rfl) ?_
  refine aops_nil ?_
  refine aw_seq ?_
  refine aw_region ?_
  refine aops_step1 rfl (st_move rfl rfl) ?_
  refine aops_step1 rfl (st_move rfl rfl) ?_
  obtain ⟨x1, hx1, h⟩ := Md.bind_s h
  refine aops_step1 rfl (ev_call_v (wire_length_fn k a0 a1 x1 hx1) rfl [] (by repeat' (first | exact All2.nil | refine All2.cons ?_ ?_ | refine ArgV.one ?_ | refine ArgV.agg ?_ | exact ArgC.mk rfl | exact ArgC.lend rfl (by simp) | exact ArgC.le (CLe.nil _) rfl | exact ArgC.le (CLe.emp _) rfl | exact ArgC.le (CLe.any _) rfl)) rfl rfl rfl (.inl rfl) rfl) ?_
  refine aops_step1 rfl (st_movet rfl rfl) ?_
  refine aops_step1 rfl (ev_extract rfl rfl rfl) ?_
  refine aops_step1 rfl (ev_extract rfl rfl rfl) ?_
  refine aops_step1 rfl (ev_extract rfl rfl rfl) ?_
  refine aops_step1 rfl (st_assign rfl rfl) ?_
  refine aops_step1 rfl (st_assign rfl rfl) ?_
  refine aops_step1 rfl (st_assign rfl rfl) ?_
  refine aops_nil ?_
  refine aw_seq ?_
  refine aw_seq ?_
  refine aw_region ?_
  refine aops_step1 rfl (st_assign rfl rfl) ?_
  refine aops_nil ?_
  refine aw_block ?_
  refine aw_own_nil 6 0 9 1 (lsEl c_Str []) rfl rfl ?_
  obtain ⟨o2, ho2, h⟩ := Md.bind_s h
  refine aw_loop_x (ι := {p : Nat × Int × Int × Nat × (List (List UInt8)) // wire_list_string__wire_StringList_1_loop1 k a0 x1 p.1 p.2.1 p.2.2.1 p.2.2.2.1 p.2.2.2.2 = some o2}) (fun p => (⟨52, [], [(0, .one (CV.ls byC a0)), (2, .one (.fn 56 [])), (6, .one (.own 0)), (7, .one (.val (.int .i64 p.1.2.1))), (8, .one (.val (.int .i64 p.1.2.2.1))), (9, .one (.val (.int .i64 x1.1))), (10, .one (.val (.int .i64 ((p.1.2.2.2.1 : Nat) : Int))))], [(0, some (.row 9 1 p.1.2.2.2.2.length (lsEl c_Str p.1.2.2.2.2)))]⟩ : ASt)) (fun p => p.1.1) ⟨(k, x1.2.1, x1.2.2, 0, ([] : List (List UInt8))), ho2⟩ (by (refine weak_mk rfl rfl ?_ ?_ rfl <;> repeat' (first | exact trivial | refine ⟨?_, ?_⟩ | exact VLe.refl _ | exact BLe.refl _ | refine VLe.one (CLe.val ?_) | exact VLe.one (CLe.nil _) | exact VLe.one (CLe.emp _)))) 0 (ε := (Int × Int × (List (List UInt8)))) (fun x => (⟨52, [], [(6, .one (.own 0)), (7, .one (.val (.int .i64 x.1))), (8, .one (.val (.int .i64 x.2.1)))], [(0, some (.row 9 1 x.2.2.length (lsEl c_Str x.2.2)))]⟩ : ASt)) (fun x => x = o2) (fun _ _ w h => aw_weak w h) ?_ ?_
  · intro x2_0 hI2
    subst hI2
    change AW _ _ (⟨52, [], [(6, .one (.own 0)), (7, .one (.val (.int .i64 x2_0.1))), (8, .one (.val (.int .i64 x2_0.2.1)))], [(0, some (.row 9 1 x2_0.2.2.length (lsEl c_Str x2_0.2.2)))]⟩ : ASt) _
    refine aw_seq ?_
    refine aw_seq ?_
    refine aw_region ?_
    refine aops_step1 rfl (st_move rfl rfl) ?_
    refine aops_step1 rfl (ev_cmp rfl rfl rfl rfl) ?_
    refine aops_nil ?_
    refine aw_cond rfl (fun c3 => ?_) (fun c3 => ?_)
    · replace h := Md.cond_t h c3
      refine aw_seq ?_
      refine aw_region ?_
      refine aops_step1 rfl (st_move rfl rfl) ?_
      refine aops_step1 rfl (st_assign rfl rfl) ?_
      refine aops_step1 rfl (st_assign rfl rfl) ?_
      refine aops_step1 rfl (st_assign rfl rfl) ?_
      refine aops_nil ?_
      cases Option.some.inj h
      refine aw_ret ⟨rfl, ret_v (.inr ⟨by decide, _, rfl, .cons (show get _ _ = AV.one _ from rfl) (.cons (show get _ _ = AV.one _ from rfl) (.cons (show get _ _ = AV.one _ from rfl) (.nil))), by intro y hy vs e; subst e; simp at hy⟩) rfl rfl rfl ?_⟩
      (repeat' (first | exact TLe.refl _ | exact VLe.refl _ | exact CLe.refl _ | exact All2.nil | refine TLe.tup ?_ | refine TLe.v ?_ | refine All2.cons ?_ ?_ | refine VLe.agg ?_ | refine VLe.one ?_ | exact CLe.nil _ | exact CLe.emp _ | refine CLe.val ?_ | refine CLe.slc ?_ ?_))
    replace h := Md.cond_f h c3
    refine aw_skip ?_
    refine aw_seq ?_
    refine aw_region ?_
    refine aops_step1 rfl (st_move rfl rfl) ?_
    refine aops_step1 rfl (st_move rfl rfl) ?_
    refine aops_step1 rfl (st_assign rfl rfl) ?_
    refine aops_step1 rfl (st_assign rfl rfl) ?_
    refine aops_step1 rfl (st_assign rfl rfl) ?_
    refine aops_nil ?_
    cases Option.some.inj h
    refine aw_freeze 0 rfl ?_
    refine aw_ret ⟨rfl, ret_v (.inr ⟨by decide, _, rfl, .cons (show get _ _ = AV.one _ from rfl) (.cons (show get _ _ = AV.one _ from rfl) (.cons (show get _ _ = AV.one _ from rfl) (.nil))), by intro y hy vs e; subst e; simp at hy⟩) rfl rfl rfl ?_⟩
    (repeat' (first | exact TLe.refl _ | exact VLe.refl _ | exact CLe.refl _ | exact All2.nil | refine TLe.tup ?_ | refine TLe.v ?_ | refine All2.cons ?_ ?_ | refine VLe.agg ?_ | refine VLe.one ?_ | exact CLe.nil _ | exact CLe.emp _ | refine CLe.val ?_ | refine CLe.slc ?_ ?_))
  intro p2
  obtain ⟨⟨n2, s2_0, s2_1, s2_2, s2_3⟩, l2⟩ := p2
  change AW _ _ (⟨52, [], [(0, .one (CV.ls byC a0)), (2, .one (.fn 56 [])), (6, .one (.own 0)), (7, .one (.val (.int .i64 s2_0))), (8, .one (.val (.int .i64 s2_1))), (9, .one (.val (.int .i64 x1.1))), (10, .one (.val (.int .i64 ((s2_2 : Nat) : Int))))], [(0, some (.row 9 1 s2_3.length (lsEl c_Str s2_3)))]⟩ : ASt) _
  replace l2 : wire_list_string__wire_StringList_1_loop1 k a0 x1 n2 s2_0 s2_1 s2_2 s2_3 = some o2 := l2
  rcases n2 with _ | n2
  · exact absurd (show none = some o2 from l2) nofun
  rw [wire_list_string__wire_StringList_1_loop1] at l2
  refine aw_seq ?_
  refine aw_seq ?_
  refine aw_region ?_
  refine aops_step1 rfl (st_move rfl rfl) ?_
  refine aops_step1 rfl (ev_cmp rfl rfl rfl rfl) ?_
  refine aops_step1 rfl (st_move rfl rfl) ?_
  refine aops_mid 4 (⟨52, [], [(0, .one (CV.ls byC a0)), (2, .one (.fn 56 [])), (6, .one (.own 0)), (7, .one (.val (.int .i64 s2_0))), (8, .one (.val (.int .i64 s2_1))), (9, .one (.val (.int .i64 x1.1))), (10, .one (.val (.int .i64 ((s2_2 : Nat) : Int)))), (27, .one (.val (.bool ((s2_1 == 0) && (decide (((s2_2 : Nat) : Int) < x1.1))))))], [(0, some (.row 9 1 s2_3.length (lsEl c_Str s2_3)))]⟩ : ASt) ?_ ?_
  · rcases Md.bool_or ((s2_1 == 0)) with q4 | q4
    · skip
      refine aops_yes rfl rfl rfl rfl q4 (st_move rfl rfl) ?_
      refine aops_yes rfl rfl rfl rfl q4 (st_move rfl rfl) ?_
      refine aops_yes rfl rfl rfl rfl q4 (ev_cmp rfl rfl rfl rfl) ?_
      refine aops_step1 rfl (st_pick_yes rfl (by first | rfl | exact q4) rfl rfl) ?_
      refine aops_nil ?_
      show Weak _ _
      (refine weak_mk rfl rfl ?_ ?_ rfl <;> repeat' (first | exact trivial | refine ⟨?_, ?_⟩ | exact VLe.refl _ | exact BLe.refl _ | refine VLe.one (CLe.val ?_) | exact VLe.one (CLe.nil _) | exact VLe.one (CLe.emp _))) <;> (first | (rw [q4]; done) | (rw [q4]; rfl) | (simp [q4]; done))
    refine aops_no rfl rfl rfl rfl rfl (by first | decide | (rw [q4]; decide)) ?_
    refine aops_no rfl rfl rfl rfl rfl (by first | decide | (rw [q4]; decide)) ?_
    refine aops_no rfl rfl rfl rfl rfl (by first | decide | (rw [q4]; decide)) ?_
    refine aops_step1 rfl (st_pick_no rfl (by first | rfl | exact q4) rfl rfl) ?_
    refine aops_nil ?_
    show Weak _ _
    (refine weak_mk rfl rfl ?_ ?_ rfl <;> repeat' (first | exact trivial | refine ⟨?_, ?_⟩ | exact VLe.refl _ | exact BLe.refl _ | refine VLe.one (CLe.val ?_) | exact VLe.one (CLe.nil _) | exact VLe.one (CLe.emp _))) <;> (first | (rw [q4]; done) | (rw [q4]; rfl) | (simp [q4]; done))
  change AOps _ _ _ (⟨52, [], [(0, .one (CV.ls byC a0)), (2, .one (.fn 56 [])), (6, .one (.own 0)), (7, .one (.val (.int .i64 s2_0))), (8, .one (.val (.int .i64 s2_1))), (9, .one (.val (.int .i64 x1.1))), (10, .one (.val (.int .i64 ((s2_2 : Nat) : Int)))), (27, .one (.val (.bool ((s2_1 == 0) && (decide (((s2_2 : Nat) : Int) < x1.1))))))], [(0, some (.row 9 1 s2_3.length (lsEl c_Str s2_3)))]⟩ : ASt) _
  refine aops_nil ?_
  refine aw_cond rfl (fun c5 => ?_) (fun c5 => ?_)
  · replace l2 := Md.cond_t l2 c5
    refine aw_skip ?_
    refine aw_seq ?_
    refine aw_block ?_
    refine aw_seq ?_
    refine aw_region ?_
    refine aops_step1 rfl (st_move rfl rfl) ?_
    refine aops_step1 rfl (st_move rfl rfl) ?_
    refine aops_step1 rfl (st_move rfl rfl) ?_
    obtain ⟨g6, l2⟩ := Md.ifp_s l2
    obtain ⟨g7, l2⟩ := Md.ifp_s l2
    refine aops_step1 rfl (st_cut_lo (f := byC) (fun _ => rfl) rfl ⟨_, _, rfl, (Md.nn_eq g6)⟩ g7 rfl) ?_
    obtain ⟨x8, hx8, l2⟩ := Md.bind_s l2
    refine aops_step1 rfl (ev_callee rfl (ev_call_v (wire_StringList_1_fn k (a0.drop ((s2_0).toNat)) x8 hx8) rfl [] (by repeat' (first | exact All2.nil | refine All2.cons ?_ ?_ | refine ArgV.one ?_ | refine ArgV.agg ?_ | exact ArgC.mk rfl | exact ArgC.lend rfl (by simp) | exact ArgC.le (CLe.nil _) rfl | exact ArgC.le (CLe.emp _) rfl | exact ArgC.le (CLe.any _) rfl)) rfl rfl rfl (.inl rfl) rfl)) ?_
    refine aops_step1 rfl (st_movet rfl rfl) ?_
    refine aops_step1 rfl (ev_extract rfl rfl rfl) ?_
    refine aops_step1 rfl (ev_extract rfl rfl rfl) ?_
    refine aops_step1 rfl (ev_extract rfl rfl rfl) ?_
    refine aops_step1 rfl (st_assign rfl rfl) ?_
    refine aops_step1 rfl (st_assign rfl rfl) ?_
    refine aops_step1 rfl (st_assign rfl rfl) ?_
    refine aops_nil ?_
    refine aw_region ?_
    refine aops_step1 rfl (st_move rfl rfl) ?_
    refine aops_step1 rfl (st_move rfl rfl) ?_
    refine aops_step1 rfl (st_slice_lit (el := lsEl c_Str [x8.1]) 1 rfl rfl rfl rfl rfl rfl rfl rfl (lit_el c_Str 1 [x8.1] (fun _ => rfl)) rfl) ?_
    obtain ⟨g9, l2⟩ := Md.ifp_s l2
    refine aops_step1 rfl (st_app_ls (f := c_Str) s2_3 [x8.1] (fun _ => rfl) rfl rfl (.inr ⟨_, _, rfl, rfl⟩) (by omega) (by omega) rfl) ?_
    refine aops_step1 rfl (st_move rfl rfl) ?_
    refine aops_step1 rfl (st_move rfl rfl) ?_
    refine aops_step1 rfl (ev_add rfl rfl rfl (Md.wrap_W _)) ?_
    refine aops_step1 rfl (st_move rfl rfl) ?_
    refine aops_step1 rfl (st_assign rfl rfl) ?_
    refine aops_step1 rfl (st_assign rfl rfl) ?_
    refine aops_step1 rfl (st_assign rfl rfl) ?_
    refine aops_nil ?_
    refine aw_region ?_
    refine aops_step1 rfl (st_move rfl rfl) ?_
    obtain ⟨g10, l2⟩ := Md.ifp_s l2
    refine aops_step1 rfl (ev_add rfl rfl rfl (Md.nat_add g10)) ?_
    refine aops_step1 rfl (st_assign rfl rfl) ?_
    refine aops_nil ?_
    exact ⟨⟨(n2, (Md.W (s2_0 + x8.2.1)), x8.2.2, (s2_2 + 1), (s2_3 ++ [x8.1])), l2⟩, Nat.lt_succ_self _, (by (refine weak_mk rfl rfl ?_ ?_ rfl <;> repeat' (first | exact trivial | refine ⟨?_, ?_⟩ | exact VLe.refl _ | exact BLe.refl _ | refine VLe.one (CLe.val ?_) | exact VLe.one (CLe.nil _) | exact VLe.one (CLe.emp _))))⟩
  replace l2 := Md.cond_f l2 c5
  refine aw_exit ?_
  show ∃ _x : Int × Int × (List (List UInt8)), _ = _ ∧ Weak _ _
  exact ⟨(s2_0, s2_1, s2_3), Option.some.inj l2, (by (refine weak_mk rfl rfl ?_ ?_ rfl <;> repeat' (first | exact trivial | refine ⟨?_, ?_⟩ | exact VLe.refl _ | exact BLe.refl _ | refine VLe.one (CLe.val ?_) | exact VLe.one (CLe.nil _) | exact VLe.one (CLe.emp _))))⟩
set_option maxHeartbeats 2000000 in
theorem wire_StringList_fn (k : Nat) (a0 : List UInt8) (a1 : Int) (r : (List (List UInt8)) × Int × Int) (h : wire_StringList k a0 a1 = some r) : FnC Try.prog 18 [.one (CV.ls byC a0), .one (.val (.int .i64 a1))] [] (Det (.tup [.one (CV.ls c_Str r.1), .one (.val (.int .i64 r.2.1)), .one (.val (.int .i64 r.2.2))]) []) := by
  unfold wire_StringList at h
  refine fn_intro' 13 Try.func18 rfl rfl rfl ?_
  refine aw_seq ?_
  refine aw_region ?_
  refine aops_step1 rfl (st_assign rfl rfl) ?_
  refine aops_step1 rfl (st_assign rfl rfl) ?_
  refine aops_step1 rfl (st_assign rfl rfl) ?_
  refine aops_nil ?_
  refine aw_seq ?_
  refine aw_region ?_
  refine aops_step1 rfl (st_move rfl rfl) ?_
  refine aops_step1 rfl (st_move rfl rfl) ?_
  obtain ⟨x1, hx1, h⟩ := Md.bind_s h
  refine aops_step1 rfl (ev_call_v (wire_list_string__wire_StringList_1_fn k a0 a1 x1 hx1) rfl [] (by repeat' (first | exact All2.nil | refine All2.cons ?_ ?_ | refine ArgV.one ?_ | refine ArgV.agg ?_ | exact ArgC.mk rfl | exact ArgC.lend rfl (by simp) | exact ArgC.le (CLe.nil _) rfl | exact ArgC.le (CLe.emp _) rfl | exact ArgC.le (CLe.any _) rfl)) rfl rfl rfl (.inl rfl) rfl) ?_
  refine aops_step1 rfl (ev_extract rfl rfl rfl) ?_
  refine aops_step1 rfl (ev_extract rfl rfl rfl) ?_
  refine aops_step1 rfl (ev_extract rfl rfl rfl) ?_
  refine aops_step1 rfl (st_assign rfl rfl) ?_
  refine aops_step1 rfl (st_assign rfl rfl) ?_
  refine aops_step1 rfl (st_assign rfl rfl) ?_
  refine aops_nil ?_
  cases Option.some.inj h
  refine aw_ret ⟨rfl, ret_v (.inr ⟨by decide, _, rfl, .cons (show get _ _ = AV.one _ from rfl) (.cons (show get _ _ = AV.one _ from rfl) (.cons (show get _ _ = AV.one _ from rfl) (.nil))), by intro y hy vs e; subst e; simp at hy⟩) rfl rfl rfl ?_⟩
  (repeat' (first | exact TLe.refl _ | exact VLe.refl _ | exact CLe.refl _ | exact All2.nil | refine TLe.tup ?_ | refine TLe.v ?_ | refine All2.cons ?_ ?_ | refine VLe.agg ?_ | refine VLe.one ?_ | exact CLe.nil _ | exact CLe.emp _ | refine CLe.val ?_ | refine CLe.slc ?_ ?_))
set_option maxHeartbeats 2000000 in
theorem wire_boolean_fn (k : Nat) (a0 : List UInt8) (r : Int × Int × Int) (h : wire_boolean k a0 = some r) : FnC Try.prog 63 [.one (CV.ls byC a0)] [] (Det (.tup [.one (.val (.int .i64 r.1)), .one (.val (.int .i64 r.2.1)), .one (.val (.int .i64 r.2.2))]) []) := by
  unfold wire_boolean at h
  refine fn_intro' 18 Try.func63 rfl rfl rfl ?_
  refine aw_seq ?_
  refine aw_region ?_
  refine aops_step1 rfl (st_assign rfl rfl) ?_
  refine aops_step1 rfl (st_assign rfl rfl) ?_
  refine aops_step1 rfl (st_assign rfl rfl) ?_
  refine aops_nil ?_
  refine aw_seq ?_
  refine aw_block ?_
  refine aw_seq ?_
  refine aw_region ?_
  refine aops_step1 rfl (st_move rfl rfl) ?_
  refine aops_step1 rfl (ev_len_slc rfl rfl) ?_
  refine aops_step1 rfl (ev_cmp rfl rfl rfl rfl) ?_
  refine aops_step1 rfl (st_assign rfl rfl) ?_
  refine aops_nil ?_
  refine aw_cond rfl (fun c1 => ?_) (fun c1 => ?_)
  · replace h := Md.cond_t h c1
    refine aw_seq ?_
    refine aw_region ?_
    refine aops_step1 rfl (st_assign rfl rfl) ?_
    refine aops_step1 rfl (st_assign rfl rfl) ?_
    refine aops_step1 rfl (st_assign rfl rfl) ?_
    refine aops_nil ?_
    cases Option.some.inj h
    refine aw_ret ⟨rfl, ret_v (.inr ⟨by decide, _, rfl, .cons (show get _ _ = AV.one _ from rfl) (.cons (show get _ _ = AV.one _ from rfl) (.cons (show get _ _ = AV.one _ from rfl) (.nil))), by intro y hy vs e; subst e; simp at hy⟩) rfl rfl rfl ?_⟩
    (repeat' (first | exact TLe.refl _ | exact VLe.refl _ | exact CLe.refl _ | exact All2.nil | refine TLe.tup ?_ | refine TLe.v ?_ | refine All2.cons ?_ ?_ | refine VLe.agg ?_ | refine VLe.one ?_ | exact CLe.nil _ | exact CLe.emp _ | refine CLe.val ?_ | refine CLe.slc ?_ ?_))
  replace h := Md.cond_f h c1
  refine aw_seq ?_
  refine aw_region ?_
  refine aops_step1 rfl (st_move rfl rfl) ?_
  obtain ⟨g2, h⟩ := Md.ifp_s h
  refine aops_step1 rfl (ev_index_in rfl rfl rfl g2 rfl rfl) ?_
  refine aops_step1 rfl (ev_load_in rfl rfl rfl) ?_
  refine aops_step1 rfl (ev_cmp rfl rfl rfl rfl) ?_
  refine aops_step1 rfl (st_assign rfl rfl) ?_
  refine aops_nil ?_
  refine aw_cond rfl (fun c3 => ?_) (fun c3 => ?_)
  · replace h := Md.cond_t h c3
    refine aw_seq ?_
    refine aw_region ?_
    refine aops_step1 rfl (st_assign rfl rfl) ?_
    refine aops_step1 rfl (st_assign rfl rfl) ?_
    refine aops_step1 rfl (st_assign rfl rfl) ?_
    refine aops_nil ?_
    cases Option.some.inj h
    refine aw_ret ⟨rfl, ret_v (.inr ⟨by decide, _, rfl, .cons (show get _ _ = AV.one _ from rfl) (.cons (show get _ _ = AV.one _ from rfl) (.cons (show get _ _ = AV.one _ from rfl) (.nil))), by intro y hy vs e; subst e; simp at hy⟩) rfl rfl rfl ?_⟩
    (repeat' (first | exact TLe.refl _ | exact VLe.refl _ | exact CLe.refl _ | exact All2.nil | refine TLe.tup ?_ | refine TLe.v ?_ | refine All2.cons ?_ ?_ | refine VLe.agg ?_ | refine VLe.one ?_ | exact CLe.nil _ | exact CLe.emp _ | refine CLe.val ?_ | refine CLe.slc ?_ ?_))
  replace h := Md.cond_f h c3
  refine aw_skip ?_
  refine aw_seq ?_
  refine aw_region ?_
  refine aops_step1 rfl (st_move rfl rfl) ?_
  obtain ⟨g4, h⟩ := Md.ifp_s h
  refine aops_step1 rfl (ev_index_in rfl rfl rfl g4 rfl rfl) ?_
  refine aops_step1 rfl (ev_load_in rfl rfl rfl) ?_
  refine aops_step1 rfl (st_conv_int rfl rfl Try.underlying5 Try.underlying3 (Md.conv_u8_i64 (a0.getD 0 default))) ?_
  refine aops_step1 rfl (st_assign rfl rfl) ?_
  refine aops_step1 rfl (st_assign rfl rfl) ?_
  refine aops_step1 rfl (st_assign rfl rfl) ?_
  refine aops_nil ?_
  cases Option.some.inj h
  refine aw_ret ⟨rfl, ret_v (.inr ⟨by decide, _, rfl, .cons (show get _ _ = AV.one _ from rfl) (.cons (show get _ _ = AV.one _ from rfl) (.cons (show get _ _ = AV.one _ from rfl) (.nil))), by intro y hy vs e; subst e; simp at hy⟩) rfl rfl rfl ?_⟩
  (repeat' (first | exact TLe.refl _ | exact VLe.refl _ | exact CLe.refl _ | exact All2.nil | refine TLe.tup ?_ | refine TLe.v ?_ | refine All2.cons ?_ ?_ | refine VLe.agg ?_ | refine VLe.one ?_ | exact CLe.nil _ | exact CLe.emp _ | refine CLe.val ?_ | refine CLe.slc ?_ ?_))
set_option maxHeartbeats 2000000 in
theorem wire_Value_fn (k : Nat) (a0 : List UInt8) (r : Value × Int × Int) (h : wire_Value k a0 = some r) : FnC Try.prog 39 [.one (CV.ls byC a0)] [] (Det (.tup [.agg [.val (.int .i64 r.1.Kind), .val (.int .i64 r.1.N), .val (Sv r.1.S), CV.ls c_Int r.1.I, CV.ls c_Str r.1.L], .one (.val (.int .i64 r.2.1)), .one (.val (.int .i64 r.2.2))]) []) := by
  unfold wire_Value at h
  refine fn_intro' 73 Try.func39 rfl rfl rfl ?_
  refine aw_seq ?_
  refine aw_region ?_
  refine aops_step1 rfl (st_alloc (cs := [.val (.int .i64 0), .val (.int .i64 0), .val (Sv []), .val (.slice none 0 0), .val (.slice none 0 0)]) 0 rfl rfl rfl rfl rfl) ?_
  refine aops_step1 rfl (st_assign rfl rfl) ?_
  refine aops_step1 rfl (st_assign rfl rfl) ?_
  refine aops_nil ?_
  refine aw_seq ?_
  refine aw_seq ?_
  refine aw_region ?_
  refine aops_step1 rfl (st_move rfl rfl) ?_
  refine aops_step1 rfl (ev_len_slc rfl rfl) ?_
  refine aops_step1 rfl (ev_cmp rfl rfl rfl rfl) ?_
  refine aops_nil ?_
  refine aw_cond rfl (fun c1 => ?_) (fun c1 => ?_)
  · replace h := Md.cond_t h c1
    refine aw_seq ?_
    refine aw_region ?_
    refine aops_step1 rfl (ev_build' (out := [_, _, _, _, _]) rfl rfl rfl rfl rfl) ?_
    refine aops_step1 rfl (st_store (cs' := [_, _, _, _, _]) rfl rfl rfl rfl rfl rfl rfl rfl rfl) ?_
    refine aops_step1 rfl (st_assign rfl rfl) ?_
    refine aops_step1 rfl (st_assign rfl rfl) ?_
    refine aops_nil ?_
    cases Option.some.inj h
    refine aw_ret ⟨rfl, ret_v (.inr ⟨by decide, _, rfl, .cons (show resVar _ _ _ (AV.agg [_, _, _, _, _]) from ⟨_, _, _, _, _, rfl, rfl, TVar.h, rfl, rfl⟩) (.cons (show get _ _ = AV.one _ from rfl) (.cons (show get _ _ = AV.one _ from rfl) (.nil))), by intro y hy vs e; subst e; simp at hy⟩) rfl rfl rfl ?_⟩
    (repeat' (first | exact TLe.refl _ | exact VLe.refl _ | exact CLe.refl _ | exact All2.nil | refine TLe.tup ?_ | refine TLe.v ?_ | refine All2.cons ?_ ?_ | refine VLe.agg ?_ | refine VLe.one ?_ | exact CLe.nil _ | exact CLe.emp _ | refine CLe.val ?_ | refine CLe.slc ?_ ?_))
  replace h := Md.cond_f h c1
  refine aw_skip ?_
  refine aw_seq ?_
  refine aw_region ?_
  refine aops_step1 rfl (st_move rfl rfl) ?_
  obtain ⟨g2, h⟩ := Md.ifp_s h
  refine aops_step1 rfl (ev_index_in rfl rfl rfl g2 rfl rfl) ?_
  refine aops_step1 rfl (ev_load_in rfl rfl rfl) ?_
  refine aops_step1 rfl (st_conv_int rfl rfl Try.underlying5 Try.underlying3 (Md.conv_u8_i64 (a0.getD 0 default))) ?_
  refine aops_step1 rfl (ev_field rfl rfl rfl) ?_
  refine aops_step1 rfl (st_store (cs' := [_, _, _, _, _]) rfl rfl rfl rfl rfl rfl rfl rfl rfl) ?_
  refine aops_nil ?_
  refine aw_seq ?_
  refine aw_region ?_
  refine aops_step1 rfl (st_move rfl rfl) ?_
  obtain ⟨g3, h⟩ := Md.ifp_s h
  refine aops_step1 rfl (st_cut_lo (f := byC) (fun _ => rfl) rfl ⟨_, _, rfl, rfl⟩ g3 rfl) ?_
  refine aops_step1 rfl (st_assign rfl rfl) ?_
  refine aops_nil ?_
  refine aw_seq ?_
  refine aw_seq ?_
  refine aw_region ?_
  refine aops_step1 rfl (ev_field rfl rfl rfl) ?_
  refine aops_step1 rfl (ev_load rfl rfl rfl rfl) ?_
  refine aops_nil ?_
  refine aw_block ?_
  refine aw_seq ?_
  refine aw_region ?_
  refine aops_step1 rfl (ev_cmp rfl rfl rfl rfl) ?_
  refine aops_step1 rfl (st_assign rfl rfl) ?_
  refine aops_nil ?_
  refine aw_cond rfl (fun c4 => ?_) (fun c4 => ?_)
  · replace h := Md.cond_t h c4
    refine aw_skip ?_
    refine aw_seq ?_
    refine aw_seq ?_
    refine aw_region ?_
    refine aops_step1 rfl (st_move rfl rfl) ?_
    refine aops_step1 rfl (ev_cmp (b := false) rfl rfl rfl rfl) ?_
    refine aops_nil ?_
    refine aw_no rfl (rfl) ?_
    refine aw_skip ?_
    refine aw_seq ?_
    refine aw_region ?_
    refine aops_step1 rfl (ev_loads (ds := [_, _, _, _, _]) rfl rfl rfl rfl rfl) ?_
    refine aops_step1 rfl (st_move rfl rfl) ?_
    refine aops_step1 rfl (ev_add (q := 1) rfl rfl rfl (by decide)) ?_
    refine aops_step1 rfl (st_store (cs' := [_, _, _, _, _]) rfl rfl rfl rfl rfl rfl rfl rfl rfl) ?_
    refine aops_step1 rfl (st_assign rfl rfl) ?_
    refine aops_step1 rfl (st_assign rfl rfl) ?_
    refine aops_nil ?_
    cases Option.some.inj h
    refine aw_ret ⟨rfl, ret_v (.inr ⟨by decide, _, rfl, .cons (show resVar _ _ _ (AV.agg [_, _, _, _, _]) from ⟨_, _, _, _, _, rfl, rfl, TVar.h, rfl, rfl⟩) (.cons (show get _ _ = AV.one _ from rfl) (.cons (show get _ _ = AV.one _ from rfl) (.nil))), by intro y hy vs e; subst e; simp at hy⟩) rfl rfl rfl ?_⟩
    (repeat' (first | exact TLe.refl _ | exact VLe.refl _ | exact CLe.refl _ | exact All2.nil | refine TLe.tup ?_ | refine TLe.v ?_ | refine All2.cons ?_ ?_ | refine VLe.agg ?_ | refine VLe.one ?_ | exact CLe.nil _ | exact CLe.emp _ | refine CLe.val ?_ | refine CLe.slc ?_ ?_))
  replace h := Md.cond_f h c4
  refine aw_seq ?_
  refine aw_region ?_
  refine aops_step1 rfl (ev_cmp rfl rfl rfl rfl) ?_
  refine aops_step1 rfl (st_assign rfl rfl) ?_
  refine aops_nil ?_
  refine aw_cond rfl (fun c5 => ?_) (fun c5 => ?_)
  · replace h := Md.cond_t h c5
    refine aw_region ?_
    refine aops_step1 rfl (st_move rfl rfl) ?_
    obtain ⟨x6, hx6, h⟩ := Md.bind_s h
    refine aops_step1 rfl (ev_call_v (wire_Int_fn k (a0.drop 1) x6 hx6) rfl [] (by repeat' (first | exact All2.nil | refine All2.cons ?_ ?_ | refine ArgV.one ?_ | refine ArgV.agg ?_ | exact ArgC.mk rfl | exact ArgC.lend rfl (by simp) | exact ArgC.le (CLe.nil _) rfl | exact ArgC.le (CLe.emp _) rfl | exact ArgC.le (CLe.any _) rfl)) rfl rfl rfl (.inl rfl) rfl) ?_
    refine aops_step1 rfl (st_movet rfl rfl) ?_
    refine aops_step1 rfl (ev_extract rfl rfl rfl) ?_
    refine aops_step1 rfl (ev_extract rfl rfl rfl) ?_
    refine aops_step1 rfl (ev_extract rfl rfl rfl) ?_
    refine aops_step1 rfl (ev_field rfl rfl rfl) ?_
    refine aops_step1 rfl (st_store (cs' := [_, _, _, _, _]) rfl rfl rfl rfl rfl rfl rfl rfl rfl) ?_
    refine aops_step1 rfl (st_assign rfl rfl) ?_
    refine aops_step1 rfl (st_assign rfl rfl) ?_
    refine aops_nil ?_
    refine aw_seq ?_
    refine aw_seq ?_
    refine aw_region ?_
    refine aops_step1 rfl (st_move rfl rfl) ?_
    refine aops_step1 rfl (ev_cmp rfl rfl rfl rfl) ?_
    refine aops_nil ?_
    refine aw_cond rfl (fun c7 => ?_) (fun c7 => ?_)
    · replace h := Md.cond_t h c7
      refine aw_seq ?_
      refine aw_region ?_
      refine aops_step1 rfl (ev_build' (out := [_, _, _, _, _]) rfl rfl rfl rfl rfl) ?_
      refine aops_step1 rfl (st_move rfl rfl) ?_
      refine aops_step1 rfl (st_store (cs' := [_, _, _, _, _]) rfl rfl rfl rfl rfl rfl rfl rfl rfl) ?_
      refine aops_step1 rfl (st_assign rfl rfl) ?_
      refine aops_step1 rfl (st_assign rfl rfl) ?_
      refine aops_nil ?_
      cases Option.some.inj h
      refine aw_ret ⟨rfl, ret_v (.inr ⟨by decide, _, rfl, .cons (show resVar _ _ _ (AV.agg [_, _, _, _, _]) from ⟨_, _, _, _, _, rfl, rfl, TVar.h, rfl, rfl⟩) (.cons (show get _ _ = AV.one _ from rfl) (.cons (show get _ _ = AV.one _ from rfl) (.nil))), by intro y hy vs e; subst e; simp at hy⟩) rfl rfl rfl ?_⟩
      (repeat' (first | exact TLe.refl _ | exact VLe.refl _ | exact CLe.refl _ | exact All2.nil | refine TLe.tup ?_ | refine TLe.v ?_ | refine All2.cons ?_ ?_ | refine VLe.agg ?_ | refine VLe.one ?_ | exact CLe.nil _ | exact CLe.emp _ | refine CLe.val ?_ | refine CLe.slc ?_ ?_))
    replace h := Md.cond_f h c7
    refine aw_skip ?_
    refine aw_seq ?_
    refine aw_region ?_
    refine aops_step1 rfl (ev_loads (ds := [_, _, _, _, _]) rfl rfl rfl rfl rfl) ?_
    refine aops_step1 rfl (st_move rfl rfl) ?_
    refine aops_step1 rfl (ev_add rfl rfl rfl (Md.wrap_W _)) ?_
    refine aops_step1 rfl (st_store (cs' := [_, _, _, _, _]) rfl rfl rfl rfl rfl rfl rfl rfl rfl) ?_
    refine aops_step1 rfl (st_assign rfl rfl) ?_
    refine aops_step1 rfl (st_assign rfl rfl) ?_
    refine aops_nil ?_
    cases Option.some.inj h
    refine aw_ret ⟨rfl, ret_v (.inr ⟨by decide, _, rfl, .cons (show resVar _ _ _ (AV.agg [_, _, _, _, _]) from ⟨_, _, _, _, _, rfl, rfl, TVar.h, rfl, rfl⟩) (.cons (show get _ _ = AV.one _ from rfl) (.cons (show get _ _ = AV.one _ from rfl) (.nil))), by intro y hy vs e; subst e; simp at hy⟩) rfl rfl rfl ?_⟩
    (repeat' (first | exact TLe.refl _ | exact VLe.refl _ | exact CLe.refl _ | exact All2.nil | refine TLe.tup ?_ | refine TLe.v ?_ | refine All2.cons ?_ ?_ | refine VLe.agg ?_ | refine VLe.one ?_ | exact CLe.nil _ | exact CLe.emp _ | refine CLe.val ?_ | refine CLe.slc ?_ ?_))
  replace h := Md.cond_f h c5
  refine aw_seq ?_
  refine aw_region ?_
  refine aops_step1 rfl (ev_cmp rfl rfl rfl rfl) ?_
  refine aops_step1 rfl (st_assign rfl rfl) ?_
  refine aops_nil ?_
  refine aw_cond rfl (fun c8 => ?_) (fun c8 => ?_)
  · replace h := Md.cond_t h c8
    refine aw_region ?_
    refine aops_step1 rfl (st_move rfl rfl) ?_
    obtain ⟨x9, hx9, h⟩ := Md.bind_s h
    refine aops_step1 rfl (ev_call_v (wire_boolean_fn k (a0.drop 1) x9 hx9) rfl [] (by repeat' (first | exact All2.nil | refine All2.cons ?_ ?_ | refine ArgV.one ?_ | refine ArgV.agg ?_ | exact ArgC.mk rfl | exact ArgC.lend rfl (by simp) | exact ArgC.le (CLe.nil _) rfl | exact ArgC.le (CLe.emp _) rfl | exact ArgC.le (CLe.any _) rfl)) rfl rfl rfl (.inl rfl) rfl) ?_
    refine aops_step1 rfl (st_movet rfl rfl) ?_
    refine aops_step1 rfl (ev_extract rfl rfl rfl) ?_
    refine aops_step1 rfl (ev_extract rfl rfl rfl) ?_
    refine aops_step1 rfl (ev_extract rfl rfl rfl) ?_
    refine aops_step1 rfl (ev_field rfl rfl rfl) ?_
    refine aops_step1 rfl (st_store (cs' := [_, _, _, _, _]) rfl rfl rfl rfl rfl rfl rfl rfl rfl) ?_
    refine aops_step1 rfl (st_assign rfl rfl) ?_
    refine aops_step1 rfl (st_assign rfl rfl) ?_
    refine aops_nil ?_
    refine aw_seq ?_
    refine aw_seq ?_
    refine aw_region ?_
    refine aops_step1 rfl (st_move rfl rfl) ?_
    refine aops_step1 rfl (ev_cmp rfl rfl rfl rfl) ?_
    refine aops_nil ?_
    refine aw_cond rfl (fun c10 => ?_) (fun c10 => ?_)
    · replace h := Md.cond_t h c10
      refine aw_seq ?_
      refine aw_region ?_
      refine aops_step1 rfl (ev_build' (out := [_, _, _, _, _]) rfl rfl rfl rfl rfl) ?_
      refine aops_step1 rfl (st_move rfl rfl) ?_
      refine aops_step1 rfl (st_store (cs' := [_, _, _, _, _]) rfl rfl rfl rfl rfl rfl rfl rfl rfl) ?_
      refine aops_step1 rfl (st_assign rfl rfl) ?_
      refine aops_step1 rfl (st_assign rfl rfl) ?_
      refine aops_nil ?_
      cases Option.some.inj h
      refine aw_ret ⟨rfl, ret_v (.inr ⟨by decide, _, rfl, .cons (show resVar _ _ _ (AV.agg [_, _, _, _, _]) from ⟨_, _, _, _, _, rfl, rfl, TVar.h, rfl, rfl⟩) (.cons (show get _ _ = AV.one _ from rfl) (.cons (show get _ _ = AV.one _ from rfl) (.nil))), by intro y hy vs e; subst e; simp at hy⟩) rfl rfl rfl ?_⟩
      (repeat' (first | exact TLe.refl _ | exact VLe.refl _ | exact CLe.refl _ | exact All2.nil | refine TLe.tup ?_ | refine TLe.v ?_ | refine All2.cons ?_ ?_ | refine VLe.agg ?_ | refine VLe.one ?_ | exact CLe.nil _ | exact CLe.emp _ | refine CLe.val ?_ | refine CLe.slc ?_ ?_))
    replace h := Md.cond_f h c10
    refine aw_skip ?_
    refine aw_seq ?_
    refine aw_region ?_
    refine aops_step1 rfl (ev_loads (ds := [_, _, _, _, _]) rfl rfl rfl rfl rfl) ?_
    refine aops_step1 rfl (st_move rfl rfl) ?_
    refine aops_step1 rfl (ev_add rfl rfl rfl (Md.wrap_W _)) ?_
    refine aops_step1 rfl (st_store (cs' := [_, _, _, _, _]) rfl rfl rfl rfl rfl rfl rfl rfl rfl) ?_
    refine aops_step1 rfl (st_assign rfl rfl) ?_
    refine aops_step1 rfl (st_assign rfl rfl) ?_
    refine aops_nil ?_
    cases Option.some.inj h
    refine aw_ret ⟨rfl, ret_v (.inr ⟨by decide, _, rfl, .cons (show resVar _ _ _ (AV.agg [_, _, _, _, _]) from ⟨_, _, _, _, _, rfl, rfl, TVar.h, rfl, rfl⟩) (.cons (show get _ _ = AV.one _ from rfl) (.cons (show get _ _ = AV.one _ from rfl) (.nil))), by intro y hy vs e; subst e; simp at hy⟩) rfl rfl rfl ?_⟩
    (repeat' (first | exact TLe.refl _ | exact VLe.refl _ | exact CLe.refl _ | exact All2.nil | refine TLe.tup ?_ | refine TLe.v ?_ | refine All2.cons ?_ ?_ | refine VLe.agg ?_ | refine VLe.one ?_ | exact CLe.nil _ | exact CLe.emp _ | refine CLe.val ?_ | refine CLe.slc ?_ ?_))
  replace h := Md.cond_f h c8
  refine aw_seq ?_
  refine aw_region ?_
  refine aops_step1 rfl (ev_cmp rfl rfl rfl rfl) ?_
  refine aops_step1 rfl (st_assign rfl rfl) ?_
  refine aops_nil ?_
  refine aw_cond rfl (fun c11 => ?_) (fun c11 => ?_)
  · replace h := Md.cond_t h c11
    refine aw_region ?_
    refine aops_step1 rfl (st_move rfl rfl) ?_
    obtain ⟨x12, hx12, h⟩ := Md.bind_s h
    refine aops_step1 rfl (ev_call_v (wire_String_fn k (a0.drop 1) 64 x12 hx12) rfl [] (by repeat' (first | exact All2.nil | refine All2.cons ?_ ?_ | refine ArgV.one ?_ | refine ArgV.agg ?_ | exact ArgC.mk rfl | exact ArgC.lend rfl (by simp) | exact ArgC.le (CLe.nil _) rfl | exact ArgC.le (CLe.emp _) rfl | exact ArgC.le (CLe.any _) rfl)) rfl rfl rfl (.inl rfl) rfl) ?_
    refine aops_step1 rfl (st_movet rfl rfl) ?_
    refine aops_step1 rfl (ev_extract rfl rfl rfl) ?_
    refine aops_step1 rfl (ev_extract rfl rfl rfl) ?_
    refine aops_step1 rfl (ev_extract rfl rfl rfl) ?_
    refine aops_step1 rfl (ev_field rfl rfl rfl) ?_
    refine aops_step1 rfl (st_store (cs' := [_, _, _, _, _]) rfl rfl rfl rfl rfl rfl rfl rfl rfl) ?_
    refine aops_step1 rfl (st_assign rfl rfl) ?_
    refine aops_step1 rfl (st_assign rfl rfl) ?_
    refine aops_nil ?_
    refine aw_seq ?_
    refine aw_seq ?_
    refine aw_region ?_
    refine aops_step1 rfl (st_move rfl rfl) ?_
    refine aops_step1 rfl (ev_cmp rfl rfl rfl rfl) ?_
    refine aops_nil ?_
    refine aw_cond rfl (fun c13 => ?_) (fun c13 => ?_)
    · replace h := Md.cond_t h c13
      refine aw_seq ?_
      refine aw_region ?_
      refine aops_step1 rfl (ev_build' (out := [_, _, _, _, _]) rfl rfl rfl rfl rfl) ?_
      refine aops_step1 rfl (st_move rfl rfl) ?_
      refine aops_step1 rfl (st_store (cs' := [_, _, _, _, _]) rfl rfl rfl rfl rfl rfl rfl rfl rfl) ?_
      refine aops_step1 rfl (st_assign rfl rfl) ?_
      refine aops_step1 rfl (st_assign rfl rfl) ?_
      refine aops_nil ?_
      cases Option.some.inj h
      refine aw_ret ⟨rfl, ret_v (.inr ⟨by decide, _, rfl, .cons (show resVar _ _ _ (AV.agg [_, _, _, _, _]) from ⟨_, _, _, _, _, rfl, rfl, TVar.h, rfl, rfl⟩) (.cons (show get _ _ = AV.one _ from rfl) (.cons (show get _ _ = AV.one _ from rfl) (.nil))), by intro y hy vs e; subst e; simp at hy⟩) rfl rfl rfl ?_⟩
      (repeat' (first | exact TLe.refl _ | exact VLe.refl _ | exact CLe.refl _ | exact All2.nil | refine TLe.tup ?_ | refine TLe.v ?_ | refine All2.cons ?_ ?_ | refine VLe.agg ?_ | refine VLe.one ?_ | exact CLe.nil _ | exact CLe.emp _ | refine CLe.val ?_ | refine CLe.slc ?_ ?_))
    replace h := Md.cond_f h c13
    refine aw_skip ?_
    refine aw_seq ?_
    refine aw_region ?_
    refine aops_step1 rfl (ev_loads (ds := [_, _, _, _, _]) rfl rfl rfl rfl rfl) ?_
    refine aops_step1 rfl (st_move rfl rfl) ?_
    refine aops_step1 rfl (ev_add rfl rfl rfl (Md.wrap_W _)) ?_
    refine aops_step1 rfl (st_store (cs' := [_, _, _, _, _]) rfl rfl rfl rfl rfl rfl rfl rfl rfl) ?_
    refine aops_step1 rfl (st_assign rfl rfl) ?_
    refine aops_step1 rfl (st_assign rfl rfl) ?_
    refine aops_nil ?_
    cases Option.some.inj h
    refine aw_ret ⟨rfl, ret_v (.inr ⟨by decide, _, rfl, .cons (show resVar _ _ _ (AV.agg [_, _, _, _, _]) from ⟨_, _, _, _, _, rfl, rfl, TVar.h, rfl, rfl⟩) (.cons (show get _ _ = AV.one _ from rfl) (.cons (show get _ _ = AV.one _ from rfl) (.nil))), by intro y hy vs e; subst e; simp at hy⟩) rfl rfl rfl ?_⟩
    (repeat' (first | exact TLe.refl _ | exact VLe.refl _ | exact CLe.refl _ | exact All2.nil | refine TLe.tup ?_ | refine TLe.v ?_ | refine All2.cons ?_ ?_ | refine VLe.agg ?_ | refine VLe.one ?_ | exact CLe.nil _ | exact CLe.emp _ | refine CLe.val ?_ | refine CLe.slc ?_ ?_))
  replace h := Md.cond_f h c11
  refine aw_seq ?_
  refine aw_region ?_
  refine aops_step1 rfl (ev_cmp rfl rfl rfl rfl) ?_
  refine aops_step1 rfl (st_assign rfl rfl) ?_
  refine aops_nil ?_
  refine aw_cond rfl (fun c14 => ?_) (fun c14 => ?_)
  · replace h := Md.cond_t h c14
    refine aw_region ?_
    refine aops_step1 rfl (st_move rfl rfl) ?_
    obtain ⟨x15, hx15, h⟩ := Md.bind_s h
    refine aops_step1 rfl (ev_call_v (wire_IntList_fn k (a0.drop 1) 16 x15 hx15) rfl [] (by repeat' (first | exact All2.nil | refine All2.cons ?_ ?_ | refine ArgV.one ?_ | refine ArgV.agg ?_ | exact ArgC.mk rfl | exact ArgC.lend rfl (by simp) | exact ArgC.le (CLe.nil _) rfl | exact ArgC.le (CLe.emp _) rfl | exact ArgC.le (CLe.any _) rfl)) rfl rfl rfl (.inl rfl) rfl) ?_
    refine aops_step1 rfl (st_movet rfl rfl) ?_
    refine aops_step1 rfl (ev_extract rfl rfl rfl) ?_
    refine aops_step1 rfl (ev_extract rfl rfl rfl) ?_
    refine aops_step1 rfl (ev_extract rfl rfl rfl) ?_
    refine aops_step1 rfl (ev_field rfl rfl rfl) ?_
    refine aops_step1 rfl (st_store (cs' := [_, _, _, _, _]) rfl rfl rfl rfl rfl rfl rfl rfl rfl) ?_
    refine aops_step1 rfl (st_assign rfl rfl) ?_
    refine aops_step1 rfl (st_assign rfl rfl) ?_
    refine aops_nil ?_
    refine aw_seq ?_
    refine aw_seq ?_
    refine aw_region ?_
    refine aops_step1 rfl (st_move rfl rfl) ?_
    refine aops_step1 rfl (ev_cmp rfl rfl rfl rfl) ?_
    refine aops_nil ?_
    refine aw_cond rfl (fun c16 => ?_) (fun c16 => ?_)
    · replace h := Md.cond_t h c16
      refine aw_seq ?_
      refine aw_region ?_
      refine aops_step1 rfl (ev_build' (out := [_, _, _, _, _]) rfl rfl rfl rfl rfl) ?_
      refine aops_step1 rfl (st_move rfl rfl) ?_
      refine aops_step1 rfl (st_store (cs' := [_, _, _, _, _]) rfl rfl rfl rfl rfl rfl rfl rfl rfl) ?_
      refine aops_step1 rfl (st_assign rfl rfl) ?_
      refine aops_step1 rfl (st_assign rfl rfl) ?_
      refine aops_nil ?_
      cases Option.some.inj h
      refine aw_ret ⟨rfl, ret_v (.inr ⟨by decide, _, rfl, .cons (show resVar _ _ _ (AV.agg [_, _, _, _, _]) from ⟨_, _, _, _, _, rfl, rfl, TVar.h, rfl, rfl⟩) (.cons (show get _ _ = AV.one _ from rfl) (.cons (show get _ _ = AV.one _ from rfl) (.nil))), by intro y hy vs e; subst e; simp at hy⟩) rfl rfl rfl ?_⟩
      (repeat' (first | exact TLe.refl _ | exact VLe.refl _ | exact CLe.refl _ | exact All2.nil | refine TLe.tup ?_ | refine TLe.v ?_ | refine All2.cons ?_ ?_ | refine VLe.agg ?_ | refine VLe.one ?_ | exact CLe.nil _ | exact CLe.emp _ | refine CLe.val ?_ | refine CLe.slc ?_ ?_))
    replace h := Md.cond_f h c16
    refine aw_skip ?_
    refine aw_seq ?_
    refine aw_region ?_
    refine aops_step1 rfl (ev_loads (ds := [_, _, _, _, _]) rfl rfl rfl rfl rfl) ?_
    refine aops_step1 rfl (st_move rfl rfl) ?_
    refine aops_step1 rfl (ev_add rfl rfl rfl (Md.wrap_W _)) ?_
    refine aops_step1 rfl (st_store (cs' := [_, _, _, _, _]) rfl rfl rfl rfl rfl rfl rfl rfl rfl) ?_
    refine aops_step1 rfl (st_assign rfl rfl) ?_
    refine aops_step1 rfl (st_assign rfl rfl) ?_
    refine aops_nil ?_
    cases Option.some.inj h
    refine aw_ret ⟨rfl, ret_v (.inr ⟨by decide, _, rfl, .cons (show resVar _ _ _ (AV.agg [_, _, _, _, _]) from ⟨_, _, _, _, _, rfl, rfl, TVar.h, rfl, rfl⟩) (.cons (show get _ _ = AV.one _ from rfl) (.cons (show get _ _ = AV.one _ from rfl) (.nil))), by intro y hy vs e; subst e; simp at hy⟩) rfl rfl rfl ?_⟩
    (repeat' (first | exact TLe.refl _ | exact VLe.refl _ | exact CLe.refl _ | exact All2.nil | refine TLe.tup ?_ | refine TLe.v ?_ | refine All2.cons ?_ ?_ | refine VLe.agg ?_ | refine VLe.one ?_ | exact CLe.nil _ | exact CLe.emp _ | refine CLe.val ?_ | refine CLe.slc ?_ ?_))
  replace h := Md.cond_f h c14
  refine aw_seq ?_
  refine aw_region ?_
  refine aops_step1 rfl (ev_cmp rfl rfl rfl rfl) ?_
  refine aops_step1 rfl (st_assign rfl rfl) ?_
  refine aops_nil ?_
  refine aw_cond rfl (fun c17 => ?_) (fun c17 => ?_)
  · replace h := Md.cond_t h c17
    refine aw_region ?_
    refine aops_step1 rfl (st_move rfl rfl) ?_
    obtain ⟨x18, hx18, h⟩ := Md.bind_s h
    refine aops_step1 rfl (ev_call_v (wire_StringList_fn k (a0.drop 1) 16 x18 hx18) rfl [] (by repeat' (first | exact All2.nil | refine All2.cons ?_ ?_ | refine ArgV.one ?_ | refine ArgV.agg ?_ | exact ArgC.mk rfl | exact ArgC.lend rfl (by simp) | exact ArgC.le (CLe.nil _) rfl | exact ArgC.le (CLe.emp _) rfl | exact ArgC.le (CLe.any _) rfl)) rfl rfl rfl (.inl rfl) rfl) ?_
    refine aops_step1 rfl (st_movet rfl rfl) ?_
    refine aops_step1 rfl (ev_extract rfl rfl rfl) ?_
    refine aops_step1 rfl (ev_extract rfl rfl rfl) ?_
    refine aops_step1 rfl (ev_extract rfl rfl rfl) ?_
    refine aops_step1 rfl (ev_field rfl rfl rfl) ?_
    refine aops_step1 rfl (st_store (cs' := [_, _, _, _, _]) rfl rfl rfl rfl rfl rfl rfl rfl rfl) ?_
    refine aops_step1 rfl (st_assign rfl rfl) ?_
    refine aops_step1 rfl (st_assign rfl rfl) ?_
    refine aops_nil ?_
    refine aw_seq ?_
    refine aw_seq ?_
    refine aw_region ?_
    refine aops_step1 rfl (st_move rfl rfl) ?_
    refine aops_step1 rfl (ev_cmp rfl rfl rfl rfl) ?_
    refine aops_nil ?_
    refine aw_cond rfl (fun c19 => ?_) (fun c19 => ?_)
    · replace h := Md.cond_t h c19
      refine aw_seq ?_
      refine aw_region ?_
      refine aops_step1 rfl (ev_build' (out := [_, _, _, _, _]) rfl rfl rfl rfl rfl) ?_
      refine aops_step1 rfl (st_move rfl rfl) ?_
      refine aops_step1 rfl (st_store (cs' := [_, _, _, _, _]) rfl rfl rfl rfl rfl rfl rfl rfl rfl) ?_
      refine aops_step1 rfl (st_assign rfl rfl) ?_
      refine aops_step1 rfl (st_assign rfl rfl) ?_
      refine aops_nil ?_
      cases Option.some.inj h
      refine aw_ret ⟨rfl, ret_v (.inr ⟨by decide, _, rfl, .cons (show resVar _ _ _ (AV.agg [_, _, _, _, _]) from ⟨_, _, _, _, _, rfl, rfl, TVar.h, rfl, rfl⟩) (.cons (show get _ _ = AV.one _ from rfl) (.cons (show get _ _ = AV.one _ from rfl) (.nil))), by intro y hy vs e; subst e; simp at hy⟩) rfl rfl rfl ?_⟩
      (repeat' (first | exact TLe.refl _ | exact VLe.refl _ | exact CLe.refl _ | exact All2.nil | refine TLe.tup ?_ | refine TLe.v ?_ | refine All2.cons ?_ ?_ | refine VLe.agg ?_ | refine VLe.one ?_ | exact CLe.nil _ | exact CLe.emp _ | refine CLe.val ?_ | refine CLe.slc ?_ ?_))
    replace h := Md.cond_f h c19
    refine aw_skip ?_
    refine aw_seq ?_
    refine aw_region ?_
    refine aops_step1 rfl (ev_loads (ds := [_, _, _, _, _]) rfl rfl rfl rfl rfl) ?_
    refine aops_step1 rfl (st_move rfl rfl) ?_
    refine aops_step1 rfl (ev_add rfl rfl rfl (Md.wrap_W _)) ?_
    refine aops_step1 rfl (st_store (cs' := [_, _, _, _, _]) rfl rfl rfl rfl rfl rfl rfl rfl rfl) ?_
    refine aops_step1 rfl (st_assign rfl rfl) ?_
    refine aops_step1 rfl (st_assign rfl rfl) ?_
    refine aops_nil ?_
    cases Option.some.inj h
    refine aw_ret ⟨rfl, ret_v (.inr ⟨by decide, _, rfl, .cons (show resVar _ _ _ (AV.agg [_, _, _, _, _]) from ⟨_, _, _, _, _, rfl, rfl, TVar.h, rfl, rfl⟩) (.cons (show get _ _ = AV.one _ from rfl) (.cons (show get _ _ = AV.one _ from rfl) (.nil))), by intro y hy vs e; subst e; simp at hy⟩) rfl rfl rfl ?_⟩
    (repeat' (first | exact TLe.refl _ | exact VLe.refl _ | exact CLe.refl _ | exact All2.nil | refine TLe.tup ?_ | refine TLe.v ?_ | refine All2.cons ?_ ?_ | refine VLe.agg ?_ | refine VLe.one ?_ | exact CLe.nil _ | exact CLe.emp _ | refine CLe.val ?_ | refine CLe.slc ?_ ?_))
  replace h := Md.cond_f h c17
  refine aw_region ?_
  refine aops_step1 rfl (st_assign rfl rfl) ?_
  refine aops_nil ?_
  refine aw_seq ?_
  refine aw_seq ?_
  refine aw_region ?_
  refine aops_step1 rfl (st_move rfl rfl) ?_
  refine aops_step1 rfl (ev_cmp (b := true) rfl rfl rfl rfl) ?_
  refine aops_nil ?_
  refine aw_yes rfl (rfl) ?_
  refine aw_seq ?_
  refine aw_region ?_
  refine aops_step1 rfl (ev_build' (out := [_, _, _, _, _]) rfl rfl rfl rfl rfl) ?_
  refine aops_step1 rfl (st_move rfl rfl) ?_
  refine aops_step1 rfl (st_store (cs' := [_, _, _, _, _]) rfl rfl rfl rfl rfl rfl rfl rfl rfl) ?_
  refine aops_step1 rfl (st_assign rfl rfl) ?_
  refine aops_step1 rfl (st_assign rfl rfl) ?_
  refine aops_nil ?_
  cases Option.some.inj h
  refine aw_ret ⟨rfl, ret_v (.inr ⟨by decide, _, rfl, .cons (show resVar _ _ _ (AV.agg [_, _, _, _, _]) from ⟨_, _, _, _, _, rfl, rfl, TVar.h, rfl, rfl⟩) (.cons (show get _ _ = AV.one _ from rfl) (.cons (show get _ _ = AV.one _ from rfl) (.nil))), by intro y hy vs e; subst e; simp at hy⟩) rfl rfl rfl ?_⟩
  (repeat' (first | exact TLe.refl _ | exact VLe.refl _ | exact CLe.refl _ | exact All2.nil | refine TLe.tup ?_ | refine TLe.v ?_ | refine All2.cons ?_ ?_ | refine VLe.agg ?_ | refine VLe.one ?_ | exact CLe.nil _ | exact CLe.emp _ | refine CLe.val ?_ | refine CLe.slc ?_ ?_))
set_option maxHeartbeats 2000000 in
theorem wire_same_int_fn (k : Nat) (a0 : List Int) (a1 : List Int) (r : Bool) (h : wire_same_int k a0 a1 = some r) : FnC Try.prog 66 [.one (CV.ls c_Int a0), .one (CV.ls c_Int a1)] [] (Det (.one (.val (.bool r))) []) := by
  unfold wire_same_int at h
  refine fn_intro' 26 Try.func66 rfl rfl rfl ?_
  refine aw_seq ?_
  refine aw_region ?_
  refine aops_step1 rfl (st_assign rfl rfl) ?_
  refine aops_nil ?_
  refine aw_seq ?_
  refine aw_seq ?_
  refine aw_region ?_
  refine aops_step1 rfl (st_move rfl rfl) ?_
  refine aops_step1 rfl (ev_len_slc rfl rfl) ?_
  refine aops_step1 rfl (st_move rfl rfl) ?_
  refine aops_step1 rfl (ev_len_slc rfl rfl) ?_
  refine aops_step1 rfl (ev_cmp rfl rfl rfl rfl) ?_
  refine aops_nil ?_
  refine aw_cond rfl (fun c1 => ?_) (fun c1 => ?_)
  · replace h := Md.cond_t h c1
    refine aw_seq ?_
    refine aw_region ?_
    refine aops_step1 rfl (st_assign rfl rfl) ?_
    refine aops_nil ?_
    cases Option.some.inj h
    refine aw_ret ⟨rfl, ret_v (.inl ⟨_, rfl, rfl, fun _ e => nomatch e⟩) rfl rfl rfl ?_⟩
    (repeat' (first | exact TLe.refl _ | exact VLe.refl _ | exact CLe.refl _ | exact All2.nil | refine TLe.tup ?_ | refine TLe.v ?_ | refine All2.cons ?_ ?_ | refine VLe.agg ?_ | refine VLe.one ?_ | exact CLe.nil _ | exact CLe.emp _ | refine CLe.val ?_ | refine CLe.slc ?_ ?_))
  replace h := Md.cond_f h c1
  refine aw_skip ?_
  refine aw_seq ?_
  refine aw_seq ?_
  refine aw_region ?_
  refine aops_step1 rfl (st_move rfl rfl) ?_
  refine aops_step1 rfl (ev_len_slc rfl rfl) ?_
  refine aops_step1 rfl (st_move rfl rfl) ?_
  refine aops_nil ?_
  refine aw_block ?_
  obtain ⟨o2, ho2, h⟩ := Md.bind_s h
  refine aw_loop_x (ι := {p : Nat × Nat // wire_same_int_loop1 k a0 a1 p.1 p.2 = some o2}) (fun p => (⟨26, [], [(0, .one (CV.ls c_Int a0)), (1, .one (CV.ls c_Int a1)), (12, .one (.val (.int .i64 ((a0.length : Nat) : Int)))), (13, .one (.val (.int .i64 ((p.1.2 : Nat) : Int))))], []⟩ : ASt)) (fun p => p.1.1) ⟨(k, 0), ho2⟩ (by (refine weak_mk rfl rfl ?_ ?_ rfl <;> repeat' (first | exact trivial | refine ⟨?_, ?_⟩ | exact VLe.refl _ | exact BLe.refl _ | refine VLe.one (CLe.val ?_) | exact VLe.one (CLe.nil _) | exact VLe.one (CLe.emp _)))) 0 (ε := Unit) (fun x => (⟨26, [], [], []⟩ : ASt)) (fun x => Sum.inl x = o2) (fun _ _ w h => aw_weak w h) ?_ ?_
  · intro x2_0 hI2
    subst hI2
    replace h := Md.onS_l h
    change AW _ _ (⟨26, [], [], []⟩ : ASt) _
    refine aw_seq ?_
    refine aw_region ?_
    refine aops_step1 rfl (st_assign rfl rfl) ?_
    refine aops_nil ?_
    cases Option.some.inj h
    refine aw_ret ⟨rfl, ret_v (.inl ⟨_, rfl, rfl, fun _ e => nomatch e⟩) rfl rfl rfl ?_⟩
    (repeat' (first | exact TLe.refl _ | exact VLe.refl _ | exact CLe.refl _ | exact All2.nil | refine TLe.tup ?_ | refine TLe.v ?_ | refine All2.cons ?_ ?_ | refine VLe.agg ?_ | refine VLe.one ?_ | exact CLe.nil _ | exact CLe.emp _ | refine CLe.val ?_ | refine CLe.slc ?_ ?_))
  intro p2
  obtain ⟨⟨n2, s2_0⟩, l2⟩ := p2
  change AW _ _ (⟨26, [], [(0, .one (CV.ls c_Int a0)), (1, .one (CV.ls c_Int a1)), (12, .one (.val (.int .i64 ((a0.length : Nat) : Int)))), (13, .one (.val (.int .i64 ((s2_0 : Nat) : Int))))], []⟩ : ASt) _
  replace l2 : wire_same_int_loop1 k a0 a1 n2 s2_0 = some o2 := l2
  rcases n2 with _ | n2
  · exact absurd (show none = some o2 from l2) nofun
  rw [wire_same_int_loop1] at l2
  refine aw_seq ?_
  refine aw_region ?_
  refine aops_step1 rfl (ev_cmp rfl rfl rfl rfl) ?_
  refine aops_nil ?_
  refine aw_seq ?_
  refine aw_cond rfl (fun c3 => ?_) (fun c3 => ?_)
  · replace l2 := Md.cond_t l2 c3
    refine aw_skip ?_
    refine aw_seq ?_
    refine aw_block ?_
    refine aw_seq ?_
    refine aw_region ?_
    refine aops_step1 rfl (st_move rfl rfl) ?_
    refine aops_step1 rfl (st_assign rfl rfl) ?_
    refine aops_nil ?_
    obtain ⟨g4, l2⟩ := Md.ifp_s l2
    obtain ⟨g5, l2⟩ := Md.ifp_s l2
    refine aw_seq ?_
    apply aw_draw 8 ((⟨[], .one (CV.ls c_Int a0)⟩ : Add) :: ⟨[], .one (.val (.int .i64 ((s2_0 : Nat) : Int)))⟩ :: ⟨[], .one (.cptr _)⟩ :: ⟨[], .one (.val (.int .i64 (a0.getD s2_0 default)))⟩ :: ⟨[], .one (CV.ls c_Int a1)⟩ :: ⟨[], .one (.val (.int .i64 ((s2_0 : Nat) : Int)))⟩ :: ⟨[], .one (.cptr _)⟩ :: ⟨[], .one (.val (.int .i64 (a1.getD s2_0 default)))⟩ :: []) (by decide) rfl ?hk6x ?hf6x ?ho6x ?hr6x
    case ho6x =>
     refine ⟨⟨[], (by decide +kernel), fun S hle hfr => ?_⟩, ?_⟩
     · exact .inl ⟨.inl ⟨rfl, rfl⟩, st_move (hle.ev rfl (by nofun)) (hle.d rfl)⟩
     refine ⟨⟨[], (by decide +kernel), fun S hle hfr => ?_⟩, ?_⟩
     · exact .inl ⟨.inl ⟨rfl, rfl⟩, st_move (hle.ev rfl (by nofun)) (hle.d rfl)⟩
     refine ⟨⟨0 :: 1 :: [], (by decide +kernel), fun S hle hfr => ?_⟩, ?_⟩
     · exact .inl ⟨.inl ⟨rfl, rfl⟩, ev_index_in (hle.ev rfl (by nofun)) (hle.ev rfl (by nofun)) rfl g4 rfl (hle.d rfl)⟩
     refine ⟨⟨2 :: 0 :: 1 :: [], (by decide +kernel), fun S hle hfr => ?_⟩, ?_⟩
     · exact .inl ⟨.inl ⟨rfl, rfl⟩, ev_load_in (hle.ev rfl (by nofun)) rfl (hle.d rfl)⟩
     refine ⟨⟨[], (by decide +kernel), fun S hle hfr => ?_⟩, ?_⟩
     · exact .inl ⟨.inl ⟨rfl, rfl⟩, st_move (hle.ev rfl (by nofun)) (hle.d rfl)⟩
     refine ⟨⟨[], (by decide +kernel), fun S hle hfr => ?_⟩, ?_⟩
     · exact .inl ⟨.inl ⟨rfl, rfl⟩, st_move (hle.ev rfl (by nofun)) (hle.d rfl)⟩
     refine ⟨⟨4 :: 5 :: [], (by decide +kernel), fun S hle hfr => ?_⟩, ?_⟩
     · exact .inl ⟨.inl ⟨rfl, rfl⟩, ev_index_in (hle.ev rfl (by nofun)) (hle.ev rfl (by nofun)) rfl g5 rfl (hle.d rfl)⟩
     refine ⟨⟨6 :: 4 :: 5 :: [], (by decide +kernel), fun S hle hfr => ?_⟩, ?_⟩
     · exact .inl ⟨.inl ⟨rfl, rfl⟩, ev_load_in (hle.ev rfl (by nofun)) rfl (hle.d rfl)⟩
     exact trivial
    case hk6x => rfl
    case hf6x => rfl
    refine aops_step1 rfl (ev_cmp rfl rfl rfl rfl) ?_
    refine aops_nil ?_
    refine aw_cond rfl (fun c6 => ?_) (fun c6 => ?_)
    · replace l2 := Md.cond_t l2 c6
      refine aw_seq ?_
      refine aw_region ?_
      refine aops_step1 rfl (st_assign rfl rfl) ?_
      refine aops_nil ?_
      cases Option.some.inj l2
      replace h := Md.onS_r h
      cases Option.some.inj h
      refine aw_ret ⟨rfl, ret_v (.inl ⟨_, rfl, rfl, fun _ e => nomatch e⟩) rfl rfl rfl ?_⟩
      (repeat' (first | exact TLe.refl _ | exact VLe.refl _ | exact CLe.refl _ | exact All2.nil | refine TLe.tup ?_ | refine TLe.v ?_ | refine All2.cons ?_ ?_ | refine VLe.agg ?_ | refine VLe.one ?_ | exact CLe.nil _ | exact CLe.emp _ | refine CLe.val ?_ | refine CLe.slc ?_ ?_))
    replace l2 := Md.cond_f l2 c6
    refine aw_skip ?_
    refine aw_region ?_
    obtain ⟨g7, l2⟩ := Md.ifp_s l2
    refine aops_step1 rfl (ev_add rfl rfl rfl (Md.nat_add g7)) ?_
    refine aops_step1 rfl (st_move rfl rfl) ?_
    refine aops_nil ?_
    exact ⟨⟨(n2, (s2_0 + 1)), l2⟩, Nat.lt_succ_self _, (by (refine weak_mk rfl rfl ?_ ?_ rfl <;> repeat' (first | exact trivial | refine ⟨?_, ?_⟩ | exact VLe.refl _ | exact BLe.refl _ | refine VLe.one (CLe.val ?_) | exact VLe.one (CLe.nil _) | exact VLe.one (CLe.emp _))))⟩
  replace l2 := Md.cond_f l2 c3
  refine aw_exit ?_
  show ∃ _x : Unit, _ = _ ∧ Weak _ _
  exact ⟨(), Option.some.inj l2, (by (refine weak_mk rfl rfl ?_ ?_ rfl <;> repeat' (first | exact trivial | refine ⟨?_, ?_⟩ | exact VLe.refl _ | exact BLe.refl _ | refine VLe.one (CLe.val ?_) | exact VLe.one (CLe.nil _) | exact VLe.one (CLe.emp _))))⟩
set_option maxHeartbeats 2000000 in
theorem wire_same_string_fn (k : Nat) (a0 : List (List UInt8)) (a1 : List (List UInt8)) (r : Bool) (h : wire_same_string k a0 a1 = some r) : FnC Try.prog 67 [.one (CV.ls c_Str a0), .one (CV.ls c_Str a1)] [] (Det (.one (.val (.bool r))) []) := by
  unfold wire_same_string at h
  refine fn_intro' 26 Try.func67 rfl rfl rfl ?_
  refine aw_seq ?_
  refine aw_region ?_
  refine aops_step1 rfl (st_assign rfl rfl) ?_
  refine aops_nil ?_
  refine aw_seq ?_
  refine aw_seq ?_
  refine aw_region ?_
  refine aops_step1 rfl (st_move rfl rfl) ?_
  refine aops_step1 rfl (ev_len_slc rfl rfl) ?_
  refine aops_step1 rfl (st_move rfl rfl) ?_
  refine aops_step1 rfl (ev_len_slc rfl rfl) ?_
  refine aops_step1 rfl (ev_cmp rfl rfl rfl rfl) ?_
  refine aops_nil ?_
  refine aw_cond rfl (fun c1 => ?_) (fun c1 => ?_)
  · replace h := Md.cond_t h c1
    refine aw_seq ?_
    refine aw_region ?_
    refine aops_step1 rfl (st_assign rfl rfl) ?_
    refine aops_nil ?_
    cases Option.some.inj h
    refine aw_ret ⟨rfl, ret_v (.inl ⟨_, rfl, rfl, fun _ e => nomatch e⟩) rfl rfl rfl ?_⟩
    (repeat' (first | exact TLe.refl _ | exact VLe.refl _ | exact CLe.refl _ | exact All2.nil | refine TLe.tup ?_ | refine TLe.v ?_ | refine All2.cons ?_ ?_ | refine VLe.agg ?_ | refine VLe.one ?_ | exact CLe.nil _ | exact CLe.emp _ | refine CLe.val ?_ | refine CLe.slc ?_ ?_))
  replace h := Md.cond_f h c1
  refine aw_skip ?_
  refine aw_seq ?_
  refine aw_seq ?_
  refine aw_region ?_
  refine aops_step1 rfl (st_move rfl rfl) ?_
  refine aops_step1 rfl (ev_len_slc rfl rfl) ?_
  refine aops_step1 rfl (st_move rfl rfl) ?_
  refine aops_nil ?_
  refine aw_block ?_
  obtain ⟨o2, ho2, h⟩ := Md.bind_s h
  refine aw_loop_x (ι := {p : Nat × Nat // wire_same_string_loop1 k a0 a1 p.1 p.2 = some o2}) (fun p => (⟨26, [], [(0, .one (CV.ls c_Str a0)), (1, .one (CV.ls c_Str a1)), (12, .one (.val (.int .i64 ((a0.length : Nat) : Int)))), (13, .one (.val (.int .i64 ((p.1.2 : Nat) : Int))))], []⟩ : ASt)) (fun p => p.1.1) ⟨(k, 0), ho2⟩ (by (refine weak_mk rfl rfl ?_ ?_ rfl <;> repeat' (first | exact trivial | refine ⟨?_, ?_⟩ | exact VLe.refl _ | exact BLe.refl _ | refine VLe.one (CLe.val ?_) | exact VLe.one (CLe.nil _) | exact VLe.one (CLe.emp _)))) 0 (ε := Unit) (fun x => (⟨26, [], [], []⟩ : ASt)) (fun x => Sum.inl x = o2) (fun _ _ w h => aw_weak w h) ?_ ?_
  · intro x2_0 hI2
    subst hI2
    replace h := Md.onS_l h
    change AW _ _ (⟨26, [], [], []⟩ : ASt) _
    refine aw_seq ?_
    refine aw_region ?_
    refine aops_step1 rfl (st_assign rfl rfl) ?_
    refine aops_nil ?_
    cases Option.some.inj h
    refine aw_ret ⟨rfl, ret_v (.inl ⟨_, rfl, rfl, fun _ e => nomatch e⟩) rfl rfl rfl ?_⟩
    (repeat' (first | exact TLe.refl _ | exact VLe.refl _ | exact CLe.refl _ | exact All2.nil | refine TLe.tup ?_ | refine TLe.v ?_ | refine All2.cons ?_ ?_ | refine VLe.agg ?_ | refine VLe.one ?_ | exact CLe.nil _ | exact CLe.emp _ | refine CLe.val ?_ | refine CLe.slc ?_ ?_))
  intro p2
  obtain ⟨⟨n2, s2_0⟩, l2⟩ := p2
  change AW _ _ (⟨26, [], [(0, .one (CV.ls c_Str a0)), (1, .one (CV.ls c_Str a1)), (12, .one (.val (.int .i64 ((a0.length : Nat) : Int)))), (13, .one (.val (.int .i64 ((s2_0 : Nat) : Int))))], []⟩ : ASt) _
  replace l2 : wire_same_string_loop1 k a0 a1 n2 s2_0 = some o2 := l2
  rcases n2 with _ | n2
  · exact absurd (show none = some o2 from l2) nofun
  rw [wire_same_string_loop1] at l2
  refine aw_seq ?_
  refine aw_region ?_
  refine aops_step1 rfl (ev_cmp rfl rfl rfl rfl) ?_
  refine aops_nil ?_
  refine aw_seq ?_
  refine aw_cond rfl (fun c3 => ?_) (fun c3 => ?_)
  · replace l2 := Md.cond_t l2 c3
    refine aw_skip ?_
    refine aw_seq ?_
    refine aw_block ?_
    refine aw_seq ?_
    refine aw_region ?_
    refine aops_step1 rfl (st_move rfl rfl) ?_
    refine aops_step1 rfl (st_assign rfl rfl) ?_
    refine aops_nil ?_
    obtain ⟨g4, l2⟩ := Md.ifp_s l2
    obtain ⟨g5, l2⟩ := Md.ifp_s l2
    refine aw_seq ?_
    apply aw_draw 8 ((⟨[], .one (CV.ls c_Str a0)⟩ : Add) :: ⟨[], .one (.val (.int .i64 ((s2_0 : Nat) : Int)))⟩ :: ⟨[], .one (.cptr _)⟩ :: ⟨[], .one (.val (Sv (a0.getD s2_0 default)))⟩ :: ⟨[], .one (CV.ls c_Str a1)⟩ :: ⟨[], .one (.val (.int .i64 ((s2_0 : Nat) : Int)))⟩ :: ⟨[], .one (.cptr _)⟩ :: ⟨[], .one (.val (Sv (a1.getD s2_0 default)))⟩ :: []) (by decide) rfl ?hk6x ?hf6x ?ho6x ?hr6x
    case ho6x =>
     refine ⟨⟨[], (by decide +kernel), fun S hle hfr => ?_⟩, ?_⟩
     · exact .inl ⟨.inl ⟨rfl, rfl⟩, st_move (hle.ev rfl (by nofun)) (hle.d rfl)⟩
     refine ⟨⟨[], (by decide +kernel), fun S hle hfr => ?_⟩, ?_⟩
     · exact .inl ⟨.inl ⟨rfl, rfl⟩, st_move (hle.ev rfl (by nofun)) (hle.d rfl)⟩
     refine ⟨⟨0 :: 1 :: [], (by decide +kernel), fun S hle hfr => ?_⟩, ?_⟩
     · exact .inl ⟨.inl ⟨rfl, rfl⟩, ev_index_in (hle.ev rfl (by nofun)) (hle.ev rfl (by nofun)) rfl g4 rfl (hle.d rfl)⟩
     refine ⟨⟨2 :: 0 :: 1 :: [], (by decide +kernel), fun S hle hfr => ?_⟩, ?_⟩
     · exact .inl ⟨.inl ⟨rfl, rfl⟩, ev_load_in (hle.ev rfl (by nofun)) rfl (hle.d rfl)⟩
     refine ⟨⟨[], (by decide +kernel), fun S hle hfr => ?_⟩, ?_⟩
     · exact .inl ⟨.inl ⟨rfl, rfl⟩, st_move (hle.ev rfl (by nofun)) (hle.d rfl)⟩
     refine ⟨⟨[], (by decide +kernel), fun S hle hfr => ?_⟩, ?_⟩
     · exact .inl ⟨.inl ⟨rfl, rfl⟩, st_move (hle.ev rfl (by nofun)) (hle.d rfl)⟩
     refine ⟨⟨4 :: 5 :: [], (by decide +kernel), fun S hle hfr => ?_⟩, ?_⟩
     · exact .inl ⟨.inl ⟨rfl, rfl⟩, ev_index_in (hle.ev rfl (by nofun)) (hle.ev rfl (by nofun)) rfl g5 rfl (hle.d rfl)⟩
     refine ⟨⟨6 :: 4 :: 5 :: [], (by decide +kernel), fun S hle hfr => ?_⟩, ?_⟩
     · exact .inl ⟨.inl ⟨rfl, rfl⟩, ev_load_in (hle.ev rfl (by nofun)) rfl (hle.d rfl)⟩
     exact trivial
    case hk6x => rfl
    case hf6x => rfl
    refine aops_step1 rfl (st_str_ne rfl rfl rfl) ?_
    refine aops_nil ?_
    refine aw_cond rfl (fun c6 => ?_) (fun c6 => ?_)
    · replace l2 := Md.cond_t l2 c6
      refine aw_seq ?_
      refine aw_region ?_
      refine aops_step1 rfl (st_assign rfl rfl) ?_
      refine aops_nil ?_
      cases Option.some.inj l2
      replace h := Md.onS_r h
      cases Option.some.inj h
      refine aw_ret ⟨rfl, ret_v (.inl ⟨_, rfl, rfl, fun _ e => nomatch e⟩) rfl rfl rfl ?_⟩
      (repeat' (first | exact TLe.refl _ | exact VLe.refl _ | exact CLe.refl _ | exact All2.nil | refine TLe.tup ?_ | refine TLe.v ?_ | refine All2.cons ?_ ?_ | refine VLe.agg ?_ | refine VLe.one ?_ | exact CLe.nil _ | exact CLe.emp _ | refine CLe.val ?_ | refine CLe.slc ?_ ?_))
    replace l2 := Md.cond_f l2 c6
    refine aw_skip ?_
    refine aw_region ?_
    obtain ⟨g7, l2⟩ := Md.ifp_s l2
    refine aops_step1 rfl (ev_add rfl rfl rfl (Md.nat_add g7)) ?_
    refine aops_step1 rfl (st_move rfl rfl) ?_
    refine aops_nil ?_
    exact ⟨⟨(n2, (s2_0 + 1)), l2⟩, Nat.lt_succ_self _, (by (refine weak_mk rfl rfl ?_ ?_ rfl <;> repeat' (first | exact trivial | refine ⟨?_, ?_⟩ | exact VLe.refl _ | exact BLe.refl _ | refine VLe.one (CLe.val ?_) | exact VLe.one (CLe.nil _) | exact VLe.one (CLe.emp _))))⟩
  replace l2 := Md.cond_f l2 c3
  refine aw_exit ?_
  show ∃ _x : Unit, _ = _ ∧ Weak _ _
  exact ⟨(), Option.some.inj l2, (by (refine weak_mk rfl rfl ?_ ?_ rfl <;> repeat' (first | exact trivial | refine ⟨?_, ?_⟩ | exact VLe.refl _ | exact BLe.refl _ | refine VLe.one (CLe.val ?_) | exact VLe.one (CLe.nil _) | exact VLe.one (CLe.emp _))))⟩
set_option maxHeartbeats 2000000 in
theorem wire_SameValue_fn (k : Nat) (a0 : Value) (a1 : Value) (r : Bool) (h : wire_SameValue k a0 a1 = some r) : FnC Try.prog 51 [.agg [.val (.int .i64 a0.Kind), .val (.int .i64 a0.N), .val (Sv a0.S), CV.ls c_Int a0.I, CV.ls c_Str a0.L], .agg [.val (.int .i64 a1.Kind), .val (.int .i64 a1.N), .val (Sv a1.S), CV.ls c_Int a1.I, CV.ls c_Str a1.L]] [] (Det (.one (.val (.bool r))) []) := by
  unfold wire_SameValue at h
  refine fn_intro' 38 Try.func51 rfl rfl rfl ?_
  refine aw_seq ?_
  refine aw_region ?_
  refine aops_step1 rfl (st_box 0 rfl rfl rfl rfl) ?_
  refine aops_step1 rfl (st_box 1 rfl rfl rfl rfl) ?_
  refine aops_step1 rfl (st_assign rfl rfl) ?_
  refine aops_nil ?_
  refine aw_seq ?_
  refine aw_region ?_
  refine aops_step1 rfl (ev_field rfl rfl rfl) ?_
  refine aops_step1 rfl (ev_load rfl rfl rfl rfl) ?_
  refine aops_step1 rfl (ev_field rfl rfl rfl) ?_
  refine aops_step1 rfl (ev_load rfl rfl rfl rfl) ?_
  refine aops_step1 rfl (ev_cmp rfl rfl rfl rfl) ?_
  refine aops_step1 rfl (st_move rfl rfl) ?_
  refine aops_mid 6 (⟨38, [], [(2, .one (.ptr 0 0)), (3, .one (.ptr 1 0)), (4, .one (.val (.bool false))), (16, .one (.val (.bool ((a0.Kind == a1.Kind) && (a0.N == a1.N)))))], [(0, some (.box [.val (.int .i64 a0.Kind), .val (.int .i64 a0.N), .val (Sv a0.S), CV.ls c_Int a0.I, CV.ls c_Str a0.L])), (1, some (.box [.val (.int .i64 a1.Kind), .val (.int .i64 a1.N), .val (Sv a1.S), CV.ls c_Int a1.I, CV.ls c_Str a1.L]))]⟩ : ASt) ?_ ?_
  · rcases Md.bool_or ((a0.Kind == a1.Kind)) with q1 | q1
    · skip
      refine aops_yes rfl rfl rfl rfl q1 (ev_field rfl rfl rfl) ?_
      refine aops_yes rfl rfl rfl rfl q1 (ev_load rfl rfl rfl rfl) ?_
      refine aops_yes rfl rfl rfl rfl q1 (ev_field rfl rfl rfl) ?_
      refine aops_yes rfl rfl rfl rfl q1 (ev_load rfl rfl rfl rfl) ?_
      refine aops_yes rfl rfl rfl rfl q1 (ev_cmp rfl rfl rfl rfl) ?_
      refine aops_step1 rfl (st_pick_yes rfl (by first | rfl | exact q1) rfl rfl) ?_
      refine aops_nil ?_
      show Weak _ _
      (refine weak_mk rfl rfl ?_ ?_ rfl <;> repeat' (first | exact trivial | refine ⟨?_, ?_⟩ | exact VLe.refl _ | exact BLe.refl _ | refine VLe.one (CLe.val ?_) | exact VLe.one (CLe.nil _) | exact VLe.one (CLe.emp _))) <;> (first | (rw [q1]; done) | (rw [q1]; rfl) | (simp [q1]; done))
    refine aops_no rfl rfl rfl rfl rfl (by first | decide | (rw [q1]; decide)) ?_
    refine aops_no rfl rfl rfl rfl rfl (by first | decide | (rw [q1]; decide)) ?_
    refine aops_no rfl rfl rfl rfl rfl (by first | decide | (rw [q1]; decide)) ?_
    refine aops_no rfl rfl rfl rfl rfl (by first | decide | (rw [q1]; decide)) ?_
    refine aops_no rfl rfl rfl rfl rfl (by first | decide | (rw [q1]; decide)) ?_
    refine aops_step1 rfl (st_pick_no rfl (by first | rfl | exact q1) rfl rfl) ?_
    refine aops_nil ?_
    show Weak _ _
    (refine weak_mk rfl rfl ?_ ?_ rfl <;> repeat' (first | exact trivial | refine ⟨?_, ?_⟩ | exact VLe.refl _ | exact BLe.refl _ | refine VLe.one (CLe.val ?_) | exact VLe.one (CLe.nil _) | exact VLe.one (CLe.emp _))) <;> (first | (rw [q1]; done) | (rw [q1]; rfl) | (simp [q1]; done))
  change AOps _ _ _ (⟨38, [], [(2, .one (.ptr 0 0)), (3, .one (.ptr 1 0)), (4, .one (.val (.bool false))), (16, .one (.val (.bool ((a0.Kind == a1.Kind) && (a0.N == a1.N)))))], [(0, some (.box [.val (.int .i64 a0.Kind), .val (.int .i64 a0.N), .val (Sv a0.S), CV.ls c_Int a0.I, CV.ls c_Str a0.L])), (1, some (.box [.val (.int .i64 a1.Kind), .val (.int .i64 a1.N), .val (Sv a1.S), CV.ls c_Int a1.I, CV.ls c_Str a1.L]))]⟩ : ASt) _
  refine aops_step1 rfl (st_move rfl rfl) ?_
  refine aops_mid 6 (⟨38, [], [(2, .one (.ptr 0 0)), (3, .one (.ptr 1 0)), (4, .one (.val (.bool false))), (23, .one (.val (.bool (((a0.Kind == a1.Kind) && (a0.N == a1.N)) && (decide (a0.S = a1.S))))))], [(0, some (.box [.val (.int .i64 a0.Kind), .val (.int .i64 a0.N), .val (Sv a0.S), CV.ls c_Int a0.I, CV.ls c_Str a0.L])), (1, some (.box [.val (.int .i64 a1.Kind), .val (.int .i64 a1.N), .val (Sv a1.S), CV.ls c_Int a1.I, CV.ls c_Str a1.L]))]⟩ : ASt) ?_ ?_
  · rcases Md.bool_or (((a0.Kind == a1.Kind) && (a0.N == a1.N))) with q2 | q2
    · skip
      refine aops_yes rfl rfl rfl rfl q2 (ev_field rfl rfl rfl) ?_
      refine aops_yes rfl rfl rfl rfl q2 (ev_load rfl rfl rfl rfl) ?_
      refine aops_yes rfl rfl rfl rfl q2 (ev_field rfl rfl rfl) ?_
      refine aops_yes rfl rfl rfl rfl q2 (ev_load rfl rfl rfl rfl) ?_
      refine aops_yes rfl rfl rfl rfl q2 (st_str_eq rfl rfl rfl) ?_
      refine aops_step1 rfl (st_pick_yes rfl (by first | rfl | exact q2) rfl rfl) ?_
      refine aops_nil ?_
      show Weak _ _
      (refine weak_mk rfl rfl ?_ ?_ rfl <;> repeat' (first | exact trivial | refine ⟨?_, ?_⟩ | exact VLe.refl _ | exact BLe.refl _ | refine VLe.one (CLe.val ?_) | exact VLe.one (CLe.nil _) | exact VLe.one (CLe.emp _))) <;> (first | (rw [q2]; done) | (rw [q2]; rfl) | (simp [q2]; done))
    refine aops_no rfl rfl rfl rfl rfl (by first | decide | (rw [q2]; decide)) ?_
    refine aops_no rfl rfl rfl rfl rfl (by first | decide | (rw [q2]; decide)) ?_
    refine aops_no rfl rfl rfl rfl rfl (by first | decide | (rw [q2]; decide)) ?_
    refine aops_no rfl rfl rfl rfl rfl (by first | decide | (rw [q2]; decide)) ?_
    refine aops_no rfl rfl rfl rfl rfl (by first | decide | (rw [q2]; decide)) ?_
    refine aops_step1 rfl (st_pick_no rfl (by first | rfl | exact q2) rfl rfl) ?_
    refine aops_nil ?_
    show Weak _ _
    (refine weak_mk rfl rfl ?_ ?_ rfl <;> repeat' (first | exact trivial | refine ⟨?_, ?_⟩ | exact VLe.refl _ | exact BLe.refl _ | refine VLe.one (CLe.val ?_) | exact VLe.one (CLe.nil _) | exact VLe.one (CLe.emp _))) <;> (first | (rw [q2]; done) | (rw [q2]; rfl) | (simp [q2]; done))
  change AOps _ _ _ (⟨38, [], [(2, .one (.ptr 0 0)), (3, .one (.ptr 1 0)), (4, .one (.val (.bool false))), (23, .one (.val (.bool (((a0.Kind == a1.Kind) && (a0.N == a1.N)) && (decide (a0.S = a1.S))))))], [(0, some (.box [.val (.int .i64 a0.Kind), .val (.int .i64 a0.N), .val (Sv a0.S), CV.ls c_Int a0.I, CV.ls c_Str a0.L])), (1, some (.box [.val (.int .i64 a1.Kind), .val (.int .i64 a1.N), .val (Sv a1.S), CV.ls c_Int a1.I, CV.ls c_Str a1.L]))]⟩ : ASt) _
  refine aops_step1 rfl (st_move rfl rfl) ?_
  obtain ⟨o3, j3, h⟩ := Md.bind_s h
  refine aops_cut 6 (ε := Bool) (fun x3 => (⟨38, [], [(2, .one (.ptr 0 0)), (3, .one (.ptr 1 0)), (4, .one (.val (.bool false))), (30, .one (.val (.bool x3)))], [(0, some (.box [.val (.int .i64 a0.Kind), .val (.int .i64 a0.N), .val (Sv a0.S), CV.ls c_Int a0.I, CV.ls c_Str a0.L])), (1, some (.box [.val (.int .i64 a1.Kind), .val (.int .i64 a1.N), .val (Sv a1.S), CV.ls c_Int a1.I, CV.ls c_Str a1.L]))]⟩ : ASt)) (fun x3 => x3 = o3) ?_ ?_
  · intro x3 hI3
    subst hI3
    change AOps _ _ _ (⟨38, [], [(2, .one (.ptr 0 0)), (3, .one (.ptr 1 0)), (4, .one (.val (.bool false))), (30, .one (.val (.bool x3)))], [(0, some (.box [.val (.int .i64 a0.Kind), .val (.int .i64 a0.N), .val (Sv a0.S), CV.ls c_Int a0.I, CV.ls c_Str a0.L])), (1, some (.box [.val (.int .i64 a1.Kind), .val (.int .i64 a1.N), .val (Sv a1.S), CV.ls c_Int a1.I, CV.ls c_Str a1.L]))]⟩ : ASt) _
    refine aops_step1 rfl (st_move rfl rfl) ?_
    obtain ⟨o4, j4, h⟩ := Md.bind_s h
    refine aops_cut 6 (ε := Bool) (fun x4 => (⟨38, [], [(4, .one (.val (.bool false))), (37, .one (.val (.bool x4)))], []⟩ : ASt)) (fun x4 => x4 = o4) ?_ ?_
    · intro x4 hI4
      subst hI4
      change AOps _ _ _ (⟨38, [], [(4, .one (.val (.bool false))), (37, .one (.val (.bool x4)))], []⟩ : ASt) _
      refine aops_step1 rfl (st_assign rfl rfl) ?_
      refine aops_nil ?_
      cases Option.some.inj h
      refine aw_ret ⟨rfl, ret_v (.inl ⟨_, rfl, rfl, fun _ e => nomatch e⟩) rfl rfl rfl ?_⟩
      (repeat' (first | exact TLe.refl _ | exact VLe.refl _ | exact CLe.refl _ | exact All2.nil | refine TLe.tup ?_ | refine TLe.v ?_ | refine All2.cons ?_ ?_ | refine VLe.agg ?_ | refine VLe.one ?_ | exact CLe.nil _ | exact CLe.emp _ | refine CLe.val ?_ | refine CLe.slc ?_ ?_))
    rcases Md.bool_or (x3) with q4 | q4
    · replace j4 := Md.cond_t j4 q4
      refine aops_yes rfl rfl rfl rfl q4 (ev_field rfl rfl rfl) ?_
      refine aops_yes rfl rfl rfl rfl q4 (ev_load rfl rfl rfl rfl) ?_
      refine aops_yes rfl rfl rfl rfl q4 (ev_field rfl rfl rfl) ?_
      refine aops_yes rfl rfl rfl rfl q4 (ev_load rfl rfl rfl rfl) ?_
      obtain ⟨x5, hx5, j4⟩ := Md.bind_s j4
      refine aops_yes rfl rfl rfl rfl q4 (ev_call_v (wire_same_string_fn k a0.L a1.L x5 hx5) rfl [] (by repeat' (first | exact All2.nil | refine All2.cons ?_ ?_ | refine ArgV.one ?_ | refine ArgV.agg ?_ | exact ArgC.mk rfl | exact ArgC.lend rfl (by simp) | exact ArgC.le (CLe.nil _) rfl | exact ArgC.le (CLe.emp _) rfl | exact ArgC.le (CLe.any _) rfl)) rfl rfl rfl (.inl rfl) rfl) ?_
      refine aops_step1 rfl (st_pick_yes rfl (by first | rfl | exact q4) rfl rfl) ?_
      refine aops_nil ?_
      show ∃ _x : Bool, _ = _ ∧ Weak _ _
      exact ⟨x5, Option.some.inj j4, (by (refine weak_mk rfl rfl ?_ ?_ rfl <;> repeat' (first | exact trivial | refine ⟨?_, ?_⟩ | exact VLe.refl _ | exact BLe.refl _ | refine VLe.one (CLe.val ?_) | exact VLe.one (CLe.nil _) | exact VLe.one (CLe.emp _))))⟩
    replace j4 := Md.cond_f j4 q4
    refine aops_no rfl rfl rfl rfl rfl (by first | decide | (rw [q4]; decide)) ?_
    refine aops_no rfl rfl rfl rfl rfl (by first | decide | (rw [q4]; decide)) ?_
    refine aops_no rfl rfl rfl rfl rfl (by first | decide | (rw [q4]; decide)) ?_
    refine aops_no rfl rfl rfl rfl rfl (by first | decide | (rw [q4]; decide)) ?_
    refine aops_no rfl rfl rfl rfl rfl (by first | decide | (rw [q4]; decide)) ?_
    refine aops_step1 rfl (st_pick_no rfl (by first | rfl | exact q4) rfl rfl) ?_
    refine aops_nil ?_
    show ∃ _x : Bool, _ = _ ∧ Weak _ _
    exact ⟨false, Option.some.inj j4, (by (refine weak_mk rfl rfl ?_ ?_ rfl <;> repeat' (first | exact trivial | refine ⟨?_, ?_⟩ | exact VLe.refl _ | exact BLe.refl _ | refine VLe.one (CLe.val ?_) | exact VLe.one (CLe.nil _) | exact VLe.one (CLe.emp _))))⟩
  rcases Md.bool_or ((((a0.Kind == a1.Kind) && (a0.N == a1.N)) && (decide (a0.S = a1.S)))) with q3 | q3
  · replace j3 := Md.cond_t j3 q3
    refine aops_yes rfl rfl rfl rfl q3 (ev_field rfl rfl rfl) ?_
    refine aops_yes rfl rfl rfl rfl q3 (ev_load rfl rfl rfl rfl) ?_
    refine aops_yes rfl rfl rfl rfl q3 (ev_field rfl rfl rfl) ?_
    refine aops_yes rfl rfl rfl rfl q3 (ev_load rfl rfl rfl rfl) ?_
    obtain ⟨x6, hx6, j3⟩ := Md.bind_s j3
    refine aops_yes rfl rfl rfl rfl q3 (ev_call_v (wire_same_int_fn k a0.I a1.I x6 hx6) rfl [] (by repeat' (first | exact All2.nil | refine All2.cons ?_ ?_ | refine ArgV.one ?_ | refine ArgV.agg ?_ | exact ArgC.mk rfl | exact ArgC.lend rfl (by simp) | exact ArgC.le (CLe.nil _) rfl | exact ArgC.le (CLe.emp _) rfl | exact ArgC.le (CLe.any _) rfl)) rfl rfl rfl (.inl rfl) rfl) ?_
    refine aops_step1 rfl (st_pick_yes rfl (by first | rfl | exact q3) rfl rfl) ?_
    refine aops_nil ?_
    show ∃ _x : Bool, _ = _ ∧ Weak _ _
    exact ⟨x6, Option.some.inj j3, (by (refine weak_mk rfl rfl ?_ ?_ rfl <;> repeat' (first | exact trivial | refine ⟨?_, ?_⟩ | exact VLe.refl _ | exact BLe.refl _ | refine VLe.one (CLe.val ?_) | exact VLe.one (CLe.nil _) | exact VLe.one (CLe.emp _))))⟩
  replace j3 := Md.cond_f j3 q3
  refine aops_no rfl rfl rfl rfl rfl (by first | decide | (rw [q3]; decide)) ?_
  refine aops_no rfl rfl rfl rfl rfl (by first | decide | (rw [q3]; decide)) ?_
  refine aops_no rfl rfl rfl rfl rfl (by first | decide | (rw [q3]; decide)) ?_
  refine aops_no rfl rfl rfl rfl rfl (by first | decide | (rw [q3]; decide)) ?_
  refine aops_no rfl rfl rfl rfl rfl (by first | decide | (rw [q3]; decide)) ?_
  refine aops_step1 rfl (st_pick_no rfl (by first | rfl | exact q3) rfl rfl) ?_
  refine aops_nil ?_
  show ∃ _x : Bool, _ = _ ∧ Weak _ _
  exact ⟨false, Option.some.inj j3, (by (refine weak_mk rfl rfl ?_ ?_ rfl <;> repeat' (first | exact trivial | refine ⟨?_, ?_⟩ | exact VLe.refl _ | exact BLe.refl _ | refine VLe.one (CLe.val ?_) | exact VLe.one (CLe.nil _) | exact VLe.one (CLe.emp _))))⟩
end Md
end Go.Proofs.Ytbnjdkpangmneaa
