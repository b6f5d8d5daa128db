/-
  WlAppends: where a function's model gives a value, the function returns what reads as it (printed by wip/tools/auto.py). Condition of each: the model gives a value.
-/
import Derived.Test.YtbnjdkpangmneaaWlAppendsM
import Derived.Test.YtbnjdkpangmneaaWireL
namespace Go.Proofs.Ytbnjdkpangmneaa
open Go.ChangeShapes Go.WideShapes Go.RowKit
open Abs
set_option linter.unusedVariables false
set_option linter.unusedSimpArgs false
set_option maxRecDepth 10000
namespace Md
set_option maxHeartbeats 2000000 in
theorem actorgridlaw1_WireAppends_fn (k : Nat) (a0 : List UInt8) (a1 : List UInt8) (a2 : Value) (a3 : UInt64) (a4 : List UInt8) (r : Bool) (h : actorgridlaw1_WireAppends k a0 a1 a2 a3 a4 = some r) : FnC Try.prog 10 [.one (CV.ls byC a0), .one (CV.ls byC a1), .agg [.val (.int .i64 a2.Kind), .val (.int .i64 a2.N), .val (Sv a2.S), CV.ls c_Int a2.I, CV.ls c_Str a2.L], .one (.val (.int .u64 (a3.toNat : Int))), .one (.val (Sv a4))] [] (Det (.one (.val (.bool r))) []) := by
  unfold actorgridlaw1_WireAppends at h
  refine fn_intro' 113 Try.func10 rfl rfl rfl ?_
  refine aw_seq ?_
  refine aw_region ?_
  refine aops_step1 rfl (st_box 0 rfl rfl rfl rfl) ?_
  refine aops_step1 rfl (st_assign rfl rfl) ?_
  refine aops_nil ?_
  refine aw_seq ?_
  refine aw_seq ?_
  refine aw_region ?_
  obtain ⟨x1, hx1, h⟩ := Md.bind_s h
  refine aops_step1 rfl (ev_call_v (actorgridlaw1_awake_fn k x1 hx1) rfl [] (by repeat' (first | exact All2.nil | refine All2.cons ?_ ?_ | refine ArgV.one ?_ | refine ArgV.agg ?_ | exact ArgC.mk rfl | exact ArgC.lend rfl (by simp) | exact ArgC.le (CLe.nil _) rfl | exact ArgC.le (CLe.emp _) rfl | exact ArgC.le (CLe.any _) rfl)) rfl rfl rfl (.inl rfl) rfl) ?_
  refine aops_step1 rfl (ev_not rfl rfl) ?_
  refine aops_nil ?_
  refine aw_cond rfl (fun c2 => ?_) (fun c2 => ?_)
  · replace h := Md.cond_t h c2
    refine aw_seq ?_
    refine aw_region ?_
    refine aops_step1 rfl (st_assign rfl rfl) ?_
    refine aops_nil ?_
    cases Option.some.inj h
    refine aw_ret ⟨rfl, ret_v (.inl ⟨_, rfl, rfl, fun _ e => nomatch e⟩) rfl rfl rfl ?_⟩
    (repeat' (first | exact TLe.refl _ | exact VLe.refl _ | exact CLe.refl _ | exact All2.nil | refine TLe.tup ?_ | refine TLe.v ?_ | refine All2.cons ?_ ?_ | refine VLe.agg ?_ | refine VLe.one ?_ | exact CLe.nil _ | exact CLe.emp _ | refine CLe.val ?_ | refine CLe.slc ?_ ?_))
  replace h := Md.cond_f h c2
  refine aw_skip ?_
  refine aw_seq ?_
  refine aw_seq ?_
  refine aw_region ?_
  refine aops_step1 rfl (st_move rfl rfl) ?_
  refine aops_step1 rfl (ev_len_slc rfl rfl) ?_
  refine aops_step1 rfl (ev_cmp rfl rfl rfl rfl) ?_
  refine aops_step1 rfl (st_move rfl rfl) ?_
  refine aops_mid 4 (⟨113, [], [(0, .one (CV.ls byC a0)), (1, .one (CV.ls byC a1)), (3, .one (.val (.int .u64 (a3.toNat : Int)))), (4, .one (.val (Sv a4))), (7, .one (.ptr 0 0)), (26, .one (.val (.bool ((decide (((a0.length : Nat) : Int) > 300)) || (decide (((a1.length : Nat) : Int) > 300))))))], [(0, some (.box [.val (.int .i64 a2.Kind), .val (.int .i64 a2.N), .val (Sv a2.S), CV.ls c_Int a2.I, CV.ls c_Str a2.L]))]⟩ : ASt) ?_ ?_
  · rcases Md.bool_or ((decide (((a0.length : Nat) : Int) > 300))) with q3 | q3
    · skip
      refine aops_no rfl rfl rfl rfl rfl (by first | decide | (rw [q3]; decide)) ?_
      refine aops_no rfl rfl rfl rfl rfl (by first | decide | (rw [q3]; decide)) ?_
      refine aops_no rfl rfl rfl rfl rfl (by first | decide | (rw [q3]; decide)) ?_
      refine aops_step1 rfl (st_pick_yes rfl (by first | rfl | exact q3) rfl rfl) ?_
      refine aops_nil ?_
      show Weak _ _
      (refine weak_mk rfl rfl ?_ ?_ rfl <;> repeat' (first | exact trivial | refine ⟨?_, ?_⟩ | exact VLe.refl _ | exact BLe.refl _ | refine VLe.one (CLe.val ?_) | exact VLe.one (CLe.nil _) | exact VLe.one (CLe.emp _))) <;> (first | (rw [q3]; done) | (rw [q3]; rfl) | (simp [q3]; done))
    refine aops_yes rfl rfl rfl rfl q3 (st_move rfl rfl) ?_
    refine aops_yes rfl rfl rfl rfl q3 (ev_len_slc rfl rfl) ?_
    refine aops_yes rfl rfl rfl rfl q3 (ev_cmp rfl rfl rfl rfl) ?_
    refine aops_step1 rfl (st_pick_no rfl (by first | rfl | exact q3) rfl rfl) ?_
    refine aops_nil ?_
    show Weak _ _
    (refine weak_mk rfl rfl ?_ ?_ rfl <;> repeat' (first | exact trivial | refine ⟨?_, ?_⟩ | exact VLe.refl _ | exact BLe.refl _ | refine VLe.one (CLe.val ?_) | exact VLe.one (CLe.nil _) | exact VLe.one (CLe.emp _))) <;> (first | (rw [q3]; done) | (rw [q3]; rfl) | (simp [q3]; done))
  change AOps _ _ _ (⟨113, [], [(0, .one (CV.ls byC a0)), (1, .one (CV.ls byC a1)), (3, .one (.val (.int .u64 (a3.toNat : Int)))), (4, .one (.val (Sv a4))), (7, .one (.ptr 0 0)), (26, .one (.val (.bool ((decide (((a0.length : Nat) : Int) > 300)) || (decide (((a1.length : Nat) : Int) > 300))))))], [(0, some (.box [.val (.int .i64 a2.Kind), .val (.int .i64 a2.N), .val (Sv a2.S), CV.ls c_Int a2.I, CV.ls c_Str a2.L]))]⟩ : ASt) _
  refine aops_step1 rfl (st_move rfl rfl) ?_
  obtain ⟨o4, j4, h⟩ := Md.bind_s h
  refine aops_cut 4 (ε := Bool) (fun x4 => (⟨113, [], [(0, .one (CV.ls byC a0)), (1, .one (CV.ls byC a1)), (3, .one (.val (.int .u64 (a3.toNat : Int)))), (4, .one (.val (Sv a4))), (7, .one (.ptr 0 0)), (31, .one (.val (.bool x4)))], [(0, some (.box [.val (.int .i64 a2.Kind), .val (.int .i64 a2.N), .val (Sv a2.S), CV.ls c_Int a2.I, CV.ls c_Str a2.L]))]⟩ : ASt)) (fun x4 => x4 = o4) ?_ ?_
  · intro x4 hI4
    subst hI4
    change AOps _ _ _ (⟨113, [], [(0, .one (CV.ls byC a0)), (1, .one (CV.ls byC a1)), (3, .one (.val (.int .u64 (a3.toNat : Int)))), (4, .one (.val (Sv a4))), (7, .one (.ptr 0 0)), (31, .one (.val (.bool x4)))], [(0, some (.box [.val (.int .i64 a2.Kind), .val (.int .i64 a2.N), .val (Sv a2.S), CV.ls c_Int a2.I, CV.ls c_Str a2.L]))]⟩ : ASt) _
    refine aops_step1 rfl (st_move rfl rfl) ?_
    refine aops_mid 4 (⟨113, [], [(0, .one (CV.ls byC a0)), (1, .one (CV.ls byC a1)), (3, .one (.val (.int .u64 (a3.toNat : Int)))), (4, .one (.val (Sv a4))), (7, .one (.ptr 0 0)), (36, .one (.val (.bool (x4 || (decide (((a4.length : Nat) : Int) > 200))))))], [(0, some (.box [.val (.int .i64 a2.Kind), .val (.int .i64 a2.N), .val (Sv a2.S), CV.ls c_Int a2.I, CV.ls c_Str a2.L]))]⟩ : ASt) ?_ ?_
    · rcases Md.bool_or (x4) with q5 | q5
      · skip
        refine aops_no rfl rfl rfl rfl rfl (by first | decide | (rw [q5]; decide)) ?_
        refine aops_no rfl rfl rfl rfl rfl (by first | decide | (rw [q5]; decide)) ?_
        refine aops_no rfl rfl rfl rfl rfl (by first | decide | (rw [q5]; decide)) ?_
        refine aops_step1 rfl (st_pick_yes rfl (by first | rfl | exact q5) rfl rfl) ?_
        refine aops_nil ?_
        show Weak _ _
        (refine weak_mk rfl rfl ?_ ?_ rfl <;> repeat' (first | exact trivial | refine ⟨?_, ?_⟩ | exact VLe.refl _ | exact BLe.refl _ | refine VLe.one (CLe.val ?_) | exact VLe.one (CLe.nil _) | exact VLe.one (CLe.emp _))) <;> (first | (rw [q5]; done) | (rw [q5]; rfl) | (simp [q5]; done))
      refine aops_yes rfl rfl rfl rfl q5 (st_move rfl rfl) ?_
      refine aops_yes rfl rfl rfl rfl q5 (st_len_str rfl rfl) ?_
      refine aops_yes rfl rfl rfl rfl q5 (ev_cmp rfl rfl rfl rfl) ?_
      refine aops_step1 rfl (st_pick_no rfl (by first | rfl | exact q5) rfl rfl) ?_
      refine aops_nil ?_
      show Weak _ _
      (refine weak_mk rfl rfl ?_ ?_ rfl <;> repeat' (first | exact trivial | refine ⟨?_, ?_⟩ | exact VLe.refl _ | exact BLe.refl _ | refine VLe.one (CLe.val ?_) | exact VLe.one (CLe.nil _) | exact VLe.one (CLe.emp _))) <;> (first | (rw [q5]; done) | (rw [q5]; rfl) | (simp [q5]; done))
    change AOps _ _ _ (⟨113, [], [(0, .one (CV.ls byC a0)), (1, .one (CV.ls byC a1)), (3, .one (.val (.int .u64 (a3.toNat : Int)))), (4, .one (.val (Sv a4))), (7, .one (.ptr 0 0)), (36, .one (.val (.bool (x4 || (decide (((a4.length : Nat) : Int) > 200))))))], [(0, some (.box [.val (.int .i64 a2.Kind), .val (.int .i64 a2.N), .val (Sv a2.S), CV.ls c_Int a2.I, CV.ls c_Str a2.L]))]⟩ : ASt) _
    refine aops_nil ?_
    refine aw_cond rfl (fun c6 => ?_) (fun c6 => ?_)
    · replace h := Md.cond_t h c6
      refine aw_seq ?_
      refine aw_region ?_
      refine aops_step1 rfl (st_assign rfl rfl) ?_
      refine aops_nil ?_
      cases Option.some.inj h
      refine aw_ret ⟨rfl, ret_v (.inl ⟨_, rfl, rfl, fun _ e => nomatch e⟩) rfl rfl rfl ?_⟩
      (repeat' (first | exact TLe.refl _ | exact VLe.refl _ | exact CLe.refl _ | exact All2.nil | refine TLe.tup ?_ | refine TLe.v ?_ | refine All2.cons ?_ ?_ | refine VLe.agg ?_ | refine VLe.one ?_ | exact CLe.nil _ | exact CLe.emp _ | refine CLe.val ?_ | refine CLe.slc ?_ ?_))
    replace h := Md.cond_f h c6
    refine aw_skip ?_
    refine aw_seq ?_
    refine aw_region ?_
    refine aops_step1 rfl (st_move rfl rfl) ?_
    refine aops_step1 rfl (st_move rfl rfl) ?_
    obtain ⟨x7, hx7, h⟩ := Md.bind_s h
    refine aops_step1 rfl (st_call_r (r' := .one (.own 1)) 1 rfl (actorgridlaw1_join_fn k a0 a1 x7 hx7) rfl [] (by repeat' (first | exact All2.nil | refine All2.cons ?_ ?_ | refine ArgV.one ?_ | refine ArgV.agg ?_ | exact ArgC.mk rfl | exact ArgC.lend rfl (by simp) | exact ArgC.le (CLe.nil _) rfl | exact ArgC.le (CLe.emp _) rfl | exact ArgC.le (CLe.any _) rfl)) rfl rfl rfl (.inl rfl) rfl rfl) ?_
    refine aops_step1 rfl (st_assign rfl rfl) ?_
    refine aops_nil ?_
    refine aw_seq ?_
    refine aw_region ?_
    refine aops_step1 rfl (st_move rfl rfl) ?_
    refine aops_step1 rfl (ev_str_bytes (.inr ⟨_, _, rfl, rfl⟩) Try.underlying22 Try.underlying5 Try.underlying9 rfl) ?_
    refine aops_step1 rfl (st_assign rfl rfl) ?_
    refine aops_nil ?_
    refine aw_seq ?_
    refine aw_region ?_
    refine aops_step1 rfl (st_move rfl rfl) ?_
    refine aops_step1 rfl (st_move rfl rfl) ?_
    refine aops_step1 rfl (ev_len_slc rfl rfl) ?_
    obtain ⟨g8, h⟩ := Md.ifp_s h
    refine aops_freeze 1 rfl ?_
    refine aops_step1 rfl (st_cut_hi (f := byC) (fun _ => rfl) rfl ⟨_, _, rfl, rfl⟩ g8 rfl) ?_
    refine aops_step1 rfl (st_assign rfl rfl) ?_
    refine aops_nil ?_
    obtain ⟨x9, hx9, h⟩ := Md.bind_s h
    obtain ⟨x10, hx10, h⟩ := Md.bind_s h
    obtain ⟨x11, hx11, h⟩ := Md.bind_s h
    refine aw_seq ?_
    apply aw_draw 8 ((⟨[], .one (CV.ls byC (x7.take a0.length))⟩ : Add) :: ⟨[], .one (.val (.int .u64 (a3.toNat : Int)))⟩ :: ⟨[], .one (CV.ls byC x9)⟩ :: ⟨[], .one (CV.ls byC (x7.take a0.length))⟩ :: ⟨[], .one (.val (Sv a4))⟩ :: ⟨[], .one (CV.ls byC x10)⟩ :: ⟨[], .one (CV.ls byC (x7.take a0.length))⟩ :: ⟨[], .agg [.val (.int .i64 a2.Kind), .val (.int .i64 a2.N), .val (Sv a2.S), CV.ls c_Int a2.I, CV.ls c_Str a2.L]⟩ :: []) (by decide) rfl ?hk1x ?hf1x ?ho1x ?hr1x
    case ho1x =>
     refine ⟨⟨[], (by decide +kernel), fun S hle hfr => ?_⟩, ?_⟩
     · exact .inl ⟨.inl ⟨rfl, rfl⟩, st_move (hle.ev rfl (by nofun)) (hle.d rfl)⟩
     refine ⟨⟨[], (by decide +kernel), fun S hle hfr => ?_⟩, ?_⟩
     · exact .inl ⟨.inl ⟨rfl, rfl⟩, st_move (hle.ev rfl (by nofun)) (hle.d rfl)⟩
     refine ⟨⟨0 :: 1 :: [], (by decide +kernel), fun S hle hfr => ?_⟩, ?_⟩
     · exact .inl ⟨.inl ⟨rfl, rfl⟩, st_call_z (wire_AppendUint_fn k (x7.take a0.length) a3 x9 hx9) (map_ev (.cons (hle.ev rfl (by nofun)) (.cons (hle.ev rfl (by nofun)) (.nil)))) [] (fun _ => (by repeat' (first | exact All2.nil | refine All2.cons ?_ ?_ | refine ArgV.one ?_ | refine ArgV.agg ?_ | exact ArgC.mk rfl | exact ArgC.lend (hle.heap _ _ rfl) (by simp) | exact ArgC.le (CLe.nil _) rfl | exact ArgC.le (CLe.emp _) rfl | exact ArgC.le (CLe.any _) rfl))) rfl (.inl rfl) (hle.d rfl)⟩
     refine ⟨⟨[], (by decide +kernel), fun S hle hfr => ?_⟩, ?_⟩
     · exact .inl ⟨.inl ⟨rfl, rfl⟩, st_move (hle.ev rfl (by nofun)) (hle.d rfl)⟩
     refine ⟨⟨[], (by decide +kernel), fun S hle hfr => ?_⟩, ?_⟩
     · exact .inl ⟨.inl ⟨rfl, rfl⟩, st_move (hle.ev rfl (by nofun)) (hle.d rfl)⟩
     refine ⟨⟨3 :: 4 :: 2 :: 0 :: 1 :: [], (by decide +kernel), fun S hle hfr => ?_⟩, ?_⟩
     · exact .inl ⟨.inl ⟨rfl, rfl⟩, st_call_z (wire_AppendString_fn k (x7.take a0.length) a4 x10 hx10) (map_ev (.cons (hle.ev rfl (by nofun)) (.cons (hle.ev rfl (by nofun)) (.nil)))) [] (fun _ => (by repeat' (first | exact All2.nil | refine All2.cons ?_ ?_ | refine ArgV.one ?_ | refine ArgV.agg ?_ | exact ArgC.mk rfl | exact ArgC.lend (hle.heap _ _ rfl) (by simp) | exact ArgC.le (CLe.nil _) rfl | exact ArgC.le (CLe.emp _) rfl | exact ArgC.le (CLe.any _) rfl))) rfl (.inl rfl) (hle.d rfl)⟩
     refine ⟨⟨[], (by decide +kernel), fun S hle hfr => ?_⟩, ?_⟩
     · exact .inl ⟨.inl ⟨rfl, rfl⟩, st_move (hle.ev rfl (by nofun)) (hle.d rfl)⟩
     refine ⟨⟨[], (by decide +kernel), fun S hle hfr => ?_⟩, ?_⟩
     · exact .inl ⟨.inl ⟨rfl, rfl⟩, ev_loads (ds := [_, _, _, _, _]) (hle.ev rfl (by nofun)) (hle.heap _ _ rfl) rfl rfl (hle.d rfl)⟩
     exact trivial
    case hk1x => rfl
    case hf1x => rfl
    refine aops_step1 rfl (ev_call_v (wire_AppendValue_fn k (x7.take a0.length) a2 x11 hx11) rfl [] (by repeat' (first | exact All2.nil | refine All2.cons ?_ ?_ | refine ArgV.one ?_ | refine ArgV.agg ?_ | exact ArgC.mk rfl | exact ArgC.lend rfl (by simp) | exact ArgC.le (CLe.nil _) rfl | exact ArgC.le (CLe.emp _) rfl | exact ArgC.le (CLe.any _) rfl)) rfl rfl rfl (.inl rfl) rfl) ?_
    refine aops_step1 rfl (st_assign rfl rfl) ?_
    refine aops_step1 rfl (st_assign rfl rfl) ?_
    refine aops_step1 rfl (st_assign rfl rfl) ?_
    refine aops_nil ?_
    refine aw_seq ?_
    refine aw_region ?_
    refine aops_step1 rfl (st_move rfl rfl) ?_
    refine aops_step1 rfl (ev_str_bytes (.inl rfl) Try.underlying22 Try.underlying5 Try.underlying9 rfl) ?_
    refine aops_step1 rfl (st_move rfl rfl) ?_
    refine aops_step1 rfl (st_str_eq rfl rfl rfl) ?_
    refine aops_step1 rfl (st_move rfl rfl) ?_
    refine aops_mid 6 (⟨113, [], [(0, .one (CV.ls byC a0)), (4, .one (.val (Sv a4))), (7, .one (.ptr 0 0)), (14, .one (CV.ls byC x9)), (15, .one (CV.ls byC x10)), (16, .one (CV.ls byC x11)), (65, .one (.val (.bool ((decide (x7 = x7)) && (decide (((x9.length : Nat) : Int) > ((a0.length : Nat) : Int)))))))], [(0, some (.box [.val (.int .i64 a2.Kind), .val (.int .i64 a2.N), .val (Sv a2.S), CV.ls c_Int a2.I, CV.ls c_Str a2.L]))]⟩ : ASt) ?_ ?_
    · rcases Md.bool_or ((decide (x7 = x7))) with q12 | q12
      · skip
        refine aops_yes rfl rfl rfl rfl q12 (st_move rfl rfl) ?_
        refine aops_yes rfl rfl rfl rfl q12 (ev_len_slc rfl rfl) ?_
        refine aops_yes rfl rfl rfl rfl q12 (st_move rfl rfl) ?_
        refine aops_yes rfl rfl rfl rfl q12 (ev_len_slc rfl rfl) ?_
        refine aops_yes rfl rfl rfl rfl q12 (ev_cmp rfl rfl rfl rfl) ?_
        refine aops_step1 rfl (st_pick_yes rfl (by first | rfl | exact q12) rfl rfl) ?_
        refine aops_nil ?_
        show Weak _ _
        (refine weak_mk rfl rfl ?_ ?_ rfl <;> repeat' (first | exact trivial | refine ⟨?_, ?_⟩ | exact VLe.refl _ | exact BLe.refl _ | refine VLe.one (CLe.val ?_) | exact VLe.one (CLe.nil _) | exact VLe.one (CLe.emp _))) <;> (first | (rw [q12]; done) | (rw [q12]; rfl) | (simp [q12]; done))
      refine aops_no rfl rfl rfl rfl rfl (by first | decide | (rw [q12]; decide)) ?_
      refine aops_no rfl rfl rfl rfl rfl (by first | decide | (rw [q12]; decide)) ?_
      refine aops_no rfl rfl rfl rfl rfl (by first | decide | (rw [q12]; decide)) ?_
      refine aops_no rfl rfl rfl rfl rfl (by first | decide | (rw [q12]; decide)) ?_
      refine aops_no rfl rfl rfl rfl rfl (by first | decide | (rw [q12]; decide)) ?_
      refine aops_step1 rfl (st_pick_no rfl (by first | rfl | exact q12) rfl rfl) ?_
      refine aops_nil ?_
      show Weak _ _
      (refine weak_mk rfl rfl ?_ ?_ rfl <;> repeat' (first | exact trivial | refine ⟨?_, ?_⟩ | exact VLe.refl _ | exact BLe.refl _ | refine VLe.one (CLe.val ?_) | exact VLe.one (CLe.nil _) | exact VLe.one (CLe.emp _))) <;> (first | (rw [q12]; done) | (rw [q12]; rfl) | (simp [q12]; done))
    change AOps _ _ _ (⟨113, [], [(0, .one (CV.ls byC a0)), (4, .one (.val (Sv a4))), (7, .one (.ptr 0 0)), (14, .one (CV.ls byC x9)), (15, .one (CV.ls byC x10)), (16, .one (CV.ls byC x11)), (65, .one (.val (.bool ((decide (x7 = x7)) && (decide (((x9.length : Nat) : Int) > ((a0.length : Nat) : Int)))))))], [(0, some (.box [.val (.int .i64 a2.Kind), .val (.int .i64 a2.N), .val (Sv a2.S), CV.ls c_Int a2.I, CV.ls c_Str a2.L]))]⟩ : ASt) _
    refine aops_step1 rfl (st_move rfl rfl) ?_
    obtain ⟨o13, j13, h⟩ := Md.bind_s h
    refine aops_cut 7 (ε := Bool) (fun x13 => (⟨113, [], [(0, .one (CV.ls byC a0)), (4, .one (.val (Sv a4))), (7, .one (.ptr 0 0)), (15, .one (CV.ls byC x10)), (16, .one (CV.ls byC x11)), (73, .one (.val (.bool x13)))], [(0, some (.box [.val (.int .i64 a2.Kind), .val (.int .i64 a2.N), .val (Sv a2.S), CV.ls c_Int a2.I, CV.ls c_Str a2.L]))]⟩ : ASt)) (fun x13 => x13 = o13) ?_ ?_
    · intro x13 hI13
      subst hI13
      change AOps _ _ _ (⟨113, [], [(0, .one (CV.ls byC a0)), (4, .one (.val (Sv a4))), (7, .one (.ptr 0 0)), (15, .one (CV.ls byC x10)), (16, .one (CV.ls byC x11)), (73, .one (.val (.bool x13)))], [(0, some (.box [.val (.int .i64 a2.Kind), .val (.int .i64 a2.N), .val (Sv a2.S), CV.ls c_Int a2.I, CV.ls c_Str a2.L]))]⟩ : ASt) _
      refine aops_step1 rfl (st_move rfl rfl) ?_
      obtain ⟨o14, j14, h⟩ := Md.bind_s h
      refine aops_cut 10 (ε := Bool) (fun x14 => (⟨113, [], [(0, .one (CV.ls byC a0)), (7, .one (.ptr 0 0)), (15, .one (CV.ls byC x10)), (16, .one (CV.ls byC x11)), (84, .one (.val (.bool x14)))], [(0, some (.box [.val (.int .i64 a2.Kind), .val (.int .i64 a2.N), .val (Sv a2.S), CV.ls c_Int a2.I, CV.ls c_Str a2.L]))]⟩ : ASt)) (fun x14 => x14 = o14) ?_ ?_
      · intro x14 hI14
        subst hI14
        change AOps _ _ _ (⟨113, [], [(0, .one (CV.ls byC a0)), (7, .one (.ptr 0 0)), (15, .one (CV.ls byC x10)), (16, .one (CV.ls byC x11)), (84, .one (.val (.bool x14)))], [(0, some (.box [.val (.int .i64 a2.Kind), .val (.int .i64 a2.N), .val (Sv a2.S), CV.ls c_Int a2.I, CV.ls c_Str a2.L]))]⟩ : ASt) _
        refine aops_step1 rfl (st_move rfl rfl) ?_
        obtain ⟨o15, j15, h⟩ := Md.bind_s h
        refine aops_cut 7 (ε := Bool) (fun x15 => (⟨113, [], [(0, .one (CV.ls byC a0)), (7, .one (.ptr 0 0)), (16, .one (CV.ls byC x11)), (92, .one (.val (.bool x15)))], [(0, some (.box [.val (.int .i64 a2.Kind), .val (.int .i64 a2.N), .val (Sv a2.S), CV.ls c_Int a2.I, CV.ls c_Str a2.L]))]⟩ : ASt)) (fun x15 => x15 = o15) ?_ ?_
        · intro x15 hI15
          subst hI15
          change AOps _ _ _ (⟨113, [], [(0, .one (CV.ls byC a0)), (7, .one (.ptr 0 0)), (16, .one (CV.ls byC x11)), (92, .one (.val (.bool x15)))], [(0, some (.box [.val (.int .i64 a2.Kind), .val (.int .i64 a2.N), .val (Sv a2.S), CV.ls c_Int a2.I, CV.ls c_Str a2.L]))]⟩ : ASt) _
          refine aops_step1 rfl (st_move rfl rfl) ?_
          obtain ⟨o16, j16, h⟩ := Md.bind_s h
          refine aops_cut 19 (ε := Bool) (fun x16 => (⟨113, [], [(112, .one (.val (.bool x16)))], []⟩ : ASt)) (fun x16 => x16 = o16) ?_ ?_
          · intro x16 hI16
            subst hI16
            change AOps _ _ _ (⟨113, [], [(112, .one (.val (.bool x16)))], []⟩ : ASt) _
            refine aops_step1 rfl (st_assign rfl rfl) ?_
            refine aops_nil ?_
            cases Option.some.inj h
            refine aw_ret ⟨rfl, ret_v (.inl ⟨_, rfl, rfl, fun _ e => nomatch e⟩) rfl rfl rfl ?_⟩
            (repeat' (first | exact TLe.refl _ | exact VLe.refl _ | exact CLe.refl _ | exact All2.nil | refine TLe.tup ?_ | refine TLe.v ?_ | refine All2.cons ?_ ?_ | refine VLe.agg ?_ | refine VLe.one ?_ | exact CLe.nil _ | exact CLe.emp _ | refine CLe.val ?_ | refine CLe.slc ?_ ?_))
          rcases Md.bool_or (x15) with q16 | q16
          · replace j16 := Md.cond_t j16 q16
            refine aops_yes rfl rfl rfl rfl q16 (ev_loads (ds := [_, _, _, _, _]) rfl rfl rfl rfl rfl) ?_
            obtain ⟨x17, hx17, j16⟩ := Md.bind_s j16
            refine aops_yes rfl rfl rfl rfl q16 (ev_call_v (wire_ValidValue_fn k a2 x17 hx17) rfl [] (by repeat' (first | exact All2.nil | refine All2.cons ?_ ?_ | refine ArgV.one ?_ | refine ArgV.agg ?_ | exact ArgC.mk rfl | exact ArgC.lend rfl (by simp) | exact ArgC.le (CLe.nil _) rfl | exact ArgC.le (CLe.emp _) rfl | exact ArgC.le (CLe.any _) rfl)) rfl rfl rfl (.inl rfl) rfl) ?_
            refine aops_yes rfl rfl rfl rfl q16 (ev_not rfl rfl) ?_
            refine aops_yes rfl rfl rfl rfl q16 (st_move rfl rfl) ?_
            obtain ⟨o18, j18, j16⟩ := Md.bind_s j16
            refine aops_cut 14 (ε := Bool) (fun x18 => (⟨113, [], [(93, .one (.val (.bool x15))), (111, .one (.val (.bool x18)))], []⟩ : ASt)) (fun x18 => x18 = o18) ?_ ?_
            · intro x18 hI18
              subst hI18
              change AOps _ _ _ (⟨113, [], [(93, .one (.val (.bool x15))), (111, .one (.val (.bool x18)))], []⟩ : ASt) _
              refine aops_step1 rfl (st_pick_yes rfl (by first | rfl | exact q16) rfl rfl) ?_
              refine aops_nil ?_
              show ∃ _x : Bool, _ = _ ∧ Weak _ _
              exact ⟨x18, Option.some.inj j16, (by (refine weak_mk rfl rfl ?_ ?_ rfl <;> repeat' (first | exact trivial | refine ⟨?_, ?_⟩ | exact VLe.refl _ | exact BLe.refl _ | refine VLe.one (CLe.val ?_) | exact VLe.one (CLe.nil _) | exact VLe.one (CLe.emp _))))⟩
            rcases Md.bool_or ((!x17)) with q18 | q18
            · replace j18 := Md.cond_t j18 q18
              refine aops_no rfl rfl rfl rfl rfl (by first | decide | (rw [q18]; decide)) ?_
              refine aops_no rfl rfl rfl rfl rfl (by first | decide | (rw [q18]; decide)) ?_
              refine aops_no rfl rfl rfl rfl rfl (by first | decide | (rw [q18]; decide)) ?_
              refine aops_no rfl rfl rfl rfl rfl (by first | decide | (rw [q18]; decide)) ?_
              refine aops_no rfl rfl rfl rfl rfl (by first | decide | (rw [q18]; decide)) ?_
              refine aops_no rfl rfl rfl rfl rfl (by first | decide | (rw [q18]; decide)) ?_
              refine aops_und rfl rfl rfl rfl rfl ?_
              refine aops_und rfl rfl rfl rfl rfl ?_
              refine aops_und rfl rfl rfl rfl rfl ?_
              refine aops_und rfl rfl rfl rfl rfl ?_
              refine aops_und rfl rfl rfl rfl rfl ?_
              refine aops_und rfl rfl rfl rfl rfl ?_
              refine aops_no rfl rfl rfl rfl rfl (by first | decide | (rw [q18]; decide)) ?_
              refine aops_yes rfl rfl rfl rfl q16 (st_pick_yes rfl (by first | rfl | exact q18) rfl rfl) ?_
              refine aops_nil ?_
              show ∃ _x : Bool, _ = _ ∧ Weak _ _
              exact ⟨true, Option.some.inj j18, (by (refine weak_mk rfl rfl ?_ ?_ rfl <;> repeat' (first | exact trivial | refine ⟨?_, ?_⟩ | exact VLe.refl _ | exact BLe.refl _ | refine VLe.one (CLe.val ?_) | exact VLe.one (CLe.nil _) | exact VLe.one (CLe.emp _))))⟩
            replace j18 := Md.cond_f j18 q18
            refine aops_yes rfl rfl rfl rfl q18 (st_move rfl rfl) ?_
            refine aops_yes rfl rfl rfl rfl q18 (ev_len_slc rfl rfl) ?_
            refine aops_yes rfl rfl rfl rfl q18 (st_move rfl rfl) ?_
            refine aops_yes rfl rfl rfl rfl q18 (ev_len_slc rfl rfl) ?_
            refine aops_yes rfl rfl rfl rfl q18 (ev_cmp rfl rfl rfl rfl) ?_
            refine aops_yes rfl rfl rfl rfl q18 (st_move rfl rfl) ?_
            obtain ⟨o19, j19, j18⟩ := Md.bind_s j18
            refine aops_cut 7 (ε := Bool) (fun x19 => (⟨113, [], [(93, .one (.val (.bool x15))), (97, .one (.val (.bool (!x17)))), (110, .one (.val (.bool x19)))], []⟩ : ASt)) (fun x19 => x19 = o19) ?_ ?_
            · intro x19 hI19
              subst hI19
              change AOps _ _ _ (⟨113, [], [(93, .one (.val (.bool x15))), (97, .one (.val (.bool (!x17)))), (110, .one (.val (.bool x19)))], []⟩ : ASt) _
              refine aops_yes rfl rfl rfl rfl q16 (st_pick_no rfl (by first | rfl | exact q18) rfl rfl) ?_
              refine aops_nil ?_
              show ∃ _x : Bool, _ = _ ∧ Weak _ _
              exact ⟨x19, Option.some.inj j18, (by (refine weak_mk rfl rfl ?_ ?_ rfl <;> repeat' (first | exact trivial | refine ⟨?_, ?_⟩ | exact VLe.refl _ | exact BLe.refl _ | refine VLe.one (CLe.val ?_) | exact VLe.one (CLe.nil _) | exact VLe.one (CLe.emp _))))⟩
            rcases Md.bool_or ((decide (((x11.length : Nat) : Int) > ((a0.length : Nat) : Int)))) with q19 | q19
            · replace j19 := Md.cond_t j19 q19
              refine aops_yes rfl rfl rfl rfl q19 (st_move rfl rfl) ?_
              refine aops_yes rfl rfl rfl rfl q19 (st_move rfl rfl) ?_
              refine aops_yes rfl rfl rfl rfl q19 (ev_len_slc rfl rfl) ?_
              obtain ⟨g20, j19⟩ := Md.ifp_s j19
              refine aops_yes rfl rfl rfl rfl q19 (st_cut_hi (f := byC) (fun _ => rfl) rfl ⟨_, _, rfl, rfl⟩ g20 rfl) ?_
              refine aops_yes rfl rfl rfl rfl q19 (st_move rfl rfl) ?_
              obtain ⟨x21, hx21, j19⟩ := Md.bind_s j19
              refine aops_yes rfl rfl rfl rfl q19 (ev_call_v (actorgridlaw1_same_fn k (x11.take a0.length) a0 x21 hx21) rfl [] (by repeat' (first | exact All2.nil | refine All2.cons ?_ ?_ | refine ArgV.one ?_ | refine ArgV.agg ?_ | exact ArgC.mk rfl | exact ArgC.lend rfl (by simp) | exact ArgC.le (CLe.nil _) rfl | exact ArgC.le (CLe.emp _) rfl | exact ArgC.le (CLe.any _) rfl)) rfl rfl rfl (.inl rfl) rfl) ?_
              refine aops_yes rfl rfl rfl rfl q18 (st_pick_yes rfl (by first | rfl | exact q19) rfl rfl) ?_
              refine aops_nil ?_
              show ∃ _x : Bool, _ = _ ∧ Weak _ _
              exact ⟨x21, Option.some.inj j19, (by (refine weak_mk rfl rfl ?_ ?_ rfl <;> repeat' (first | exact trivial | refine ⟨?_, ?_⟩ | exact VLe.refl _ | exact BLe.refl _ | refine VLe.one (CLe.val ?_) | exact VLe.one (CLe.nil _) | exact VLe.one (CLe.emp _))))⟩
            replace j19 := Md.cond_f j19 q19
            refine aops_no rfl rfl rfl rfl rfl (by first | decide | (rw [q19]; decide)) ?_
            refine aops_no rfl rfl rfl rfl rfl (by first | decide | (rw [q19]; decide)) ?_
            refine aops_no rfl rfl rfl rfl rfl (by first | decide | (rw [q19]; decide)) ?_
            refine aops_no rfl rfl rfl rfl rfl (by first | decide | (rw [q19]; decide)) ?_
            refine aops_no rfl rfl rfl rfl rfl (by first | decide | (rw [q19]; decide)) ?_
            refine aops_no rfl rfl rfl rfl rfl (by first | decide | (rw [q19]; decide)) ?_
            refine aops_yes rfl rfl rfl rfl q18 (st_pick_no rfl (by first | rfl | exact q19) rfl rfl) ?_
            refine aops_nil ?_
            show ∃ _x : Bool, _ = _ ∧ Weak _ _
            exact ⟨false, Option.some.inj j19, (by (refine weak_mk rfl rfl ?_ ?_ rfl <;> repeat' (first | exact trivial | refine ⟨?_, ?_⟩ | exact VLe.refl _ | exact BLe.refl _ | refine VLe.one (CLe.val ?_) | exact VLe.one (CLe.nil _) | exact VLe.one (CLe.emp _))))⟩
          replace j16 := Md.cond_f j16 q16
          refine aops_no rfl rfl rfl rfl rfl (by first | decide | (rw [q16]; decide)) ?_
          refine aops_no rfl rfl rfl rfl rfl (by first | decide | (rw [q16]; decide)) ?_
          refine aops_no rfl rfl rfl rfl rfl (by first | decide | (rw [q16]; decide)) ?_
          refine aops_no rfl rfl rfl rfl rfl (by first | decide | (rw [q16]; decide)) ?_
          refine aops_und rfl rfl rfl rfl rfl ?_
          refine aops_und rfl rfl rfl rfl rfl ?_
          refine aops_und rfl rfl rfl rfl rfl ?_
          refine aops_und rfl rfl rfl rfl rfl ?_
          refine aops_und rfl rfl rfl rfl rfl ?_
          refine aops_und rfl rfl rfl rfl rfl ?_
          refine aops_und rfl rfl rfl rfl rfl ?_
          refine aops_und rfl rfl rfl rfl rfl ?_
          refine aops_und rfl rfl rfl rfl rfl ?_
          refine aops_und rfl rfl rfl rfl rfl ?_
          refine aops_und rfl rfl rfl rfl rfl ?_
          refine aops_und rfl rfl rfl rfl rfl ?_
          refine aops_und rfl rfl rfl rfl rfl ?_
          refine aops_no rfl rfl rfl rfl rfl (by first | decide | (rw [q16]; decide)) ?_
          refine aops_step1 rfl (st_pick_no rfl (by first | rfl | exact q16) rfl rfl) ?_
          refine aops_nil ?_
          show ∃ _x : Bool, _ = _ ∧ Weak _ _
          exact ⟨false, Option.some.inj j16, (by (refine weak_mk rfl rfl ?_ ?_ rfl <;> repeat' (first | exact trivial | refine ⟨?_, ?_⟩ | exact VLe.refl _ | exact BLe.refl _ | refine VLe.one (CLe.val ?_) | exact VLe.one (CLe.nil _) | exact VLe.one (CLe.emp _))))⟩
        rcases Md.bool_or (x14) with q15 | q15
        · replace j15 := Md.cond_t j15 q15
          refine aops_yes rfl rfl rfl rfl q15 (st_move rfl rfl) ?_
          refine aops_yes rfl rfl rfl rfl q15 (st_move rfl rfl) ?_
          refine aops_yes rfl rfl rfl rfl q15 (ev_len_slc rfl rfl) ?_
          obtain ⟨g22, j15⟩ := Md.ifp_s j15
          refine aops_yes rfl rfl rfl rfl q15 (st_cut_hi (f := byC) (fun _ => rfl) rfl ⟨_, _, rfl, rfl⟩ g22 rfl) ?_
          refine aops_yes rfl rfl rfl rfl q15 (st_move rfl rfl) ?_
          obtain ⟨x23, hx23, j15⟩ := Md.bind_s j15
          refine aops_yes rfl rfl rfl rfl q15 (ev_call_v (actorgridlaw1_same_fn k (x10.take a0.length) a0 x23 hx23) rfl [] (by repeat' (first | exact All2.nil | refine All2.cons ?_ ?_ | refine ArgV.one ?_ | refine ArgV.agg ?_ | exact ArgC.mk rfl | exact ArgC.lend rfl (by simp) | exact ArgC.le (CLe.nil _) rfl | exact ArgC.le (CLe.emp _) rfl | exact ArgC.le (CLe.any _) rfl)) rfl rfl rfl (.inl rfl) rfl) ?_
          refine aops_step1 rfl (st_pick_yes rfl (by first | rfl | exact q15) rfl rfl) ?_
          refine aops_nil ?_
          show ∃ _x : Bool, _ = _ ∧ Weak _ _
          exact ⟨x23, Option.some.inj j15, (by (refine weak_mk rfl rfl ?_ ?_ rfl <;> repeat' (first | exact trivial | refine ⟨?_, ?_⟩ | exact VLe.refl _ | exact BLe.refl _ | refine VLe.one (CLe.val ?_) | exact VLe.one (CLe.nil _) | exact VLe.one (CLe.emp _))))⟩
        replace j15 := Md.cond_f j15 q15
        refine aops_no rfl rfl rfl rfl rfl (by first | decide | (rw [q15]; decide)) ?_
        refine aops_no rfl rfl rfl rfl rfl (by first | decide | (rw [q15]; decide)) ?_
        refine aops_no rfl rfl rfl rfl rfl (by first | decide | (rw [q15]; decide)) ?_
        refine aops_no rfl rfl rfl rfl rfl (by first | decide | (rw [q15]; decide)) ?_
        refine aops_no rfl rfl rfl rfl rfl (by first | decide | (rw [q15]; decide)) ?_
        refine aops_no rfl rfl rfl rfl rfl (by first | decide | (rw [q15]; decide)) ?_
        refine aops_step1 rfl (st_pick_no rfl (by first | rfl | exact q15) rfl rfl) ?_
        refine aops_nil ?_
        show ∃ _x : Bool, _ = _ ∧ Weak _ _
        exact ⟨false, Option.some.inj j15, (by (refine weak_mk rfl rfl ?_ ?_ rfl <;> repeat' (first | exact trivial | refine ⟨?_, ?_⟩ | exact VLe.refl _ | exact BLe.refl _ | refine VLe.one (CLe.val ?_) | exact VLe.one (CLe.nil _) | exact VLe.one (CLe.emp _))))⟩
      rcases Md.bool_or (x13) with q14 | q14
      · replace j14 := Md.cond_t j14 q14
        refine aops_yes rfl rfl rfl rfl q14 (st_move rfl rfl) ?_
        refine aops_yes rfl rfl rfl rfl q14 (ev_len_slc rfl rfl) ?_
        refine aops_yes rfl rfl rfl rfl q14 (st_move rfl rfl) ?_
        obtain ⟨x24, hx24, j14⟩ := Md.bind_s j14
        refine aops_yes rfl rfl rfl rfl q14 (st_call_r (r' := .one (.own 2)) 2 rfl (wire_AppendString_fn k ([] : List UInt8) a4 x24 hx24) rfl [] (by repeat' (first | exact All2.nil | refine All2.cons ?_ ?_ | refine ArgV.one ?_ | refine ArgV.agg ?_ | exact ArgC.mk rfl | exact ArgC.lend rfl (by simp) | exact ArgC.le (CLe.nil _) rfl | exact ArgC.le (CLe.emp _) rfl | exact ArgC.le (CLe.any _) rfl)) rfl rfl rfl (.inl rfl) rfl rfl) ?_
        refine aops_yes rfl rfl rfl rfl q14 (ev_len_own rfl rfl rfl) ?_
        refine aops_yes rfl rfl rfl rfl q14 (st_move rfl rfl) ?_
        refine aops_yes rfl rfl rfl rfl q14 (ev_len_slc rfl rfl) ?_
        obtain ⟨g25, j14⟩ := Md.ifp_s j14
        refine aops_yes rfl rfl rfl rfl q14 (ev_add rfl rfl rfl (Md.nat_add g25)) ?_
        refine aops_yes rfl rfl rfl rfl q14 (ev_cmp rfl rfl rfl rfl) ?_
        refine aops_step1 rfl (st_pick_yes rfl (by first | rfl | exact q14) rfl rfl) ?_
        refine aops_nil ?_
        show ∃ _x : Bool, _ = _ ∧ Weak _ _
        exact ⟨(((x10.length : Nat) : Int) == (((x24.length + a0.length) : Nat) : Int)), Option.some.inj j14, (by (refine weak_mk rfl rfl ?_ ?_ rfl <;> repeat' (first | exact trivial | refine ⟨?_, ?_⟩ | exact VLe.refl _ | exact BLe.refl _ | refine VLe.one (CLe.val ?_) | exact VLe.one (CLe.nil _) | exact VLe.one (CLe.emp _))))⟩
      replace j14 := Md.cond_f j14 q14
      refine aops_no rfl rfl rfl rfl rfl (by first | decide | (rw [q14]; decide)) ?_
      refine aops_no rfl rfl rfl rfl rfl (by first | decide | (rw [q14]; decide)) ?_
      refine aops_no rfl rfl rfl rfl rfl (by first | decide | (rw [q14]; decide)) ?_
      refine aops_no rfl rfl rfl rfl rfl (by first | decide | (rw [q14]; decide)) ?_
      refine aops_no rfl rfl rfl rfl rfl (by first | decide | (rw [q14]; decide)) ?_
      refine aops_no rfl rfl rfl rfl rfl (by first | decide | (rw [q14]; decide)) ?_
      refine aops_no rfl rfl rfl rfl rfl (by first | decide | (rw [q14]; decide)) ?_
      refine aops_no rfl rfl rfl rfl rfl (by first | decide | (rw [q14]; decide)) ?_
      refine aops_no rfl rfl rfl rfl rfl (by first | decide | (rw [q14]; decide)) ?_
      refine aops_step1 rfl (st_pick_no rfl (by first | rfl | exact q14) rfl rfl) ?_
      refine aops_nil ?_
      show ∃ _x : Bool, _ = _ ∧ Weak _ _
      exact ⟨false, Option.some.inj j14, (by (refine weak_mk rfl rfl ?_ ?_ rfl <;> repeat' (first | exact trivial | refine ⟨?_, ?_⟩ | exact VLe.refl _ | exact BLe.refl _ | refine VLe.one (CLe.val ?_) | exact VLe.one (CLe.nil _) | exact VLe.one (CLe.emp _))))⟩
    rcases Md.bool_or (((decide (x7 = x7)) && (decide (((x9.length : Nat) : Int) > ((a0.length : Nat) : Int))))) with q13 | q13
    · replace j13 := Md.cond_t j13 q13
      refine aops_yes rfl rfl rfl rfl q13 (st_move rfl rfl) ?_
      refine aops_yes rfl rfl rfl rfl q13 (st_move rfl rfl) ?_
      refine aops_yes rfl rfl rfl rfl q13 (ev_len_slc rfl rfl) ?_
      obtain ⟨g26, j13⟩ := Md.ifp_s j13
      refine aops_yes rfl rfl rfl rfl q13 (st_cut_hi (f := byC) (fun _ => rfl) rfl ⟨_, _, rfl, rfl⟩ g26 rfl) ?_
      refine aops_yes rfl rfl rfl rfl q13 (st_move rfl rfl) ?_
      obtain ⟨x27, hx27, j13⟩ := Md.bind_s j13
      refine aops_yes rfl rfl rfl rfl q13 (ev_call_v (actorgridlaw1_same_fn k (x9.take a0.length) a0 x27 hx27) rfl [] (by repeat' (first | exact All2.nil | refine All2.cons ?_ ?_ | refine ArgV.one ?_ | refine ArgV.agg ?_ | exact ArgC.mk rfl | exact ArgC.lend rfl (by simp) | exact ArgC.le (CLe.nil _) rfl | exact ArgC.le (CLe.emp _) rfl | exact ArgC.le (CLe.any _) rfl)) rfl rfl rfl (.inl rfl) rfl) ?_
      refine aops_step1 rfl (st_pick_yes rfl (by first | rfl | exact q13) rfl rfl) ?_
      refine aops_nil ?_
      show ∃ _x : Bool, _ = _ ∧ Weak _ _
      exact ⟨x27, Option.some.inj j13, (by (refine weak_mk rfl rfl ?_ ?_ rfl <;> repeat' (first | exact trivial | refine ⟨?_, ?_⟩ | exact VLe.refl _ | exact BLe.refl _ | refine VLe.one (CLe.val ?_) | exact VLe.one (CLe.nil _) | exact VLe.one (CLe.emp _))))⟩
    replace j13 := Md.cond_f j13 q13
    refine aops_no rfl rfl rfl rfl rfl (by first | decide | (rw [q13]; decide)) ?_
    refine aops_no rfl rfl rfl rfl rfl (by first | decide | (rw [q13]; decide)) ?_
    refine aops_no rfl rfl rfl rfl rfl (by first | decide | (rw [q13]; decide)) ?_
    refine aops_no rfl rfl rfl rfl rfl (by first | decide | (rw [q13]; decide)) ?_
    refine aops_no rfl rfl rfl rfl rfl (by first | decide | (rw [q13]; decide)) ?_
    refine aops_no rfl rfl rfl rfl rfl (by first | decide | (rw [q13]; decide)) ?_
    refine aops_step1 rfl (st_pick_no rfl (by first | rfl | exact q13) rfl rfl) ?_
    refine aops_nil ?_
    show ∃ _x : Bool, _ = _ ∧ Weak _ _
    exact ⟨false, Option.some.inj j13, (by (refine weak_mk rfl rfl ?_ ?_ rfl <;> repeat' (first | exact trivial | refine ⟨?_, ?_⟩ | exact VLe.refl _ | exact BLe.refl _ | refine VLe.one (CLe.val ?_) | exact VLe.one (CLe.nil _) | exact VLe.one (CLe.emp _))))⟩
  rcases Md.bool_or (((decide (((a0.length : Nat) : Int) > 300)) || (decide (((a1.length : Nat) : Int) > 300)))) with q4 | q4
  · replace j4 := Md.cond_t j4 q4
    refine aops_no rfl rfl rfl rfl rfl (by first | decide | (rw [q4]; decide)) ?_
    refine aops_no rfl rfl rfl rfl rfl (by first | decide | (rw [q4]; decide)) ?_
    refine aops_no rfl rfl rfl rfl rfl (by first | decide | (rw [q4]; decide)) ?_
    refine aops_step1 rfl (st_pick_yes rfl (by first | rfl | exact q4) rfl rfl) ?_
    refine aops_nil ?_
    show ∃ _x : Bool, _ = _ ∧ Weak _ _
    exact ⟨true, Option.some.inj j4, (by (refine weak_mk rfl rfl ?_ ?_ rfl <;> repeat' (first | exact trivial | refine ⟨?_, ?_⟩ | exact VLe.refl _ | exact BLe.refl _ | refine VLe.one (CLe.val ?_) | exact VLe.one (CLe.nil _) | exact VLe.one (CLe.emp _))))⟩
  replace j4 := Md.cond_f j4 q4
  refine aops_yes rfl rfl rfl rfl q4 (ev_loads (ds := [_, _, _, _, _]) rfl rfl rfl rfl rfl) ?_
  obtain ⟨x28, hx28, j4⟩ := Md.bind_s j4
  refine aops_yes rfl rfl rfl rfl q4 (ev_call_v (actorgridlaw1_Small_fn k a2 x28 hx28) rfl [] (by repeat' (first | exact All2.nil | refine All2.cons ?_ ?_ | refine ArgV.one ?_ | refine ArgV.agg ?_ | exact ArgC.mk rfl | exact ArgC.lend rfl (by simp) | exact ArgC.le (CLe.nil _) rfl | exact ArgC.le (CLe.emp _) rfl | exact ArgC.le (CLe.any _) rfl)) rfl rfl rfl (.inl rfl) rfl) ?_
  refine aops_yes rfl rfl rfl rfl q4 (ev_not rfl rfl) ?_
  refine aops_step1 rfl (st_pick_no rfl (by first | rfl | exact q4) rfl rfl) ?_
  refine aops_nil ?_
  show ∃ _x : Bool, _ = _ ∧ Weak _ _
  exact ⟨(!x28), Option.some.inj j4, (by (refine weak_mk rfl rfl ?_ ?_ rfl <;> repeat' (first | exact trivial | refine ⟨?_, ?_⟩ | exact VLe.refl _ | exact BLe.refl _ | refine VLe.one (CLe.val ?_) | exact VLe.one (CLe.nil _) | exact VLe.one (CLe.emp _))))⟩
end Md
end Go.Proofs.Ytbnjdkpangmneaa
