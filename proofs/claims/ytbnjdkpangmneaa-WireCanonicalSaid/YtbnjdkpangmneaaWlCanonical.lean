/-
  WlCanonical: where a function's model gives a value, the function returns what reads as it (printed by wip/tools/auto.py). Condition of each: the model gives a value.
-/
import Derived.Test.YtbnjdkpangmneaaWlCanonicalM
import Derived.Test.YtbnjdkpangmneaaWireL
namespace Go.Proofs.Ytbnjdkpangmneaa
open Go.ChangeShapes Go.WideShapes Go.RowKit
open Abs
set_option linter.unusedVariables false
set_option linter.unusedSimpArgs false
set_option maxRecDepth 10000
namespace Md
set_option maxHeartbeats 2000000 in
theorem actorgridlaw1_WireCanonical_fn (k : Nat) (a0 : List UInt8) (a1 : UInt8) (r : Bool) (h : actorgridlaw1_WireCanonical k a0 a1 = some r) : FnC Try.prog 9 [.one (CV.ls byC a0), .one (.val (.int .u8 (a1.toNat : Int)))] [] (Det (.one (.val (.bool r))) []) := by
  unfold actorgridlaw1_WireCanonical at h
  refine fn_intro' 225 Try.func9 rfl rfl rfl ?_
  refine aw_seq ?_
  refine aw_region ?_
  refine aops_step1 rfl (st_assign rfl rfl) ?_
  refine aops_nil ?_
  refine aw_seq ?_
  refine aw_seq ?_
  refine aw_region ?_
  obtain ⟨x1, hx1, h⟩ := Md.bind_s h
  refine aops_step1 rfl (ev_call_v (actorgridlaw1_awake_fn k x1 hx1) rfl [] (by repeat' (first | exact All2.nil | refine All2.cons ?_ ?_ | refine ArgV.one ?_ | refine ArgV.agg ?_ | exact ArgC.mk rfl | exact ArgC.lend rfl (by simp) | exact ArgC.le (CLe.nil _) rfl | exact ArgC.le (CLe.emp _) rfl | exact ArgC.le (CLe.any _) rfl)) rfl rfl rfl (.inl rfl) rfl) ?_
  refine aops_step1 rfl (ev_not rfl rfl) ?_
  refine aops_nil ?_
  refine aw_cond rfl (fun c2 => ?_) (fun c2 => ?_)
  · replace h := Md.cond_t h c2
    refine aw_seq ?_
    refine aw_region ?_
    refine aops_step1 rfl (st_assign rfl rfl) ?_
    refine aops_nil ?_
    cases Option.some.inj h
    refine aw_ret ⟨rfl, ret_v (.inl ⟨_, rfl, rfl, fun _ e => nomatch e⟩) rfl rfl rfl ?_⟩
    (repeat' (first | exact TLe.refl _ | exact VLe.refl _ | exact CLe.refl _ | exact All2.nil | refine TLe.tup ?_ | refine TLe.v ?_ | refine All2.cons ?_ ?_ | refine VLe.agg ?_ | refine VLe.one ?_ | exact CLe.nil _ | exact CLe.emp _ | refine CLe.val ?_ | refine CLe.slc ?_ ?_))
  replace h := Md.cond_f h c2
  refine aw_skip ?_
  refine aw_seq ?_
  refine aw_seq ?_
  refine aw_region ?_
  refine aops_step1 rfl (st_move rfl rfl) ?_
  refine aops_step1 rfl (ev_len_slc rfl rfl) ?_
  refine aops_step1 rfl (ev_cmp rfl rfl rfl rfl) ?_
  refine aops_nil ?_
  refine aw_cond rfl (fun c3 => ?_) (fun c3 => ?_)
  · replace h := Md.cond_t h c3
    refine aw_seq ?_
    refine aw_region ?_
    refine aops_step1 rfl (st_assign rfl rfl) ?_
    refine aops_nil ?_
    cases Option.some.inj h
    refine aw_ret ⟨rfl, ret_v (.inl ⟨_, rfl, rfl, fun _ e => nomatch e⟩) rfl rfl rfl ?_⟩
    (repeat' (first | exact TLe.refl _ | exact VLe.refl _ | exact CLe.refl _ | exact All2.nil | refine TLe.tup ?_ | refine TLe.v ?_ | refine All2.cons ?_ ?_ | refine VLe.agg ?_ | refine VLe.one ?_ | exact CLe.nil _ | exact CLe.emp _ | refine CLe.val ?_ | refine CLe.slc ?_ ?_))
  replace h := Md.cond_f h c3
  refine aw_skip ?_
  obtain ⟨o4, j4, h⟩ := Md.bind_s h
  refine aw_cut (ε := Unit) (fun x => (⟨225, [], [(0, .one (CV.ls byC a0)), (1, .one (.val (.int .u8 (a1.toNat : Int))))], []⟩ : ASt)) (fun x => Sum.inl x = o4) ?_ ?_
  · intro x4_0 hI4
    subst hI4
    replace h := Md.onS_l h
    change AW _ _ (⟨225, [], [(0, .one (CV.ls byC a0)), (1, .one (.val (.int .u8 (a1.toNat : Int))))], []⟩ : ASt) _
    obtain ⟨o5, j5, h⟩ := Md.bind_s h
    refine aw_cut (ε := Unit) (fun x => (⟨225, [], [(0, .one (CV.ls byC a0)), (1, .one (.val (.int .u8 (a1.toNat : Int))))], []⟩ : ASt)) (fun x => Sum.inl x = o5) ?_ ?_
    · intro x5_0 hI5
      subst hI5
      replace h := Md.onS_l h
      change AW _ _ (⟨225, [], [(0, .one (CV.ls byC a0)), (1, .one (.val (.int .u8 (a1.toNat : Int))))], []⟩ : ASt) _
      obtain ⟨o6, j6, h⟩ := Md.bind_s h
      refine aw_cut (ε := Unit) (fun x => (⟨225, [], [(0, .one (CV.ls byC a0)), (1, .one (.val (.int .u8 (a1.toNat : Int))))], []⟩ : ASt)) (fun x => Sum.inl x = o6) ?_ ?_
      · intro x6_0 hI6
        subst hI6
        replace h := Md.onS_l h
        change AW _ _ (⟨225, [], [(0, .one (CV.ls byC a0)), (1, .one (.val (.int .u8 (a1.toNat : Int))))], []⟩ : ASt) _
        obtain ⟨o7, j7, h⟩ := Md.bind_s h
        refine aw_cut (ε := Unit) (fun x => (⟨225, [], [(0, .one (CV.ls byC a0))], []⟩ : ASt)) (fun x => Sum.inl x = o7) ?_ ?_
        · intro x7_0 hI7
          subst hI7
          replace h := Md.onS_l h
          change AW _ _ (⟨225, [], [(0, .one (CV.ls byC a0))], []⟩ : ASt) _
          obtain ⟨o8, j8, h⟩ := Md.bind_s h
          refine aw_cut (ε := Unit) (fun x => (⟨225, [], [(0, .one (CV.ls byC a0))], []⟩ : ASt)) (fun x => Sum.inl x = o8) ?_ ?_
          · intro x8_0 hI8
            subst hI8
            replace h := Md.onS_l h
            change AW _ _ (⟨225, [], [(0, .one (CV.ls byC a0))], []⟩ : ASt) _
            refine aw_seq ?_
            refine aw_seq ?_
            refine aw_region ?_
            refine aops_step1 rfl (st_move rfl rfl) ?_
            obtain ⟨x9, hx9, h⟩ := Md.bind_s h
            refine aops_step1 rfl (ev_call_v (wire_Open_fn k a0 x9 hx9) rfl [] (by repeat' (first | exact All2.nil | refine All2.cons ?_ ?_ | refine ArgV.one ?_ | refine ArgV.agg ?_ | exact ArgC.mk rfl | exact ArgC.lend rfl (by simp) | exact ArgC.le (CLe.nil _) rfl | exact ArgC.le (CLe.emp _) rfl | exact ArgC.le (CLe.any _) rfl)) rfl rfl rfl (.inl rfl) rfl) ?_
            refine aops_step1 rfl (st_movet rfl rfl) ?_
            refine aops_step1 rfl (ev_extract rfl rfl rfl) ?_
            refine aops_step1 rfl (ev_extract rfl rfl rfl) ?_
            refine aops_step1 rfl (ev_extract rfl rfl rfl) ?_
            refine aops_step1 rfl (ev_extract rfl rfl rfl) ?_
            refine aops_step1 rfl (st_assign rfl rfl) ?_
            refine aops_step1 rfl (st_assign rfl rfl) ?_
            refine aops_step1 rfl (st_assign rfl rfl) ?_
            refine aops_step1 rfl (st_assign rfl rfl) ?_
            refine aops_nil ?_
            refine aw_seq ?_
            refine aw_region ?_
            refine aops_step1 rfl (st_move rfl rfl) ?_
            refine aops_step1 rfl (ev_cmp rfl rfl rfl rfl) ?_
            refine aops_nil ?_
            refine aw_cond rfl (fun c10 => ?_) (fun c10 => ?_)
            · replace h := Md.cond_t h c10
              refine aw_seq ?_
              refine aw_region ?_
              refine aops_step1 rfl (st_move rfl rfl) ?_
              refine aops_step1 rfl (st_move rfl rfl) ?_
              obtain ⟨x11, hx11, h⟩ := Md.bind_s h
              refine aops_step1 rfl (ev_call_v (wire_Seal_fn k x9.1 x9.2.1 x11 hx11) rfl [] (by repeat' (first | exact All2.nil | refine All2.cons ?_ ?_ | refine ArgV.one ?_ | refine ArgV.agg ?_ | exact ArgC.mk rfl | exact ArgC.lend rfl (by simp) | exact ArgC.le (CLe.nil _) rfl | exact ArgC.le (CLe.emp _) rfl | exact ArgC.le (CLe.any _) rfl)) rfl rfl rfl (.inl rfl) rfl) ?_
              refine aops_step1 rfl (st_movet rfl rfl) ?_
              refine aops_step1 rfl (ev_extract rfl rfl rfl) ?_
              refine aops_step1 rfl (ev_extract rfl rfl rfl) ?_
              refine aops_step1 rfl (st_assign rfl rfl) ?_
              refine aops_step1 rfl (st_assign rfl rfl) ?_
              refine aops_nil ?_
              refine aw_seq ?_
              refine aw_region ?_
              refine aops_step1 rfl (st_move rfl rfl) ?_
              refine aops_step1 rfl (ev_cmp rfl rfl rfl rfl) ?_
              refine aops_step1 rfl (st_move rfl rfl) ?_
              refine aops_mid 5 (⟨225, [], [(0, .one (CV.ls byC a0)), (22, .one (.val (.int .i64 x9.2.2.1))), (24, .one (CV.ls byC x11.1)), (211, .one (.val (.bool ((x11.2 == 0) && (x9.2.2.1 == ((x11.1.length : Nat) : Int))))))], []⟩ : ASt) ?_ ?_
              · rcases Md.bool_or ((x11.2 == 0)) with q12 | q12
                · skip
                  refine aops_yes rfl rfl rfl rfl q12 (st_move rfl rfl) ?_
                  refine aops_yes rfl rfl rfl rfl q12 (st_move rfl rfl) ?_
                  refine aops_yes rfl rfl rfl rfl q12 (ev_len_slc rfl rfl) ?_
                  refine aops_yes rfl rfl rfl rfl q12 (ev_cmp rfl rfl rfl rfl) ?_
                  refine aops_step1 rfl (st_pick_yes rfl (by first | rfl | exact q12) rfl rfl) ?_
                  refine aops_nil ?_
                  show Weak _ _
                  (refine weak_mk rfl rfl ?_ ?_ rfl <;> repeat' (first | exact trivial | refine ⟨?_, ?_⟩ | exact VLe.refl _ | exact BLe.refl _ | refine VLe.one (CLe.val ?_) | exact VLe.one (CLe.nil _) | exact VLe.one (CLe.emp _))) <;> (first | (rw [q12]; done) | (rw [q12]; rfl) | (simp [q12]; done))
                refine aops_no rfl rfl rfl rfl rfl (by first | decide | (rw [q12]; decide)) ?_
                refine aops_no rfl rfl rfl rfl rfl (by first | decide | (rw [q12]; decide)) ?_
                refine aops_no rfl rfl rfl rfl rfl (by first | decide | (rw [q12]; decide)) ?_
                refine aops_no rfl rfl rfl rfl rfl (by first | decide | (rw [q12]; decide)) ?_
                refine aops_step1 rfl (st_pick_no rfl (by first | rfl | exact q12) rfl rfl) ?_
                refine aops_nil ?_
                show Weak _ _
                (refine weak_mk rfl rfl ?_ ?_ rfl <;> repeat' (first | exact trivial | refine ⟨?_, ?_⟩ | exact VLe.refl _ | exact BLe.refl _ | refine VLe.one (CLe.val ?_) | exact VLe.one (CLe.nil _) | exact VLe.one (CLe.emp _))) <;> (first | (rw [q12]; done) | (rw [q12]; rfl) | (simp [q12]; done))
              change AOps _ _ _ (⟨225, [], [(0, .one (CV.ls byC a0)), (22, .one (.val (.int .i64 x9.2.2.1))), (24, .one (CV.ls byC x11.1)), (211, .one (.val (.bool ((x11.2 == 0) && (x9.2.2.1 == ((x11.1.length : Nat) : Int))))))], []⟩ : ASt) _
              refine aops_step1 rfl (st_move rfl rfl) ?_
              refine aops_mid 5 (⟨225, [], [(0, .one (CV.ls byC a0)), (22, .one (.val (.int .i64 x9.2.2.1))), (24, .one (CV.ls byC x11.1)), (217, .one (.val (.bool (((x11.2 == 0) && (x9.2.2.1 == ((x11.1.length : Nat) : Int))) && (decide (x9.2.2.1 ≤ ((a0.length : Nat) : Int)))))))], []⟩ : ASt) ?_ ?_
              · rcases Md.bool_or (((x11.2 == 0) && (x9.2.2.1 == ((x11.1.length : Nat) : Int)))) with q13 | q13
                · skip
                  refine aops_yes rfl rfl rfl rfl q13 (st_move rfl rfl) ?_
                  refine aops_yes rfl rfl rfl rfl q13 (st_move rfl rfl) ?_
                  refine aops_yes rfl rfl rfl rfl q13 (ev_len_slc rfl rfl) ?_
                  refine aops_yes rfl rfl rfl rfl q13 (ev_cmp rfl rfl rfl rfl) ?_
                  refine aops_step1 rfl (st_pick_yes rfl (by first | rfl | exact q13) rfl rfl) ?_
                  refine aops_nil ?_
                  show Weak _ _
                  (refine weak_mk rfl rfl ?_ ?_ rfl <;> repeat' (first | exact trivial | refine ⟨?_, ?_⟩ | exact VLe.refl _ | exact BLe.refl _ | refine VLe.one (CLe.val ?_) | exact VLe.one (CLe.nil _) | exact VLe.one (CLe.emp _))) <;> (first | (rw [q13]; done) | (rw [q13]; rfl) | (simp [q13]; done))
                refine aops_no rfl rfl rfl rfl rfl (by first | decide | (rw [q13]; decide)) ?_
                refine aops_no rfl rfl rfl rfl rfl (by first | decide | (rw [q13]; decide)) ?_
                refine aops_no rfl rfl rfl rfl rfl (by first | decide | (rw [q13]; decide)) ?_
                refine aops_no rfl rfl rfl rfl rfl (by first | decide | (rw [q13]; decide)) ?_
                refine aops_step1 rfl (st_pick_no rfl (by first | rfl | exact q13) rfl rfl) ?_
                refine aops_nil ?_
                show Weak _ _
                (refine weak_mk rfl rfl ?_ ?_ rfl <;> repeat' (first | exact trivial | refine ⟨?_, ?_⟩ | exact VLe.refl _ | exact BLe.refl _ | refine VLe.one (CLe.val ?_) | exact VLe.one (CLe.nil _) | exact VLe.one (CLe.emp _))) <;> (first | (rw [q13]; done) | (rw [q13]; rfl) | (simp [q13]; done))
              change AOps _ _ _ (⟨225, [], [(0, .one (CV.ls byC a0)), (22, .one (.val (.int .i64 x9.2.2.1))), (24, .one (CV.ls byC x11.1)), (217, .one (.val (.bool (((x11.2 == 0) && (x9.2.2.1 == ((x11.1.length : Nat) : Int))) && (decide (x9.2.2.1 ≤ ((a0.length : Nat) : Int)))))))], []⟩ : ASt) _
              refine aops_step1 rfl (st_move rfl rfl) ?_
              obtain ⟨o14, j14, h⟩ := Md.bind_s h
              refine aops_cut 6 (ε := Bool) (fun x14 => (⟨225, [], [(224, .one (.val (.bool x14)))], []⟩ : ASt)) (fun x14 => x14 = o14) ?_ ?_
              · intro x14 hI14
                subst hI14
                change AOps _ _ _ (⟨225, [], [(224, .one (.val (.bool x14)))], []⟩ : ASt) _
                refine aops_step1 rfl (st_assign rfl rfl) ?_
                refine aops_nil ?_
                cases Option.some.inj h
                refine aw_ret ⟨rfl, ret_v (.inl ⟨_, rfl, rfl, fun _ e => nomatch e⟩) rfl rfl rfl ?_⟩
                (repeat' (first | exact TLe.refl _ | exact VLe.refl _ | exact CLe.refl _ | exact All2.nil | refine TLe.tup ?_ | refine TLe.v ?_ | refine All2.cons ?_ ?_ | refine VLe.agg ?_ | refine VLe.one ?_ | exact CLe.nil _ | exact CLe.emp _ | refine CLe.val ?_ | refine CLe.slc ?_ ?_))
              rcases Md.bool_or ((((x11.2 == 0) && (x9.2.2.1 == ((x11.1.length : Nat) : Int))) && (decide (x9.2.2.1 ≤ ((a0.length : Nat) : Int))))) with q14 | q14
              · replace j14 := Md.cond_t j14 q14
                refine aops_yes rfl rfl rfl rfl q14 (st_move rfl rfl) ?_
                refine aops_yes rfl rfl rfl rfl q14 (st_move rfl rfl) ?_
                obtain ⟨g15, j14⟩ := Md.ifp_s j14
                obtain ⟨g16, j14⟩ := Md.ifp_s j14
                refine aops_yes rfl rfl rfl rfl q14 (st_cut_hi (f := byC) (fun _ => rfl) rfl ⟨_, _, rfl, (Md.nn_eq g15)⟩ g16 rfl) ?_
                refine aops_yes rfl rfl rfl rfl q14 (st_move rfl rfl) ?_
                obtain ⟨x17, hx17, j14⟩ := Md.bind_s j14
                refine aops_yes rfl rfl rfl rfl q14 (ev_call_v (actorgridlaw1_same_fn k (a0.take ((x9.2.2.1).toNat)) x11.1 x17 hx17) rfl [] (by repeat' (first | exact All2.nil | refine All2.cons ?_ ?_ | refine ArgV.one ?_ | refine ArgV.agg ?_ | exact ArgC.mk rfl | exact ArgC.lend rfl (by simp) | exact ArgC.le (CLe.nil _) rfl | exact ArgC.le (CLe.emp _) rfl | exact ArgC.le (CLe.any _) rfl)) rfl rfl rfl (.inl rfl) rfl) ?_
                refine aops_step1 rfl (st_pick_yes rfl (by first | rfl | exact q14) rfl rfl) ?_
                refine aops_nil ?_
                show ∃ _x : Bool, _ = _ ∧ Weak _ _
                exact ⟨x17, Option.some.inj j14, (by (refine weak_mk rfl rfl ?_ ?_ rfl <;> repeat' (first | exact trivial | refine ⟨?_, ?_⟩ | exact VLe.refl _ | exact BLe.refl _ | refine VLe.one (CLe.val ?_) | exact VLe.one (CLe.nil _) | exact VLe.one (CLe.emp _))))⟩
              replace j14 := Md.cond_f j14 q14
              refine aops_no rfl rfl rfl rfl rfl (by first | decide | (rw [q14]; decide)) ?_
              refine aops_no rfl rfl rfl rfl rfl (by first | decide | (rw [q14]; decide)) ?_
              refine aops_no rfl rfl rfl rfl rfl (by first | decide | (rw [q14]; decide)) ?_
              refine aops_no rfl rfl rfl rfl rfl (by first | decide | (rw [q14]; decide)) ?_
              refine aops_no rfl rfl rfl rfl rfl (by first | decide | (rw [q14]; decide)) ?_
              refine aops_step1 rfl (st_pick_no rfl (by first | rfl | exact q14) rfl rfl) ?_
              refine aops_nil ?_
              show ∃ _x : Bool, _ = _ ∧ Weak _ _
              exact ⟨false, Option.some.inj j14, (by (refine weak_mk rfl rfl ?_ ?_ rfl <;> repeat' (first | exact trivial | refine ⟨?_, ?_⟩ | exact VLe.refl _ | exact BLe.refl _ | refine VLe.one (CLe.val ?_) | exact VLe.one (CLe.nil _) | exact VLe.one (CLe.emp _))))⟩
            replace h := Md.cond_f h c10
            refine aw_skip ?_
            refine aw_seq ?_
            refine aw_region ?_
            refine aops_step1 rfl (st_assign rfl rfl) ?_
            refine aops_nil ?_
            cases Option.some.inj h
            refine aw_ret ⟨rfl, ret_v (.inl ⟨_, rfl, rfl, fun _ e => nomatch e⟩) rfl rfl rfl ?_⟩
            (repeat' (first | exact TLe.refl _ | exact VLe.refl _ | exact CLe.refl _ | exact All2.nil | refine TLe.tup ?_ | refine TLe.v ?_ | refine All2.cons ?_ ?_ | refine VLe.agg ?_ | refine VLe.one ?_ | exact CLe.nil _ | exact CLe.emp _ | refine CLe.val ?_ | refine CLe.slc ?_ ?_))
          refine aw_seq ?_
          refine aw_region ?_
          refine aops_step1 rfl (st_move rfl rfl) ?_
          obtain ⟨x18, hx18, j8⟩ := Md.bind_s j8
          refine aops_step1 rfl (ev_call_v (wire_Value_fn k a0 x18 hx18) rfl [] (by repeat' (first | exact All2.nil | refine All2.cons ?_ ?_ | refine ArgV.one ?_ | refine ArgV.agg ?_ | exact ArgC.mk rfl | exact ArgC.lend rfl (by simp) | exact ArgC.le (CLe.nil _) rfl | exact ArgC.le (CLe.emp _) rfl | exact ArgC.le (CLe.any _) rfl)) rfl rfl rfl (.inl rfl) rfl) ?_
          refine aops_step1 rfl (st_movet rfl rfl) ?_
          refine aops_step1 rfl (ev_extract rfl rfl rfl) ?_
          refine aops_step1 rfl (ev_extract rfl rfl rfl) ?_
          refine aops_step1 rfl (ev_extract rfl rfl rfl) ?_
          refine aops_step1 rfl (st_alloc (cs := [.val (.int .i64 0), .val (.int .i64 0), .val (Sv []), .val (.slice none 0 0), .val (.slice none 0 0)]) 0 rfl rfl rfl rfl rfl) ?_
          refine aops_step1 rfl (st_store (cs' := [_, _, _, _, _]) rfl rfl rfl rfl rfl rfl rfl rfl rfl) ?_
          refine aops_step1 rfl (st_assign rfl rfl) ?_
          refine aops_step1 rfl (st_assign rfl rfl) ?_
          refine aops_nil ?_
          rcases Md.bool_or ((x18.2.2 == 0)) with q19 | q19
          · replace j8 := Md.cond_t j8 q19
            rcases Md.bool_or ((decide (x18.2.1 < 1))) with q20 | q20
            · replace j8 := Md.cond_t j8 q20
              refine aw_seq ?_
              apply aw_draw 22 ((⟨[], .one (.val (.int .i64 x18.2.2))⟩ : Add) :: ⟨[], .one (.val (.bool (x18.2.2 == 0)))⟩ :: ⟨[], .one (.val (.bool (x18.2.2 == 0)))⟩ :: ⟨[], .one (.val (.int .i64 x18.2.1))⟩ :: ⟨[], .one (.val (.bool (decide (x18.2.1 < 1))))⟩ :: ⟨[], .one (.val (.bool (decide (x18.2.1 < 1))))⟩ :: ⟨[], .tup []⟩ :: ⟨[], .tup []⟩ :: ⟨[], .tup []⟩ :: ⟨[], .tup []⟩ :: ⟨[], .one (.val (.bool true))⟩ :: ⟨[], .one (.val (.bool true))⟩ :: ⟨[], .tup []⟩ :: ⟨[], .tup []⟩ :: ⟨[], .tup []⟩ :: ⟨[], .one (.val (.bool true))⟩ :: ⟨[], .one (.val (.bool true))⟩ :: ⟨[], .tup []⟩ :: ⟨[], .tup []⟩ :: ⟨[], .tup []⟩ :: ⟨[], .tup []⟩ :: ⟨[], .tup []⟩ :: []) (by decide) rfl ?hk24x ?hf24x ?ho24x ?hr24x
              case ho24x =>
               refine ⟨⟨[], (by decide +kernel), fun S hle hfr => ?_⟩, ?_⟩
               · exact .inl ⟨.inl ⟨rfl, rfl⟩, st_move (hle.ev rfl (by nofun)) (hle.d rfl)⟩
               refine ⟨⟨0 :: [], (by decide +kernel), fun S hle hfr => ?_⟩, ?_⟩
               · exact .inl ⟨.inl ⟨rfl, rfl⟩, ev_cmp (hle.ev rfl (by nofun)) (hle.ev rfl (by nofun)) (hle.d rfl) rfl⟩
               refine ⟨⟨1 :: 0 :: [], (by decide +kernel), fun S hle hfr => ?_⟩, ?_⟩
               · exact .inl ⟨.inl ⟨rfl, rfl⟩, st_move (hle.ev rfl (by nofun)) (hle.d rfl)⟩
               refine ⟨⟨2 :: 1 :: 0 :: [], (by decide +kernel), fun S hle hfr => ?_⟩, ?_⟩
               · exact .inl ⟨.inr (.inl ⟨_, _, _, _, rfl, rfl, (hle.ev (x := .tmp _) rfl (by nofun)), (by rw [hle.nt]; rfl), (by first | rfl | (rw [q19]; rfl))⟩), st_move (hle.ev rfl (by nofun)) (hle.d rfl)⟩
               refine ⟨⟨3 :: 2 :: 1 :: 0 :: [], (by decide +kernel), fun S hle hfr => ?_⟩, ?_⟩
               · exact .inl ⟨.inr (.inl ⟨_, _, _, _, rfl, rfl, (hle.ev (x := .tmp _) rfl (by nofun)), (by rw [hle.nt]; rfl), (by first | rfl | (rw [q19]; rfl))⟩), ev_cmp (hle.ev rfl (by nofun)) (hle.ev rfl (by nofun)) (hle.d rfl) rfl⟩
               refine ⟨⟨4 :: 2 :: 3 :: 1 :: 0 :: [], (by decide +kernel), fun S hle hfr => ?_⟩, ?_⟩
               · exact .inl ⟨.inr (.inl ⟨_, _, _, _, rfl, rfl, (hle.ev (x := .tmp _) rfl (by nofun)), (by rw [hle.nt]; rfl), (by first | rfl | (rw [q19]; rfl))⟩), st_move (hle.ev rfl (by nofun)) (hle.d rfl)⟩
               refine ⟨⟨5 :: 4 :: 2 :: 3 :: 1 :: 0 :: [], (by decide +kernel), fun S hle hfr => ?_⟩, ?_⟩
               · exact .inr ⟨.inr (.inl ⟨_, _, _, _, rfl, rfl, (hle.ev (x := .tmp _) rfl (by nofun)), (by rw [hle.nt]; rfl), (by first | rfl | (rw [q20]; rfl))⟩), rfl, hle.d rfl⟩
               refine ⟨⟨5 :: 4 :: 2 :: 3 :: 1 :: 0 :: [], (by decide +kernel), fun S hle hfr => ?_⟩, ?_⟩
               · exact .inr ⟨.inr (.inl ⟨_, _, _, _, rfl, rfl, (hle.ev (x := .tmp _) rfl (by nofun)), (by rw [hle.nt]; rfl), (by first | rfl | (rw [q20]; rfl))⟩), rfl, hle.d rfl⟩
               refine ⟨⟨7 :: 5 :: 4 :: 2 :: 3 :: 1 :: 0 :: [], (by decide +kernel), fun S hle hfr => ?_⟩, ?_⟩
               · exact .inr ⟨.inr (.inl ⟨_, _, _, _, rfl, rfl, (hle.ev (x := .tmp _) rfl (by nofun)), (by rw [hle.nt]; rfl), (by first | rfl | (rw [q20]; rfl))⟩), rfl, hle.d rfl⟩
               refine ⟨⟨6 :: 8 :: 5 :: 7 :: 4 :: 2 :: 3 :: 1 :: 0 :: [], (by decide +kernel), fun S hle hfr => ?_⟩, ?_⟩
               · exact .inr ⟨.inr (.inl ⟨_, _, _, _, rfl, rfl, (hle.ev (x := .tmp _) rfl (by nofun)), (by rw [hle.nt]; rfl), (by first | rfl | (rw [q20]; rfl))⟩), rfl, hle.d rfl⟩
               refine ⟨⟨5 :: 9 :: 2 :: 4 :: 6 :: 8 :: 1 :: 3 :: 7 :: 0 :: [], (by decide +kernel), fun S hle hfr => ?_⟩, ?_⟩
               · exact .inl ⟨.inr (.inl ⟨_, _, _, _, rfl, rfl, (hle.ev (x := .tmp _) rfl (by nofun)), (by rw [hle.nt]; rfl), (by first | rfl | (rw [q19]; rfl))⟩), st_pick_yes (hle.ev rfl (by nofun)) (by first | rfl | exact q20) (hle.ev rfl (by nofun)) (hle.d rfl)⟩
               refine ⟨⟨10 :: 5 :: 2 :: 9 :: 4 :: 1 :: 6 :: 8 :: 3 :: 0 :: 7 :: [], (by decide +kernel), fun S hle hfr => ?_⟩, ?_⟩
               · exact .inl ⟨.inr (.inl ⟨_, _, _, _, rfl, rfl, (hle.ev (x := .tmp _) rfl (by nofun)), (by rw [hle.nt]; rfl), (by first | rfl | (rw [q19]; rfl))⟩), st_move (hle.ev rfl (by nofun)) (hle.d rfl)⟩
               refine ⟨⟨11 :: 10 :: 5 :: 2 :: 9 :: 4 :: 1 :: 6 :: 8 :: 3 :: 0 :: 7 :: [], (by decide +kernel), fun S hle hfr => ?_⟩, ?_⟩
               · exact .inr ⟨.inr (.inl ⟨_, _, _, _, rfl, rfl, (hle.ev (x := .tmp _) rfl (by nofun)), (by rw [hle.nt]; rfl), (by first | rfl | (rw [rfl]; rfl))⟩), rfl, hle.d rfl⟩
               refine ⟨⟨12 :: 11 :: 10 :: 5 :: 2 :: 9 :: 4 :: 1 :: 6 :: 8 :: 3 :: 0 :: 7 :: [], (by decide +kernel), fun S hle hfr => ?_⟩, ?_⟩
               · exact .inr ⟨.inr (.inl ⟨_, _, _, _, rfl, rfl, (hle.ev (x := .tmp _) rfl (by nofun)), (by rw [hle.nt]; rfl), (by first | rfl | (rw [rfl]; rfl))⟩), rfl, hle.d rfl⟩
               refine ⟨⟨13 :: 11 :: 12 :: 10 :: 5 :: 2 :: 9 :: 4 :: 1 :: 6 :: 8 :: 3 :: 0 :: 7 :: [], (by decide +kernel), fun S hle hfr => ?_⟩, ?_⟩
               · exact .inr ⟨.inr (.inl ⟨_, _, _, _, rfl, rfl, (hle.ev (x := .tmp _) rfl (by nofun)), (by rw [hle.nt]; rfl), (by first | rfl | (rw [rfl]; rfl))⟩), rfl, hle.d rfl⟩
               refine ⟨⟨11 :: 14 :: 2 :: 10 :: 5 :: 13 :: 1 :: 9 :: 4 :: 12 :: 0 :: 6 :: 8 :: 3 :: 7 :: [], (by decide +kernel), fun S hle hfr => ?_⟩, ?_⟩
               · exact .inl ⟨.inr (.inl ⟨_, _, _, _, rfl, rfl, (hle.ev (x := .tmp _) rfl (by nofun)), (by rw [hle.nt]; rfl), (by first | rfl | (rw [q19]; rfl))⟩), st_pick_yes (hle.ev rfl (by nofun)) (by first | rfl | exact rfl) (hle.ev rfl (by nofun)) (hle.d rfl)⟩
               refine ⟨⟨15 :: 13 :: 2 :: 11 :: 14 :: 12 :: 1 :: 10 :: 5 :: 0 :: 9 :: 4 :: 6 :: 8 :: 3 :: 7 :: [], (by decide +kernel), fun S hle hfr => ?_⟩, ?_⟩
               · exact .inl ⟨.inr (.inl ⟨_, _, _, _, rfl, rfl, (hle.ev (x := .tmp _) rfl (by nofun)), (by rw [hle.nt]; rfl), (by first | rfl | (rw [q19]; rfl))⟩), st_move (hle.ev rfl (by nofun)) (hle.d rfl)⟩
               refine ⟨⟨16 :: 15 :: 13 :: 2 :: 11 :: 14 :: 12 :: 1 :: 10 :: 5 :: 0 :: 9 :: 4 :: 6 :: 8 :: 3 :: 7 :: [], (by decide +kernel), fun S hle hfr => ?_⟩, ?_⟩
               · exact .inr ⟨.inr (.inl ⟨_, _, _, _, rfl, rfl, (hle.ev (x := .tmp _) rfl (by nofun)), (by rw [hle.nt]; rfl), (by first | rfl | (rw [rfl]; rfl))⟩), rfl, hle.d rfl⟩
               refine ⟨⟨16 :: 15 :: 13 :: 2 :: 11 :: 14 :: 12 :: 1 :: 10 :: 5 :: 0 :: 9 :: 4 :: 6 :: 8 :: 3 :: 7 :: [], (by decide +kernel), fun S hle hfr => ?_⟩, ?_⟩
               · exact .inr ⟨.inr (.inl ⟨_, _, _, _, rfl, rfl, (hle.ev (x := .tmp _) rfl (by nofun)), (by rw [hle.nt]; rfl), (by first | rfl | (rw [rfl]; rfl))⟩), rfl, hle.d rfl⟩
               refine ⟨⟨17 :: 18 :: 16 :: 15 :: 13 :: 2 :: 11 :: 14 :: 12 :: 1 :: 10 :: 5 :: 0 :: 9 :: 4 :: 6 :: 8 :: 3 :: 7 :: [], (by decide +kernel), fun S hle hfr => ?_⟩, ?_⟩
               · exact .inr ⟨.inr (.inl ⟨_, _, _, _, rfl, rfl, (hle.ev (x := .tmp _) rfl (by nofun)), (by rw [hle.nt]; rfl), (by first | rfl | (rw [rfl]; rfl))⟩), rfl, hle.d rfl⟩
               refine ⟨⟨16 :: 15 :: 13 :: 2 :: 11 :: 14 :: 12 :: 1 :: 10 :: 5 :: 0 :: 9 :: 4 :: 6 :: 8 :: 3 :: 7 :: [], (by decide +kernel), fun S hle hfr => ?_⟩, ?_⟩
               · exact .inr ⟨.inr (.inl ⟨_, _, _, _, rfl, rfl, (hle.ev (x := .tmp _) rfl (by nofun)), (by rw [hle.nt]; rfl), (by first | rfl | (rw [rfl]; rfl))⟩), rfl, hle.d rfl⟩
               refine ⟨⟨20 :: 16 :: 15 :: 13 :: 2 :: 11 :: 14 :: 12 :: 1 :: 10 :: 5 :: 0 :: 9 :: 4 :: 6 :: 8 :: 3 :: 7 :: [], (by decide +kernel), fun S hle hfr => ?_⟩, ?_⟩
               · exact .inr ⟨.inr (.inl ⟨_, _, _, _, rfl, rfl, (hle.ev (x := .tmp _) rfl (by nofun)), (by rw [hle.nt]; rfl), (by first | rfl | (rw [rfl]; rfl))⟩), rfl, hle.d rfl⟩
               exact trivial
              case hk24x => rfl
              case hf24x => rfl
              refine aops_no rfl rfl rfl rfl rfl (by decide) ?_
              refine aops_no rfl rfl rfl rfl rfl (by decide) ?_
              refine aops_yes rfl rfl rfl rfl q19 (st_pick_yes rfl (by first | rfl | exact rfl) rfl rfl) ?_
              refine aops_step1 rfl (st_pick_yes rfl (by first | rfl | exact q19) rfl rfl) ?_
              refine aops_nil ?_
              refine aw_yes rfl (rfl) ?_
              refine aw_seq ?_
              refine aw_region ?_
              refine aops_step1 rfl (st_assign rfl rfl) ?_
              refine aops_nil ?_
              cases Option.some.inj j8
              replace h := Md.onS_r h
              cases Option.some.inj h
              refine aw_ret ⟨rfl, ret_v (.inl ⟨_, rfl, rfl, fun _ e => nomatch e⟩) rfl rfl rfl ?_⟩
              (repeat' (first | exact TLe.refl _ | exact VLe.refl _ | exact CLe.refl _ | exact All2.nil | refine TLe.tup ?_ | refine TLe.v ?_ | refine All2.cons ?_ ?_ | refine VLe.agg ?_ | refine VLe.one ?_ | exact CLe.nil _ | exact CLe.emp _ | refine CLe.val ?_ | refine CLe.slc ?_ ?_))
            replace j8 := Md.cond_f j8 q20
            rcases Md.bool_or ((decide (x18.2.1 > ((a0.length : Nat) : Int)))) with q21 | q21
            · replace j8 := Md.cond_t j8 q21
              refine aw_seq ?_
              apply aw_draw 22 ((⟨[], .one (.val (.int .i64 x18.2.2))⟩ : Add) :: ⟨[], .one (.val (.bool (x18.2.2 == 0)))⟩ :: ⟨[], .one (.val (.bool (x18.2.2 == 0)))⟩ :: ⟨[], .one (.val (.int .i64 x18.2.1))⟩ :: ⟨[], .one (.val (.bool (decide (x18.2.1 < 1))))⟩ :: ⟨[], .one (.val (.bool (decide (x18.2.1 < 1))))⟩ :: ⟨[], .one (.val (.int .i64 x18.2.1))⟩ :: ⟨[], .one (CV.ls byC a0)⟩ :: ⟨[], .one (.val (.int .i64 ((a0.length : Nat) : Int)))⟩ :: ⟨[], .one (.val (.bool (decide (x18.2.1 > ((a0.length : Nat) : Int)))))⟩ :: ⟨[], .one (.val (.bool (decide (x18.2.1 > ((a0.length : Nat) : Int)))))⟩ :: ⟨[], .one (.val (.bool (decide (x18.2.1 > ((a0.length : Nat) : Int)))))⟩ :: ⟨[], .tup []⟩ :: ⟨[], .tup []⟩ :: ⟨[], .tup []⟩ :: ⟨[], .one (.val (.bool true))⟩ :: ⟨[], .one (.val (.bool true))⟩ :: ⟨[], .tup []⟩ :: ⟨[], .tup []⟩ :: ⟨[], .tup []⟩ :: ⟨[], .tup []⟩ :: ⟨[], .tup []⟩ :: []) (by decide) rfl ?hk25x ?hf25x ?ho25x ?hr25x
              case ho25x =>
               refine ⟨⟨[], (by decide +kernel), fun S hle hfr => ?_⟩, ?_⟩
               · exact .inl ⟨.inl ⟨rfl, rfl⟩, st_move (hle.ev rfl (by nofun)) (hle.d rfl)⟩
               refine ⟨⟨0 :: [], (by decide +kernel), fun S hle hfr => ?_⟩, ?_⟩
               · exact .inl ⟨.inl ⟨rfl, rfl⟩, ev_cmp (hle.ev rfl (by nofun)) (hle.ev rfl (by nofun)) (hle.d rfl) rfl⟩
               refine ⟨⟨1 :: 0 :: [], (by decide +kernel), fun S hle hfr => ?_⟩, ?_⟩
               · exact .inl ⟨.inl ⟨rfl, rfl⟩, st_move (hle.ev rfl (by nofun)) (hle.d rfl)⟩
               refine ⟨⟨2 :: 1 :: 0 :: [], (by decide +kernel), fun S hle hfr => ?_⟩, ?_⟩
               · exact .inl ⟨.inr (.inl ⟨_, _, _, _, rfl, rfl, (hle.ev (x := .tmp _) rfl (by nofun)), (by rw [hle.nt]; rfl), (by first | rfl | (rw [q19]; rfl))⟩), st_move (hle.ev rfl (by nofun)) (hle.d rfl)⟩
               refine ⟨⟨3 :: 2 :: 1 :: 0 :: [], (by decide +kernel), fun S hle hfr => ?_⟩, ?_⟩
               · exact .inl ⟨.inr (.inl ⟨_, _, _, _, rfl, rfl, (hle.ev (x := .tmp _) rfl (by nofun)), (by rw [hle.nt]; rfl), (by first | rfl | (rw [q19]; rfl))⟩), ev_cmp (hle.ev rfl (by nofun)) (hle.ev rfl (by nofun)) (hle.d rfl) rfl⟩
               refine ⟨⟨4 :: 2 :: 3 :: 1 :: 0 :: [], (by decide +kernel), fun S hle hfr => ?_⟩, ?_⟩
               · exact .inl ⟨.inr (.inl ⟨_, _, _, _, rfl, rfl, (hle.ev (x := .tmp _) rfl (by nofun)), (by rw [hle.nt]; rfl), (by first | rfl | (rw [q19]; rfl))⟩), st_move (hle.ev rfl (by nofun)) (hle.d rfl)⟩
               refine ⟨⟨5 :: 4 :: 2 :: 3 :: 1 :: 0 :: [], (by decide +kernel), fun S hle hfr => ?_⟩, ?_⟩
               · exact .inl ⟨.inr (.inl ⟨_, _, _, _, rfl, rfl, (hle.ev (x := .tmp _) rfl (by nofun)), (by rw [hle.nt]; rfl), (by first | rfl | (rw [q20]; rfl))⟩), st_move (hle.ev rfl (by nofun)) (hle.d rfl)⟩
               refine ⟨⟨5 :: 4 :: 2 :: 3 :: 1 :: 0 :: [], (by decide +kernel), fun S hle hfr => ?_⟩, ?_⟩
               · exact .inl ⟨.inr (.inl ⟨_, _, _, _, rfl, rfl, (hle.ev (x := .tmp _) rfl (by nofun)), (by rw [hle.nt]; rfl), (by first | rfl | (rw [q20]; rfl))⟩), st_move (hle.ev rfl (by nofun)) (hle.d rfl)⟩
               refine ⟨⟨7 :: 5 :: 4 :: 2 :: 3 :: 1 :: 0 :: [], (by decide +kernel), fun S hle hfr => ?_⟩, ?_⟩
               · exact .inl ⟨.inr (.inl ⟨_, _, _, _, rfl, rfl, (hle.ev (x := .tmp _) rfl (by nofun)), (by rw [hle.nt]; rfl), (by first | rfl | (rw [q20]; rfl))⟩), ev_len_slc (hle.ev rfl (by nofun)) (hle.d rfl)⟩
               refine ⟨⟨6 :: 8 :: 5 :: 7 :: 4 :: 2 :: 3 :: 1 :: 0 :: [], (by decide +kernel), fun S hle hfr => ?_⟩, ?_⟩
               · exact .inl ⟨.inr (.inl ⟨_, _, _, _, rfl, rfl, (hle.ev (x := .tmp _) rfl (by nofun)), (by rw [hle.nt]; rfl), (by first | rfl | (rw [q20]; rfl))⟩), ev_cmp (hle.ev rfl (by nofun)) (hle.ev rfl (by nofun)) (hle.d rfl) rfl⟩
               refine ⟨⟨5 :: 9 :: 2 :: 4 :: 6 :: 8 :: 1 :: 3 :: 7 :: 0 :: [], (by decide +kernel), fun S hle hfr => ?_⟩, ?_⟩
               · exact .inl ⟨.inr (.inl ⟨_, _, _, _, rfl, rfl, (hle.ev (x := .tmp _) rfl (by nofun)), (by rw [hle.nt]; rfl), (by first | rfl | (rw [q19]; rfl))⟩), st_pick_no (hle.ev rfl (by nofun)) (by first | rfl | exact q20) (hle.ev rfl (by nofun)) (hle.d rfl)⟩
               refine ⟨⟨10 :: 5 :: 2 :: 9 :: 4 :: 1 :: 6 :: 8 :: 3 :: 0 :: 7 :: [], (by decide +kernel), fun S hle hfr => ?_⟩, ?_⟩
               · exact .inl ⟨.inr (.inl ⟨_, _, _, _, rfl, rfl, (hle.ev (x := .tmp _) rfl (by nofun)), (by rw [hle.nt]; rfl), (by first | rfl | (rw [q19]; rfl))⟩), st_move (hle.ev rfl (by nofun)) (hle.d rfl)⟩
               refine ⟨⟨11 :: 10 :: 5 :: 2 :: 9 :: 4 :: 1 :: 6 :: 8 :: 3 :: 0 :: 7 :: [], (by decide +kernel), fun S hle hfr => ?_⟩, ?_⟩
               · exact .inr ⟨.inr (.inl ⟨_, _, _, _, rfl, rfl, (hle.ev (x := .tmp _) rfl (by nofun)), (by rw [hle.nt]; rfl), (by first | rfl | (rw [q21]; rfl))⟩), rfl, hle.d rfl⟩
               refine ⟨⟨12 :: 11 :: 10 :: 5 :: 2 :: 9 :: 4 :: 1 :: 6 :: 8 :: 3 :: 0 :: 7 :: [], (by decide +kernel), fun S hle hfr => ?_⟩, ?_⟩
               · exact .inr ⟨.inr (.inl ⟨_, _, _, _, rfl, rfl, (hle.ev (x := .tmp _) rfl (by nofun)), (by rw [hle.nt]; rfl), (by first | rfl | (rw [q21]; rfl))⟩), rfl, hle.d rfl⟩
               refine ⟨⟨13 :: 11 :: 12 :: 10 :: 5 :: 2 :: 9 :: 4 :: 1 :: 6 :: 8 :: 3 :: 0 :: 7 :: [], (by decide +kernel), fun S hle hfr => ?_⟩, ?_⟩
               · exact .inr ⟨.inr (.inl ⟨_, _, _, _, rfl, rfl, (hle.ev (x := .tmp _) rfl (by nofun)), (by rw [hle.nt]; rfl), (by first | rfl | (rw [q21]; rfl))⟩), rfl, hle.d rfl⟩
               refine ⟨⟨11 :: 14 :: 2 :: 10 :: 5 :: 13 :: 1 :: 9 :: 4 :: 12 :: 0 :: 6 :: 8 :: 3 :: 7 :: [], (by decide +kernel), fun S hle hfr => ?_⟩, ?_⟩
               · exact .inl ⟨.inr (.inl ⟨_, _, _, _, rfl, rfl, (hle.ev (x := .tmp _) rfl (by nofun)), (by rw [hle.nt]; rfl), (by first | rfl | (rw [q19]; rfl))⟩), st_pick_yes (hle.ev rfl (by nofun)) (by first | rfl | exact q21) (hle.ev rfl (by nofun)) (hle.d rfl)⟩
               refine ⟨⟨15 :: 13 :: 2 :: 11 :: 14 :: 12 :: 1 :: 10 :: 5 :: 0 :: 9 :: 4 :: 6 :: 8 :: 3 :: 7 :: [], (by decide +kernel), fun S hle hfr => ?_⟩, ?_⟩
               · exact .inl ⟨.inr (.inl ⟨_, _, _, _, rfl, rfl, (hle.ev (x := .tmp _) rfl (by nofun)), (by rw [hle.nt]; rfl), (by first | rfl | (rw [q19]; rfl))⟩), st_move (hle.ev rfl (by nofun)) (hle.d rfl)⟩
               refine ⟨⟨16 :: 15 :: 13 :: 2 :: 11 :: 14 :: 12 :: 1 :: 10 :: 5 :: 0 :: 9 :: 4 :: 6 :: 8 :: 3 :: 7 :: [], (by decide +kernel), fun S hle hfr => ?_⟩, ?_⟩
               · exact .inr ⟨.inr (.inl ⟨_, _, _, _, rfl, rfl, (hle.ev (x := .tmp _) rfl (by nofun)), (by rw [hle.nt]; rfl), (by first | rfl | (rw [rfl]; rfl))⟩), rfl, hle.d rfl⟩
               refine ⟨⟨16 :: 15 :: 13 :: 2 :: 11 :: 14 :: 12 :: 1 :: 10 :: 5 :: 0 :: 9 :: 4 :: 6 :: 8 :: 3 :: 7 :: [], (by decide +kernel), fun S hle hfr => ?_⟩, ?_⟩
               · exact .inr ⟨.inr (.inl ⟨_, _, _, _, rfl, rfl, (hle.ev (x := .tmp _) rfl (by nofun)), (by rw [hle.nt]; rfl), (by first | rfl | (rw [rfl]; rfl))⟩), rfl, hle.d rfl⟩
               refine ⟨⟨17 :: 18 :: 16 :: 15 :: 13 :: 2 :: 11 :: 14 :: 12 :: 1 :: 10 :: 5 :: 0 :: 9 :: 4 :: 6 :: 8 :: 3 :: 7 :: [], (by decide +kernel), fun S hle hfr => ?_⟩, ?_⟩
               · exact .inr ⟨.inr (.inl ⟨_, _, _, _, rfl, rfl, (hle.ev (x := .tmp _) rfl (by nofun)), (by rw [hle.nt]; rfl), (by first | rfl | (rw [rfl]; rfl))⟩), rfl, hle.d rfl⟩
               refine ⟨⟨16 :: 15 :: 13 :: 2 :: 11 :: 14 :: 12 :: 1 :: 10 :: 5 :: 0 :: 9 :: 4 :: 6 :: 8 :: 3 :: 7 :: [], (by decide +kernel), fun S hle hfr => ?_⟩, ?_⟩
               · exact .inr ⟨.inr (.inl ⟨_, _, _, _, rfl, rfl, (hle.ev (x := .tmp _) rfl (by nofun)), (by rw [hle.nt]; rfl), (by first | rfl | (rw [rfl]; rfl))⟩), rfl, hle.d rfl⟩
               refine ⟨⟨20 :: 16 :: 15 :: 13 :: 2 :: 11 :: 14 :: 12 :: 1 :: 10 :: 5 :: 0 :: 9 :: 4 :: 6 :: 8 :: 3 :: 7 :: [], (by decide +kernel), fun S hle hfr => ?_⟩, ?_⟩
               · exact .inr ⟨.inr (.inl ⟨_, _, _, _, rfl, rfl, (hle.ev (x := .tmp _) rfl (by nofun)), (by rw [hle.nt]; rfl), (by first | rfl | (rw [rfl]; rfl))⟩), rfl, hle.d rfl⟩
               exact trivial
              case hk25x => rfl
              case hf25x => rfl
              refine aops_no rfl rfl rfl rfl rfl (by decide) ?_
              refine aops_no rfl rfl rfl rfl rfl (by decide) ?_
              refine aops_yes rfl rfl rfl rfl q19 (st_pick_yes rfl (by first | rfl | exact rfl) rfl rfl) ?_
              refine aops_step1 rfl (st_pick_yes rfl (by first | rfl | exact q19) rfl rfl) ?_
              refine aops_nil ?_
              refine aw_yes rfl (rfl) ?_
              refine aw_seq ?_
              refine aw_region ?_
              refine aops_step1 rfl (st_assign rfl rfl) ?_
              refine aops_nil ?_
              cases Option.some.inj j8
              replace h := Md.onS_r h
              cases Option.some.inj h
              refine aw_ret ⟨rfl, ret_v (.inl ⟨_, rfl, rfl, fun _ e => nomatch e⟩) rfl rfl rfl ?_⟩
              (repeat' (first | exact TLe.refl _ | exact VLe.refl _ | exact CLe.refl _ | exact All2.nil | refine TLe.tup ?_ | refine TLe.v ?_ | refine All2.cons ?_ ?_ | refine VLe.agg ?_ | refine VLe.one ?_ | exact CLe.nil _ | exact CLe.emp _ | refine CLe.val ?_ | refine CLe.slc ?_ ?_))
            replace j8 := Md.cond_f j8 q21
            obtain ⟨x22, hx22, j8⟩ := Md.bind_s j8
            rcases Md.bool_or ((!x22)) with q23 | q23
            · replace j8 := Md.cond_t j8 q23
              refine aw_seq ?_
              apply aw_draw 22 ((⟨[], .one (.val (.int .i64 x18.2.2))⟩ : Add) :: ⟨[], .one (.val (.bool (x18.2.2 == 0)))⟩ :: ⟨[], .one (.val (.bool (x18.2.2 == 0)))⟩ :: ⟨[], .one (.val (.int .i64 x18.2.1))⟩ :: ⟨[], .one (.val (.bool (decide (x18.2.1 < 1))))⟩ :: ⟨[], .one (.val (.bool (decide (x18.2.1 < 1))))⟩ :: ⟨[], .one (.val (.int .i64 x18.2.1))⟩ :: ⟨[], .one (CV.ls byC a0)⟩ :: ⟨[], .one (.val (.int .i64 ((a0.length : Nat) : Int)))⟩ :: ⟨[], .one (.val (.bool (decide (x18.2.1 > ((a0.length : Nat) : Int)))))⟩ :: ⟨[], .one (.val (.bool (decide (x18.2.1 > ((a0.length : Nat) : Int)))))⟩ :: ⟨[], .one (.val (.bool (decide (x18.2.1 > ((a0.length : Nat) : Int)))))⟩ :: ⟨[], .agg [.val (.int .i64 x18.1.Kind), .val (.int .i64 x18.1.N), .val (Sv x18.1.S), CV.ls c_Int x18.1.I, CV.ls c_Str x18.1.L]⟩ :: ⟨[], .one (.val (.bool x22))⟩ :: ⟨[], .one (.val (.bool (!x22)))⟩ :: ⟨[], .one (.val (.bool (!x22)))⟩ :: ⟨[], .one (.val (.bool (!x22)))⟩ :: ⟨[], .tup []⟩ :: ⟨[], .tup []⟩ :: ⟨[], .tup []⟩ :: ⟨[], .tup []⟩ :: ⟨[], .tup []⟩ :: []) (by decide) rfl ?hk26x ?hf26x ?ho26x ?hr26x
              case ho26x =>
               refine ⟨⟨[], (by decide +kernel), fun S hle hfr => ?_⟩, ?_⟩
               · exact .inl ⟨.inl ⟨rfl, rfl⟩, st_move (hle.ev rfl (by nofun)) (hle.d rfl)⟩
               refine ⟨⟨0 :: [], (by decide +kernel), fun S hle hfr => ?_⟩, ?_⟩
               · exact .inl ⟨.inl ⟨rfl, rfl⟩, ev_cmp (hle.ev rfl (by nofun)) (hle.ev rfl (by nofun)) (hle.d rfl) rfl⟩
               refine ⟨⟨1 :: 0 :: [], (by decide +kernel), fun S hle hfr => ?_⟩, ?_⟩
               · exact .inl ⟨.inl ⟨rfl, rfl⟩, st_move (hle.ev rfl (by nofun)) (hle.d rfl)⟩
               refine ⟨⟨2 :: 1 :: 0 :: [], (by decide +kernel), fun S hle hfr => ?_⟩, ?_⟩
               · exact .inl ⟨.inr (.inl ⟨_, _, _, _, rfl, rfl, (hle.ev (x := .tmp _) rfl (by nofun)), (by rw [hle.nt]; rfl), (by first | rfl | (rw [q19]; rfl))⟩), st_move (hle.ev rfl (by nofun)) (hle.d rfl)⟩
               refine ⟨⟨3 :: 2 :: 1 :: 0 :: [], (by decide +kernel), fun S hle hfr => ?_⟩, ?_⟩
               · exact .inl ⟨.inr (.inl ⟨_, _, _, _, rfl, rfl, (hle.ev (x := .tmp _) rfl (by nofun)), (by rw [hle.nt]; rfl), (by first | rfl | (rw [q19]; rfl))⟩), ev_cmp (hle.ev rfl (by nofun)) (hle.ev rfl (by nofun)) (hle.d rfl) rfl⟩
               refine ⟨⟨4 :: 2 :: 3 :: 1 :: 0 :: [], (by decide +kernel), fun S hle hfr => ?_⟩, ?_⟩
               · exact .inl ⟨.inr (.inl ⟨_, _, _, _, rfl, rfl, (hle.ev (x := .tmp _) rfl (by nofun)), (by rw [hle.nt]; rfl), (by first | rfl | (rw [q19]; rfl))⟩), st_move (hle.ev rfl (by nofun)) (hle.d rfl)⟩
               refine ⟨⟨5 :: 4 :: 2 :: 3 :: 1 :: 0 :: [], (by decide +kernel), fun S hle hfr => ?_⟩, ?_⟩
               · exact .inl ⟨.inr (.inl ⟨_, _, _, _, rfl, rfl, (hle.ev (x := .tmp _) rfl (by nofun)), (by rw [hle.nt]; rfl), (by first | rfl | (rw [q20]; rfl))⟩), st_move (hle.ev rfl (by nofun)) (hle.d rfl)⟩
               refine ⟨⟨5 :: 4 :: 2 :: 3 :: 1 :: 0 :: [], (by decide +kernel), fun S hle hfr => ?_⟩, ?_⟩
               · exact .inl ⟨.inr (.inl ⟨_, _, _, _, rfl, rfl, (hle.ev (x := .tmp _) rfl (by nofun)), (by rw [hle.nt]; rfl), (by first | rfl | (rw [q20]; rfl))⟩), st_move (hle.ev rfl (by nofun)) (hle.d rfl)⟩
               refine ⟨⟨7 :: 5 :: 4 :: 2 :: 3 :: 1 :: 0 :: [], (by decide +kernel), fun S hle hfr => ?_⟩, ?_⟩
               · exact .inl ⟨.inr (.inl ⟨_, _, _, _, rfl, rfl, (hle.ev (x := .tmp _) rfl (by nofun)), (by rw [hle.nt]; rfl), (by first | rfl | (rw [q20]; rfl))⟩), ev_len_slc (hle.ev rfl (by nofun)) (hle.d rfl)⟩
               refine ⟨⟨6 :: 8 :: 5 :: 7 :: 4 :: 2 :: 3 :: 1 :: 0 :: [], (by decide +kernel), fun S hle hfr => ?_⟩, ?_⟩
               · exact .inl ⟨.inr (.inl ⟨_, _, _, _, rfl, rfl, (hle.ev (x := .tmp _) rfl (by nofun)), (by rw [hle.nt]; rfl), (by first | rfl | (rw [q20]; rfl))⟩), ev_cmp (hle.ev rfl (by nofun)) (hle.ev rfl (by nofun)) (hle.d rfl) rfl⟩
               refine ⟨⟨5 :: 9 :: 2 :: 4 :: 6 :: 8 :: 1 :: 3 :: 7 :: 0 :: [], (by decide +kernel), fun S hle hfr => ?_⟩, ?_⟩
               · exact .inl ⟨.inr (.inl ⟨_, _, _, _, rfl, rfl, (hle.ev (x := .tmp _) rfl (by nofun)), (by rw [hle.nt]; rfl), (by first | rfl | (rw [q19]; rfl))⟩), st_pick_no (hle.ev rfl (by nofun)) (by first | rfl | exact q20) (hle.ev rfl (by nofun)) (hle.d rfl)⟩
               refine ⟨⟨10 :: 5 :: 2 :: 9 :: 4 :: 1 :: 6 :: 8 :: 3 :: 0 :: 7 :: [], (by decide +kernel), fun S hle hfr => ?_⟩, ?_⟩
               · exact .inl ⟨.inr (.inl ⟨_, _, _, _, rfl, rfl, (hle.ev (x := .tmp _) rfl (by nofun)), (by rw [hle.nt]; rfl), (by first | rfl | (rw [q19]; rfl))⟩), st_move (hle.ev rfl (by nofun)) (hle.d rfl)⟩
               refine ⟨⟨11 :: 10 :: 5 :: 2 :: 9 :: 4 :: 1 :: 6 :: 8 :: 3 :: 0 :: 7 :: [], (by decide +kernel), fun S hle hfr => ?_⟩, ?_⟩
               · exact .inl ⟨.inr (.inl ⟨_, _, _, _, rfl, rfl, (hle.ev (x := .tmp _) rfl (by nofun)), (by rw [hle.nt]; rfl), (by first | rfl | (rw [q21]; rfl))⟩), ev_loads (ds := [_, _, _, _, _]) (hle.ev rfl (by nofun)) (hle.heap _ _ rfl) rfl rfl (hle.d rfl)⟩
               refine ⟨⟨12 :: 11 :: 10 :: 5 :: 2 :: 9 :: 4 :: 1 :: 6 :: 8 :: 3 :: 0 :: 7 :: [], (by decide +kernel), fun S hle hfr => ?_⟩, ?_⟩
               · exact .inl ⟨.inr (.inl ⟨_, _, _, _, rfl, rfl, (hle.ev (x := .tmp _) rfl (by nofun)), (by rw [hle.nt]; rfl), (by first | rfl | (rw [q21]; rfl))⟩), ev_call_v (wire_ValidValue_fn k x18.1 x22 hx22) (map_ev (.cons (hle.ev rfl (by nofun)) (.nil))) [] (by repeat' (first | exact All2.nil | refine All2.cons ?_ ?_ | refine ArgV.one ?_ | refine ArgV.agg ?_ | exact ArgC.mk rfl | exact ArgC.lend (hle.heap _ _ rfl) (by simp) | exact ArgC.le (CLe.nil _) rfl | exact ArgC.le (CLe.emp _) rfl | exact ArgC.le (CLe.any _) rfl)) rfl rfl rfl (.inl rfl) (hle.d rfl)⟩
               refine ⟨⟨13 :: 11 :: 12 :: 10 :: 5 :: 2 :: 9 :: 4 :: 1 :: 6 :: 8 :: 3 :: 0 :: 7 :: [], (by decide +kernel), fun S hle hfr => ?_⟩, ?_⟩
               · exact .inl ⟨.inr (.inl ⟨_, _, _, _, rfl, rfl, (hle.ev (x := .tmp _) rfl (by nofun)), (by rw [hle.nt]; rfl), (by first | rfl | (rw [q21]; rfl))⟩), ev_not (hle.ev rfl (by nofun)) (hle.d rfl)⟩
               refine ⟨⟨11 :: 14 :: 2 :: 10 :: 5 :: 13 :: 1 :: 9 :: 4 :: 12 :: 0 :: 6 :: 8 :: 3 :: 7 :: [], (by decide +kernel), fun S hle hfr => ?_⟩, ?_⟩
               · exact .inl ⟨.inr (.inl ⟨_, _, _, _, rfl, rfl, (hle.ev (x := .tmp _) rfl (by nofun)), (by rw [hle.nt]; rfl), (by first | rfl | (rw [q19]; rfl))⟩), st_pick_no (hle.ev rfl (by nofun)) (by first | rfl | exact q21) (hle.ev rfl (by nofun)) (hle.d rfl)⟩
               refine ⟨⟨15 :: 13 :: 2 :: 11 :: 14 :: 12 :: 1 :: 10 :: 5 :: 0 :: 9 :: 4 :: 6 :: 8 :: 3 :: 7 :: [], (by decide +kernel), fun S hle hfr => ?_⟩, ?_⟩
               · exact .inl ⟨.inr (.inl ⟨_, _, _, _, rfl, rfl, (hle.ev (x := .tmp _) rfl (by nofun)), (by rw [hle.nt]; rfl), (by first | rfl | (rw [q19]; rfl))⟩), st_move (hle.ev rfl (by nofun)) (hle.d rfl)⟩
               refine ⟨⟨16 :: 15 :: 13 :: 2 :: 11 :: 14 :: 12 :: 1 :: 10 :: 5 :: 0 :: 9 :: 4 :: 6 :: 8 :: 3 :: 7 :: [], (by decide +kernel), fun S hle hfr => ?_⟩, ?_⟩
               · exact .inr ⟨.inr (.inl ⟨_, _, _, _, rfl, rfl, (hle.ev (x := .tmp _) rfl (by nofun)), (by rw [hle.nt]; rfl), (by first | rfl | (rw [q23]; rfl))⟩), rfl, hle.d rfl⟩
               refine ⟨⟨16 :: 15 :: 13 :: 2 :: 11 :: 14 :: 12 :: 1 :: 10 :: 5 :: 0 :: 9 :: 4 :: 6 :: 8 :: 3 :: 7 :: [], (by decide +kernel), fun S hle hfr => ?_⟩, ?_⟩
               · exact .inr ⟨.inr (.inl ⟨_, _, _, _, rfl, rfl, (hle.ev (x := .tmp _) rfl (by nofun)), (by rw [hle.nt]; rfl), (by first | rfl | (rw [q23]; rfl))⟩), rfl, hle.d rfl⟩
               refine ⟨⟨17 :: 18 :: 16 :: 15 :: 13 :: 2 :: 11 :: 14 :: 12 :: 1 :: 10 :: 5 :: 0 :: 9 :: 4 :: 6 :: 8 :: 3 :: 7 :: [], (by decide +kernel), fun S hle hfr => ?_⟩, ?_⟩
               · exact .inr ⟨.inr (.inl ⟨_, _, _, _, rfl, rfl, (hle.ev (x := .tmp _) rfl (by nofun)), (by rw [hle.nt]; rfl), (by first | rfl | (rw [q23]; rfl))⟩), rfl, hle.d rfl⟩
               refine ⟨⟨16 :: 15 :: 13 :: 2 :: 11 :: 14 :: 12 :: 1 :: 10 :: 5 :: 0 :: 9 :: 4 :: 6 :: 8 :: 3 :: 7 :: [], (by decide +kernel), fun S hle hfr => ?_⟩, ?_⟩
               · exact .inr ⟨.inr (.inl ⟨_, _, _, _, rfl, rfl, (hle.ev (x := .tmp _) rfl (by nofun)), (by rw [hle.nt]; rfl), (by first | rfl | (rw [q23]; rfl))⟩), rfl, hle.d rfl⟩
               refine ⟨⟨20 :: 16 :: 15 :: 13 :: 2 :: 11 :: 14 :: 12 :: 1 :: 10 :: 5 :: 0 :: 9 :: 4 :: 6 :: 8 :: 3 :: 7 :: [], (by decide +kernel), fun S hle hfr => ?_⟩, ?_⟩
               · exact .inr ⟨.inr (.inl ⟨_, _, _, _, rfl, rfl, (hle.ev (x := .tmp _) rfl (by nofun)), (by rw [hle.nt]; rfl), (by first | rfl | (rw [q23]; rfl))⟩), rfl, hle.d rfl⟩
               exact trivial
              case hk26x => rfl
              case hf26x => rfl
              refine aops_no rfl rfl rfl rfl rfl (by first | decide | (rw [q23]; decide)) ?_
              refine aops_no rfl rfl rfl rfl rfl (by first | decide | (rw [q23]; decide)) ?_
              refine aops_yes rfl rfl rfl rfl q19 (st_pick_yes rfl (by first | rfl | exact q23) rfl rfl) ?_
              refine aops_step1 rfl (st_pick_yes rfl (by first | rfl | exact q19) rfl rfl) ?_
              refine aops_nil ?_
              refine aw_yes rfl (rfl) ?_
              refine aw_seq ?_
              refine aw_region ?_
              refine aops_step1 rfl (st_assign rfl rfl) ?_
              refine aops_nil ?_
              cases Option.some.inj j8
              replace h := Md.onS_r h
              cases Option.some.inj h
              refine aw_ret ⟨rfl, ret_v (.inl ⟨_, rfl, rfl, fun _ e => nomatch e⟩) rfl rfl rfl ?_⟩
              (repeat' (first | exact TLe.refl _ | exact VLe.refl _ | exact CLe.refl _ | exact All2.nil | refine TLe.tup ?_ | refine TLe.v ?_ | refine All2.cons ?_ ?_ | refine VLe.agg ?_ | refine VLe.one ?_ | exact CLe.nil _ | exact CLe.emp _ | refine CLe.val ?_ | refine CLe.slc ?_ ?_))
            replace j8 := Md.cond_f j8 q23
            obtain ⟨g24, j8⟩ := Md.ifp_s j8
            obtain ⟨g25, j8⟩ := Md.ifp_s j8
            obtain ⟨x26, hx26, j8⟩ := Md.bind_s j8
            obtain ⟨x27, hx27, j8⟩ := Md.bind_s j8
            refine aw_seq ?_
            apply aw_draw 22 ((⟨[], .one (.val (.int .i64 x18.2.2))⟩ : Add) :: ⟨[], .one (.val (.bool (x18.2.2 == 0)))⟩ :: ⟨[], .one (.val (.bool (x18.2.2 == 0)))⟩ :: ⟨[], .one (.val (.int .i64 x18.2.1))⟩ :: ⟨[], .one (.val (.bool (decide (x18.2.1 < 1))))⟩ :: ⟨[], .one (.val (.bool (decide (x18.2.1 < 1))))⟩ :: ⟨[], .one (.val (.int .i64 x18.2.1))⟩ :: ⟨[], .one (CV.ls byC a0)⟩ :: ⟨[], .one (.val (.int .i64 ((a0.length : Nat) : Int)))⟩ :: ⟨[], .one (.val (.bool (decide (x18.2.1 > ((a0.length : Nat) : Int)))))⟩ :: ⟨[], .one (.val (.bool (decide (x18.2.1 > ((a0.length : Nat) : Int)))))⟩ :: ⟨[], .one (.val (.bool (decide (x18.2.1 > ((a0.length : Nat) : Int)))))⟩ :: ⟨[], .agg [.val (.int .i64 x18.1.Kind), .val (.int .i64 x18.1.N), .val (Sv x18.1.S), CV.ls c_Int x18.1.I, CV.ls c_Str x18.1.L]⟩ :: ⟨[], .one (.val (.bool x22))⟩ :: ⟨[], .one (.val (.bool (!x22)))⟩ :: ⟨[], .one (.val (.bool (!x22)))⟩ :: ⟨[], .one (.val (.bool (!x22)))⟩ :: ⟨[], .one (CV.ls byC a0)⟩ :: ⟨[], .one (.val (.int .i64 x18.2.1))⟩ :: ⟨[], .one (CV.ls byC (a0.take ((x18.2.1).toNat)))⟩ :: ⟨[], .agg [.val (.int .i64 x18.1.Kind), .val (.int .i64 x18.1.N), .val (Sv x18.1.S), CV.ls c_Int x18.1.I, CV.ls c_Str x18.1.L]⟩ :: ⟨[], .one (CV.ls byC x26)⟩ :: []) (by decide) rfl ?hk27x ?hf27x ?ho27x ?hr27x
            case ho27x =>
             refine ⟨⟨[], (by decide +kernel), fun S hle hfr => ?_⟩, ?_⟩
             · exact .inl ⟨.inl ⟨rfl, rfl⟩, st_move (hle.ev rfl (by nofun)) (hle.d rfl)⟩
             refine ⟨⟨0 :: [], (by decide +kernel), fun S hle hfr => ?_⟩, ?_⟩
             · exact .inl ⟨.inl ⟨rfl, rfl⟩, ev_cmp (hle.ev rfl (by nofun)) (hle.ev rfl (by nofun)) (hle.d rfl) rfl⟩
             refine ⟨⟨1 :: 0 :: [], (by decide +kernel), fun S hle hfr => ?_⟩, ?_⟩
             · exact .inl ⟨.inl ⟨rfl, rfl⟩, st_move (hle.ev rfl (by nofun)) (hle.d rfl)⟩
             refine ⟨⟨2 :: 1 :: 0 :: [], (by decide +kernel), fun S hle hfr => ?_⟩, ?_⟩
             · exact .inl ⟨.inr (.inl ⟨_, _, _, _, rfl, rfl, (hle.ev (x := .tmp _) rfl (by nofun)), (by rw [hle.nt]; rfl), (by first | rfl | (rw [q19]; rfl))⟩), st_move (hle.ev rfl (by nofun)) (hle.d rfl)⟩
             refine ⟨⟨3 :: 2 :: 1 :: 0 :: [], (by decide +kernel), fun S hle hfr => ?_⟩, ?_⟩
             · exact .inl ⟨.inr (.inl ⟨_, _, _, _, rfl, rfl, (hle.ev (x := .tmp _) rfl (by nofun)), (by rw [hle.nt]; rfl), (by first | rfl | (rw [q19]; rfl))⟩), ev_cmp (hle.ev rfl (by nofun)) (hle.ev rfl (by nofun)) (hle.d rfl) rfl⟩
             refine ⟨⟨4 :: 2 :: 3 :: 1 :: 0 :: [], (by decide +kernel), fun S hle hfr => ?_⟩, ?_⟩
             · exact .inl ⟨.inr (.inl ⟨_, _, _, _, rfl, rfl, (hle.ev (x := .tmp _) rfl (by nofun)), (by rw [hle.nt]; rfl), (by first | rfl | (rw [q19]; rfl))⟩), st_move (hle.ev rfl (by nofun)) (hle.d rfl)⟩
             refine ⟨⟨5 :: 4 :: 2 :: 3 :: 1 :: 0 :: [], (by decide +kernel), fun S hle hfr => ?_⟩, ?_⟩
             · exact .inl ⟨.inr (.inl ⟨_, _, _, _, rfl, rfl, (hle.ev (x := .tmp _) rfl (by nofun)), (by rw [hle.nt]; rfl), (by first | rfl | (rw [q20]; rfl))⟩), st_move (hle.ev rfl (by nofun)) (hle.d rfl)⟩
             refine ⟨⟨5 :: 4 :: 2 :: 3 :: 1 :: 0 :: [], (by decide +kernel), fun S hle hfr => ?_⟩, ?_⟩
             · exact .inl ⟨.inr (.inl ⟨_, _, _, _, rfl, rfl, (hle.ev (x := .tmp _) rfl (by nofun)), (by rw [hle.nt]; rfl), (by first | rfl | (rw [q20]; rfl))⟩), st_move (hle.ev rfl (by nofun)) (hle.d rfl)⟩
             refine ⟨⟨7 :: 5 :: 4 :: 2 :: 3 :: 1 :: 0 :: [], (by decide +kernel), fun S hle hfr => ?_⟩, ?_⟩
             · exact .inl ⟨.inr (.inl ⟨_, _, _, _, rfl, rfl, (hle.ev (x := .tmp _) rfl (by nofun)), (by rw [hle.nt]; rfl), (by first | rfl | (rw [q20]; rfl))⟩), ev_len_slc (hle.ev rfl (by nofun)) (hle.d rfl)⟩
             refine ⟨⟨6 :: 8 :: 5 :: 7 :: 4 :: 2 :: 3 :: 1 :: 0 :: [], (by decide +kernel), fun S hle hfr => ?_⟩, ?_⟩
             · exact .inl ⟨.inr (.inl ⟨_, _, _, _, rfl, rfl, (hle.ev (x := .tmp _) rfl (by nofun)), (by rw [hle.nt]; rfl), (by first | rfl | (rw [q20]; rfl))⟩), ev_cmp (hle.ev rfl (by nofun)) (hle.ev rfl (by nofun)) (hle.d rfl) rfl⟩
             refine ⟨⟨5 :: 9 :: 2 :: 4 :: 6 :: 8 :: 1 :: 3 :: 7 :: 0 :: [], (by decide +kernel), fun S hle hfr => ?_⟩, ?_⟩
             · exact .inl ⟨.inr (.inl ⟨_, _, _, _, rfl, rfl, (hle.ev (x := .tmp _) rfl (by nofun)), (by rw [hle.nt]; rfl), (by first | rfl | (rw [q19]; rfl))⟩), st_pick_no (hle.ev rfl (by nofun)) (by first | rfl | exact q20) (hle.ev rfl (by nofun)) (hle.d rfl)⟩
             refine ⟨⟨10 :: 5 :: 2 :: 9 :: 4 :: 1 :: 6 :: 8 :: 3 :: 0 :: 7 :: [], (by decide +kernel), fun S hle hfr => ?_⟩, ?_⟩
             · exact .inl ⟨.inr (.inl ⟨_, _, _, _, rfl, rfl, (hle.ev (x := .tmp _) rfl (by nofun)), (by rw [hle.nt]; rfl), (by first | rfl | (rw [q19]; rfl))⟩), st_move (hle.ev rfl (by nofun)) (hle.d rfl)⟩
             refine ⟨⟨11 :: 10 :: 5 :: 2 :: 9 :: 4 :: 1 :: 6 :: 8 :: 3 :: 0 :: 7 :: [], (by decide +kernel), fun S hle hfr => ?_⟩, ?_⟩
             · exact .inl ⟨.inr (.inl ⟨_, _, _, _, rfl, rfl, (hle.ev (x := .tmp _) rfl (by nofun)), (by rw [hle.nt]; rfl), (by first | rfl | (rw [q21]; rfl))⟩), ev_loads (ds := [_, _, _, _, _]) (hle.ev rfl (by nofun)) (hle.heap _ _ rfl) rfl rfl (hle.d rfl)⟩
             refine ⟨⟨12 :: 11 :: 10 :: 5 :: 2 :: 9 :: 4 :: 1 :: 6 :: 8 :: 3 :: 0 :: 7 :: [], (by decide +kernel), fun S hle hfr => ?_⟩, ?_⟩
             · exact .inl ⟨.inr (.inl ⟨_, _, _, _, rfl, rfl, (hle.ev (x := .tmp _) rfl (by nofun)), (by rw [hle.nt]; rfl), (by first | rfl | (rw [q21]; rfl))⟩), ev_call_v (wire_ValidValue_fn k x18.1 x22 hx22) (map_ev (.cons (hle.ev rfl (by nofun)) (.nil))) [] (by repeat' (first | exact All2.nil | refine All2.cons ?_ ?_ | refine ArgV.one ?_ | refine ArgV.agg ?_ | exact ArgC.mk rfl | exact ArgC.lend (hle.heap _ _ rfl) (by simp) | exact ArgC.le (CLe.nil _) rfl | exact ArgC.le (CLe.emp _) rfl | exact ArgC.le (CLe.any _) rfl)) rfl rfl rfl (.inl rfl) (hle.d rfl)⟩
             refine ⟨⟨13 :: 11 :: 12 :: 10 :: 5 :: 2 :: 9 :: 4 :: 1 :: 6 :: 8 :: 3 :: 0 :: 7 :: [], (by decide +kernel), fun S hle hfr => ?_⟩, ?_⟩
             · exact .inl ⟨.inr (.inl ⟨_, _, _, _, rfl, rfl, (hle.ev (x := .tmp _) rfl (by nofun)), (by rw [hle.nt]; rfl), (by first | rfl | (rw [q21]; rfl))⟩), ev_not (hle.ev rfl (by nofun)) (hle.d rfl)⟩
             refine ⟨⟨11 :: 14 :: 2 :: 10 :: 5 :: 13 :: 1 :: 9 :: 4 :: 12 :: 0 :: 6 :: 8 :: 3 :: 7 :: [], (by decide +kernel), fun S hle hfr => ?_⟩, ?_⟩
             · exact .inl ⟨.inr (.inl ⟨_, _, _, _, rfl, rfl, (hle.ev (x := .tmp _) rfl (by nofun)), (by rw [hle.nt]; rfl), (by first | rfl | (rw [q19]; rfl))⟩), st_pick_no (hle.ev rfl (by nofun)) (by first | rfl | exact q21) (hle.ev rfl (by nofun)) (hle.d rfl)⟩
             refine ⟨⟨15 :: 13 :: 2 :: 11 :: 14 :: 12 :: 1 :: 10 :: 5 :: 0 :: 9 :: 4 :: 6 :: 8 :: 3 :: 7 :: [], (by decide +kernel), fun S hle hfr => ?_⟩, ?_⟩
             · exact .inl ⟨.inr (.inl ⟨_, _, _, _, rfl, rfl, (hle.ev (x := .tmp _) rfl (by nofun)), (by rw [hle.nt]; rfl), (by first | rfl | (rw [q19]; rfl))⟩), st_move (hle.ev rfl (by nofun)) (hle.d rfl)⟩
             refine ⟨⟨16 :: 15 :: 13 :: 2 :: 11 :: 14 :: 12 :: 1 :: 10 :: 5 :: 0 :: 9 :: 4 :: 6 :: 8 :: 3 :: 7 :: [], (by decide +kernel), fun S hle hfr => ?_⟩, ?_⟩
             · exact .inl ⟨.inr (.inl ⟨_, _, _, _, rfl, rfl, (hle.ev (x := .tmp _) rfl (by nofun)), (by rw [hle.nt]; rfl), (by first | rfl | (rw [q23]; rfl))⟩), st_move (hle.ev rfl (by nofun)) (hle.d rfl)⟩
             refine ⟨⟨16 :: 15 :: 13 :: 2 :: 11 :: 14 :: 12 :: 1 :: 10 :: 5 :: 0 :: 9 :: 4 :: 6 :: 8 :: 3 :: 7 :: [], (by decide +kernel), fun S hle hfr => ?_⟩, ?_⟩
             · exact .inl ⟨.inr (.inl ⟨_, _, _, _, rfl, rfl, (hle.ev (x := .tmp _) rfl (by nofun)), (by rw [hle.nt]; rfl), (by first | rfl | (rw [q23]; rfl))⟩), st_move (hle.ev rfl (by nofun)) (hle.d rfl)⟩
             refine ⟨⟨17 :: 18 :: 16 :: 15 :: 13 :: 2 :: 11 :: 14 :: 12 :: 1 :: 10 :: 5 :: 0 :: 9 :: 4 :: 6 :: 8 :: 3 :: 7 :: [], (by decide +kernel), fun S hle hfr => ?_⟩, ?_⟩
             · exact .inl ⟨.inr (.inl ⟨_, _, _, _, rfl, rfl, (hle.ev (x := .tmp _) rfl (by nofun)), (by rw [hle.nt]; rfl), (by first | rfl | (rw [q23]; rfl))⟩), st_cut_hi (f := byC) (fun _ => rfl) (hle.ev rfl (by nofun)) ⟨_, _, (hle.ev rfl (by nofun)), (Md.nn_eq g24)⟩ g25 (hle.d rfl)⟩
             refine ⟨⟨16 :: 15 :: 13 :: 2 :: 11 :: 14 :: 12 :: 1 :: 10 :: 5 :: 0 :: 9 :: 4 :: 6 :: 8 :: 3 :: 7 :: [], (by decide +kernel), fun S hle hfr => ?_⟩, ?_⟩
             · exact .inl ⟨.inr (.inl ⟨_, _, _, _, rfl, rfl, (hle.ev (x := .tmp _) rfl (by nofun)), (by rw [hle.nt]; rfl), (by first | rfl | (rw [q23]; rfl))⟩), ev_loads (ds := [_, _, _, _, _]) (hle.ev rfl (by nofun)) (hle.heap _ _ rfl) rfl rfl (hle.d rfl)⟩
             refine ⟨⟨20 :: 16 :: 15 :: 13 :: 2 :: 11 :: 14 :: 12 :: 1 :: 10 :: 5 :: 0 :: 9 :: 4 :: 6 :: 8 :: 3 :: 7 :: [], (by decide +kernel), fun S hle hfr => ?_⟩, ?_⟩
             · exact .inl ⟨.inr (.inl ⟨_, _, _, _, rfl, rfl, (hle.ev (x := .tmp _) rfl (by nofun)), (by rw [hle.nt]; rfl), (by first | rfl | (rw [q23]; rfl))⟩), ev_call_v (wire_AppendValue_fn k ([] : List UInt8) x18.1 x26 hx26) (map_ev (.cons (hle.ev rfl (by nofun)) (.cons (hle.ev rfl (by nofun)) (.nil)))) [] (by repeat' (first | exact All2.nil | refine All2.cons ?_ ?_ | refine ArgV.one ?_ | refine ArgV.agg ?_ | exact ArgC.mk rfl | exact ArgC.lend (hle.heap _ _ rfl) (by simp) | exact ArgC.le (CLe.nil _) rfl | exact ArgC.le (CLe.emp _) rfl | exact ArgC.le (CLe.any _) rfl)) rfl rfl rfl (.inl rfl) (hle.d rfl)⟩
             exact trivial
            case hk27x => rfl
            case hf27x => rfl
            refine aops_yes rfl rfl rfl rfl q23 (ev_call_v (actorgridlaw1_same_fn k (a0.take ((x18.2.1).toNat)) x26 x27 hx27) rfl [] (by repeat' (first | exact All2.nil | refine All2.cons ?_ ?_ | refine ArgV.one ?_ | refine ArgV.agg ?_ | exact ArgC.mk rfl | exact ArgC.lend rfl (by simp) | exact ArgC.le (CLe.nil _) rfl | exact ArgC.le (CLe.emp _) rfl | exact ArgC.le (CLe.any _) rfl)) rfl rfl rfl (.inl rfl) rfl) ?_
            refine aops_yes rfl rfl rfl rfl q23 (ev_not rfl rfl) ?_
            refine aops_yes rfl rfl rfl rfl q19 (st_pick_no rfl (by first | rfl | exact q23) rfl rfl) ?_
            refine aops_step1 rfl (st_pick_yes rfl (by first | rfl | exact q19) rfl rfl) ?_
            refine aops_nil ?_
            refine aw_cond rfl (fun c28 => ?_) (fun c28 => ?_)
            · replace j8 := Md.cond_t j8 c28
              refine aw_seq ?_
              refine aw_region ?_
              refine aops_step1 rfl (st_assign rfl rfl) ?_
              refine aops_nil ?_
              cases Option.some.inj j8
              replace h := Md.onS_r h
              cases Option.some.inj h
              refine aw_ret ⟨rfl, ret_v (.inl ⟨_, rfl, rfl, fun _ e => nomatch e⟩) rfl rfl rfl ?_⟩
              (repeat' (first | exact TLe.refl _ | exact VLe.refl _ | exact CLe.refl _ | exact All2.nil | refine TLe.tup ?_ | refine TLe.v ?_ | refine All2.cons ?_ ?_ | refine VLe.agg ?_ | refine VLe.one ?_ | exact CLe.nil _ | exact CLe.emp _ | refine CLe.val ?_ | refine CLe.slc ?_ ?_))
            replace j8 := Md.cond_f j8 c28
            refine aw_skip ?_
            show ∃ _x : Unit, _ = _ ∧ Weak _ _
            exact ⟨(), Option.some.inj j8, (by (refine weak_mk rfl rfl ?_ ?_ rfl <;> repeat' (first | exact trivial | refine ⟨?_, ?_⟩ | exact VLe.refl _ | exact BLe.refl _ | refine VLe.one (CLe.val ?_) | exact VLe.one (CLe.nil _) | exact VLe.one (CLe.emp _))))⟩
          replace j8 := Md.cond_f j8 q19
          refine aw_seq ?_
          apply aw_draw 22 ((⟨[], .one (.val (.int .i64 x18.2.2))⟩ : Add) :: ⟨[], .one (.val (.bool (x18.2.2 == 0)))⟩ :: ⟨[], .one (.val (.bool (x18.2.2 == 0)))⟩ :: ⟨[], .tup []⟩ :: ⟨[], .tup []⟩ :: ⟨[], .tup []⟩ :: ⟨[], .tup []⟩ :: ⟨[], .tup []⟩ :: ⟨[], .tup []⟩ :: ⟨[], .tup []⟩ :: ⟨[], .tup []⟩ :: ⟨[], .tup []⟩ :: ⟨[], .tup []⟩ :: ⟨[], .tup []⟩ :: ⟨[], .tup []⟩ :: ⟨[], .tup []⟩ :: ⟨[], .tup []⟩ :: ⟨[], .tup []⟩ :: ⟨[], .tup []⟩ :: ⟨[], .tup []⟩ :: ⟨[], .tup []⟩ :: ⟨[], .tup []⟩ :: []) (by decide) rfl ?hk28x ?hf28x ?ho28x ?hr28x
          case ho28x =>
           refine ⟨⟨[], (by decide +kernel), fun S hle hfr => ?_⟩, ?_⟩
           · exact .inl ⟨.inl ⟨rfl, rfl⟩, st_move (hle.ev rfl (by nofun)) (hle.d rfl)⟩
           refine ⟨⟨0 :: [], (by decide +kernel), fun S hle hfr => ?_⟩, ?_⟩
           · exact .inl ⟨.inl ⟨rfl, rfl⟩, ev_cmp (hle.ev rfl (by nofun)) (hle.ev rfl (by nofun)) (hle.d rfl) rfl⟩
           refine ⟨⟨1 :: 0 :: [], (by decide +kernel), fun S hle hfr => ?_⟩, ?_⟩
           · exact .inl ⟨.inl ⟨rfl, rfl⟩, st_move (hle.ev rfl (by nofun)) (hle.d rfl)⟩
           refine ⟨⟨2 :: 1 :: 0 :: [], (by decide +kernel), fun S hle hfr => ?_⟩, ?_⟩
           · exact .inr ⟨.inr (.inl ⟨_, _, _, _, rfl, rfl, (hle.ev (x := .tmp _) rfl (by nofun)), (by rw [hle.nt]; rfl), (by first | rfl | (rw [q19]; rfl))⟩), rfl, hle.d rfl⟩
           refine ⟨⟨3 :: 2 :: 1 :: 0 :: [], (by decide +kernel), fun S hle hfr => ?_⟩, ?_⟩
           · exact .inr ⟨.inr (.inl ⟨_, _, _, _, rfl, rfl, (hle.ev (x := .tmp _) rfl (by nofun)), (by rw [hle.nt]; rfl), (by first | rfl | (rw [q19]; rfl))⟩), rfl, hle.d rfl⟩
           refine ⟨⟨4 :: 2 :: 3 :: 1 :: 0 :: [], (by decide +kernel), fun S hle hfr => ?_⟩, ?_⟩
           · exact .inr ⟨.inr (.inl ⟨_, _, _, _, rfl, rfl, (hle.ev (x := .tmp _) rfl (by nofun)), (by rw [hle.nt]; rfl), (by first | rfl | (rw [q19]; rfl))⟩), rfl, hle.d rfl⟩
           refine ⟨⟨5 :: 4 :: 2 :: 3 :: 1 :: 0 :: [], (by decide +kernel), fun S hle hfr => ?_⟩, ?_⟩
           · exact .inr ⟨.inr (.inr ⟨_, _, _, rfl, rfl, (hle.ev (x := .tmp _) rfl (by nofun)), (by rw [hle.nt]; rfl), rfl⟩), rfl, hle.d rfl⟩
           refine ⟨⟨5 :: 4 :: 2 :: 3 :: 1 :: 0 :: [], (by decide +kernel), fun S hle hfr => ?_⟩, ?_⟩
           · exact .inr ⟨.inr (.inr ⟨_, _, _, rfl, rfl, (hle.ev (x := .tmp _) rfl (by nofun)), (by rw [hle.nt]; rfl), rfl⟩), rfl, hle.d rfl⟩
           refine ⟨⟨7 :: 5 :: 4 :: 2 :: 3 :: 1 :: 0 :: [], (by decide +kernel), fun S hle hfr => ?_⟩, ?_⟩
           · exact .inr ⟨.inr (.inr ⟨_, _, _, rfl, rfl, (hle.ev (x := .tmp _) rfl (by nofun)), (by rw [hle.nt]; rfl), rfl⟩), rfl, hle.d rfl⟩
           refine ⟨⟨6 :: 8 :: 5 :: 7 :: 4 :: 2 :: 3 :: 1 :: 0 :: [], (by decide +kernel), fun S hle hfr => ?_⟩, ?_⟩
           · exact .inr ⟨.inr (.inr ⟨_, _, _, rfl, rfl, (hle.ev (x := .tmp _) rfl (by nofun)), (by rw [hle.nt]; rfl), rfl⟩), rfl, hle.d rfl⟩
           refine ⟨⟨5 :: 9 :: 2 :: 4 :: 6 :: 8 :: 1 :: 3 :: 7 :: 0 :: [], (by decide +kernel), fun S hle hfr => ?_⟩, ?_⟩
           · exact .inr ⟨.inr (.inl ⟨_, _, _, _, rfl, rfl, (hle.ev (x := .tmp _) rfl (by nofun)), (by rw [hle.nt]; rfl), (by first | rfl | (rw [q19]; rfl))⟩), rfl, hle.d rfl⟩
           refine ⟨⟨10 :: 5 :: 2 :: 9 :: 4 :: 1 :: 6 :: 8 :: 3 :: 0 :: 7 :: [], (by decide +kernel), fun S hle hfr => ?_⟩, ?_⟩
           · exact .inr ⟨.inr (.inl ⟨_, _, _, _, rfl, rfl, (hle.ev (x := .tmp _) rfl (by nofun)), (by rw [hle.nt]; rfl), (by first | rfl | (rw [q19]; rfl))⟩), rfl, hle.d rfl⟩
           refine ⟨⟨11 :: 10 :: 5 :: 2 :: 9 :: 4 :: 1 :: 6 :: 8 :: 3 :: 0 :: 7 :: [], (by decide +kernel), fun S hle hfr => ?_⟩, ?_⟩
           · exact .inr ⟨.inr (.inr ⟨_, _, _, rfl, rfl, (hle.ev (x := .tmp _) rfl (by nofun)), (by rw [hle.nt]; rfl), rfl⟩), rfl, hle.d rfl⟩
           refine ⟨⟨12 :: 11 :: 10 :: 5 :: 2 :: 9 :: 4 :: 1 :: 6 :: 8 :: 3 :: 0 :: 7 :: [], (by decide +kernel), fun S hle hfr => ?_⟩, ?_⟩
           · exact .inr ⟨.inr (.inr ⟨_, _, _, rfl, rfl, (hle.ev (x := .tmp _) rfl (by nofun)), (by rw [hle.nt]; rfl), rfl⟩), rfl, hle.d rfl⟩
           refine ⟨⟨13 :: 11 :: 12 :: 10 :: 5 :: 2 :: 9 :: 4 :: 1 :: 6 :: 8 :: 3 :: 0 :: 7 :: [], (by decide +kernel), fun S hle hfr => ?_⟩, ?_⟩
           · exact .inr ⟨.inr (.inr ⟨_, _, _, rfl, rfl, (hle.ev (x := .tmp _) rfl (by nofun)), (by rw [hle.nt]; rfl), rfl⟩), rfl, hle.d rfl⟩
           refine ⟨⟨11 :: 14 :: 2 :: 10 :: 5 :: 13 :: 1 :: 9 :: 4 :: 12 :: 0 :: 6 :: 8 :: 3 :: 7 :: [], (by decide +kernel), fun S hle hfr => ?_⟩, ?_⟩
           · exact .inr ⟨.inr (.inl ⟨_, _, _, _, rfl, rfl, (hle.ev (x := .tmp _) rfl (by nofun)), (by rw [hle.nt]; rfl), (by first | rfl | (rw [q19]; rfl))⟩), rfl, hle.d rfl⟩
           refine ⟨⟨15 :: 13 :: 2 :: 11 :: 14 :: 12 :: 1 :: 10 :: 5 :: 0 :: 9 :: 4 :: 6 :: 8 :: 3 :: 7 :: [], (by decide +kernel), fun S hle hfr => ?_⟩, ?_⟩
           · exact .inr ⟨.inr (.inl ⟨_, _, _, _, rfl, rfl, (hle.ev (x := .tmp _) rfl (by nofun)), (by rw [hle.nt]; rfl), (by first | rfl | (rw [q19]; rfl))⟩), rfl, hle.d rfl⟩
           refine ⟨⟨16 :: 15 :: 13 :: 2 :: 11 :: 14 :: 12 :: 1 :: 10 :: 5 :: 0 :: 9 :: 4 :: 6 :: 8 :: 3 :: 7 :: [], (by decide +kernel), fun S hle hfr => ?_⟩, ?_⟩
           · exact .inr ⟨.inr (.inr ⟨_, _, _, rfl, rfl, (hle.ev (x := .tmp _) rfl (by nofun)), (by rw [hle.nt]; rfl), rfl⟩), rfl, hle.d rfl⟩
           refine ⟨⟨16 :: 15 :: 13 :: 2 :: 11 :: 14 :: 12 :: 1 :: 10 :: 5 :: 0 :: 9 :: 4 :: 6 :: 8 :: 3 :: 7 :: [], (by decide +kernel), fun S hle hfr => ?_⟩, ?_⟩
           · exact .inr ⟨.inr (.inr ⟨_, _, _, rfl, rfl, (hle.ev (x := .tmp _) rfl (by nofun)), (by rw [hle.nt]; rfl), rfl⟩), rfl, hle.d rfl⟩
           refine ⟨⟨17 :: 18 :: 16 :: 15 :: 13 :: 2 :: 11 :: 14 :: 12 :: 1 :: 10 :: 5 :: 0 :: 9 :: 4 :: 6 :: 8 :: 3 :: 7 :: [], (by decide +kernel), fun S hle hfr => ?_⟩, ?_⟩
           · exact .inr ⟨.inr (.inr ⟨_, _, _, rfl, rfl, (hle.ev (x := .tmp _) rfl (by nofun)), (by rw [hle.nt]; rfl), rfl⟩), rfl, hle.d rfl⟩
           refine ⟨⟨16 :: 15 :: 13 :: 2 :: 11 :: 14 :: 12 :: 1 :: 10 :: 5 :: 0 :: 9 :: 4 :: 6 :: 8 :: 3 :: 7 :: [], (by decide +kernel), fun S hle hfr => ?_⟩, ?_⟩
           · exact .inr ⟨.inr (.inr ⟨_, _, _, rfl, rfl, (hle.ev (x := .tmp _) rfl (by nofun)), (by rw [hle.nt]; rfl), rfl⟩), rfl, hle.d rfl⟩
           refine ⟨⟨20 :: 16 :: 15 :: 13 :: 2 :: 11 :: 14 :: 12 :: 1 :: 10 :: 5 :: 0 :: 9 :: 4 :: 6 :: 8 :: 3 :: 7 :: [], (by decide +kernel), fun S hle hfr => ?_⟩, ?_⟩
           · exact .inr ⟨.inr (.inr ⟨_, _, _, rfl, rfl, (hle.ev (x := .tmp _) rfl (by nofun)), (by rw [hle.nt]; rfl), rfl⟩), rfl, hle.d rfl⟩
           exact trivial
          case hk28x => rfl
          case hf28x => rfl
          refine aops_und rfl rfl rfl rfl rfl ?_
          refine aops_und rfl rfl rfl rfl rfl ?_
          refine aops_no rfl rfl rfl rfl rfl (by first | decide | (rw [q19]; decide)) ?_
          refine aops_step1 rfl (st_pick_no rfl (by first | rfl | exact q19) rfl rfl) ?_
          refine aops_nil ?_
          refine aw_no rfl (rfl) ?_
          refine aw_skip ?_
          show ∃ _x : Unit, _ = _ ∧ Weak _ _
          exact ⟨(), Option.some.inj j8, (by (refine weak_mk rfl rfl ?_ ?_ rfl <;> repeat' (first | exact trivial | refine ⟨?_, ?_⟩ | exact VLe.refl _ | exact BLe.refl _ | refine VLe.one (CLe.val ?_) | exact VLe.one (CLe.nil _) | exact VLe.one (CLe.emp _))))⟩
        refine aw_seq ?_
        refine aw_region ?_
        refine aops_step1 rfl (st_move rfl rfl) ?_
        refine aops_step1 rfl (st_move rfl rfl) ?_
        refine aops_step1 rfl (st_conv_int rfl rfl Try.underlying5 Try.underlying3 (Md.conv_u8_i64 a1)) ?_
        obtain ⟨x29, hx29, j7⟩ := Md.bind_s j7
        refine aops_step1 rfl (ev_call_v (wire_IntList_fn k a0 ((a1.toNat : Nat) : Int) x29 hx29) rfl [] (by repeat' (first | exact All2.nil | refine All2.cons ?_ ?_ | refine ArgV.one ?_ | refine ArgV.agg ?_ | exact ArgC.mk rfl | exact ArgC.lend rfl (by simp) | exact ArgC.le (CLe.nil _) rfl | exact ArgC.le (CLe.emp _) rfl | exact ArgC.le (CLe.any _) rfl)) rfl rfl rfl (.inl rfl) rfl) ?_
        refine aops_step1 rfl (st_movet rfl rfl) ?_
        refine aops_step1 rfl (ev_extract rfl rfl rfl) ?_
        refine aops_step1 rfl (ev_extract rfl rfl rfl) ?_
        refine aops_step1 rfl (ev_extract rfl rfl rfl) ?_
        refine aops_step1 rfl (st_assign rfl rfl) ?_
        refine aops_step1 rfl (st_assign rfl rfl) ?_
        refine aops_step1 rfl (st_assign rfl rfl) ?_
        refine aops_nil ?_
        rcases Md.bool_or ((x29.2.2 == 0)) with q30 | q30
        · replace j7 := Md.cond_t j7 q30
          rcases Md.bool_or ((decide (x29.2.1 < 1))) with q31 | q31
          · replace j7 := Md.cond_t j7 q31
            refine aw_seq ?_
            apply aw_draw 24 ((⟨[], .one (.val (.int .i64 x29.2.2))⟩ : Add) :: ⟨[], .one (.val (.bool (x29.2.2 == 0)))⟩ :: ⟨[], .one (.val (.bool (x29.2.2 == 0)))⟩ :: ⟨[], .one (.val (.int .i64 x29.2.1))⟩ :: ⟨[], .one (.val (.bool (decide (x29.2.1 < 1))))⟩ :: ⟨[], .one (.val (.bool (decide (x29.2.1 < 1))))⟩ :: ⟨[], .tup []⟩ :: ⟨[], .tup []⟩ :: ⟨[], .tup []⟩ :: ⟨[], .tup []⟩ :: ⟨[], .one (.val (.bool true))⟩ :: ⟨[], .one (.val (.bool true))⟩ :: ⟨[], .tup []⟩ :: ⟨[], .tup []⟩ :: ⟨[], .tup []⟩ :: ⟨[], .tup []⟩ :: ⟨[], .tup []⟩ :: ⟨[], .one (.val (.bool true))⟩ :: ⟨[], .one (.val (.bool true))⟩ :: ⟨[], .tup []⟩ :: ⟨[], .tup []⟩ :: ⟨[], .tup []⟩ :: ⟨[], .tup []⟩ :: ⟨[], .tup []⟩ :: []) (by decide) rfl ?hk29x ?hf29x ?ho29x ?hr29x
            case ho29x =>
             refine ⟨⟨[], (by decide +kernel), fun S hle hfr => ?_⟩, ?_⟩
             · exact .inl ⟨.inl ⟨rfl, rfl⟩, st_move (hle.ev rfl (by nofun)) (hle.d rfl)⟩
             refine ⟨⟨0 :: [], (by decide +kernel), fun S hle hfr => ?_⟩, ?_⟩
             · exact .inl ⟨.inl ⟨rfl, rfl⟩, ev_cmp (hle.ev rfl (by nofun)) (hle.ev rfl (by nofun)) (hle.d rfl) rfl⟩
             refine ⟨⟨1 :: 0 :: [], (by decide +kernel), fun S hle hfr => ?_⟩, ?_⟩
             · exact .inl ⟨.inl ⟨rfl, rfl⟩, st_move (hle.ev rfl (by nofun)) (hle.d rfl)⟩
             refine ⟨⟨2 :: 1 :: 0 :: [], (by decide +kernel), fun S hle hfr => ?_⟩, ?_⟩
             · exact .inl ⟨.inr (.inl ⟨_, _, _, _, rfl, rfl, (hle.ev (x := .tmp _) rfl (by nofun)), (by rw [hle.nt]; rfl), (by first | rfl | (rw [q30]; rfl))⟩), st_move (hle.ev rfl (by nofun)) (hle.d rfl)⟩
             refine ⟨⟨3 :: 2 :: 1 :: 0 :: [], (by decide +kernel), fun S hle hfr => ?_⟩, ?_⟩
             · exact .inl ⟨.inr (.inl ⟨_, _, _, _, rfl, rfl, (hle.ev (x := .tmp _) rfl (by nofun)), (by rw [hle.nt]; rfl), (by first | rfl | (rw [q30]; rfl))⟩), ev_cmp (hle.ev rfl (by nofun)) (hle.ev rfl (by nofun)) (hle.d rfl) rfl⟩
             refine ⟨⟨4 :: 2 :: 3 :: 1 :: 0 :: [], (by decide +kernel), fun S hle hfr => ?_⟩, ?_⟩
             · exact .inl ⟨.inr (.inl ⟨_, _, _, _, rfl, rfl, (hle.ev (x := .tmp _) rfl (by nofun)), (by rw [hle.nt]; rfl), (by first | rfl | (rw [q30]; rfl))⟩), st_move (hle.ev rfl (by nofun)) (hle.d rfl)⟩
             refine ⟨⟨5 :: 4 :: 2 :: 3 :: 1 :: 0 :: [], (by decide +kernel), fun S hle hfr => ?_⟩, ?_⟩
             · exact .inr ⟨.inr (.inl ⟨_, _, _, _, rfl, rfl, (hle.ev (x := .tmp _) rfl (by nofun)), (by rw [hle.nt]; rfl), (by first | rfl | (rw [q31]; rfl))⟩), rfl, hle.d rfl⟩
             refine ⟨⟨5 :: 4 :: 2 :: 3 :: 1 :: 0 :: [], (by decide +kernel), fun S hle hfr => ?_⟩, ?_⟩
             · exact .inr ⟨.inr (.inl ⟨_, _, _, _, rfl, rfl, (hle.ev (x := .tmp _) rfl (by nofun)), (by rw [hle.nt]; rfl), (by first | rfl | (rw [q31]; rfl))⟩), rfl, hle.d rfl⟩
             refine ⟨⟨7 :: 5 :: 4 :: 2 :: 3 :: 1 :: 0 :: [], (by decide +kernel), fun S hle hfr => ?_⟩, ?_⟩
             · exact .inr ⟨.inr (.inl ⟨_, _, _, _, rfl, rfl, (hle.ev (x := .tmp _) rfl (by nofun)), (by rw [hle.nt]; rfl), (by first | rfl | (rw [q31]; rfl))⟩), rfl, hle.d rfl⟩
             refine ⟨⟨6 :: 8 :: 5 :: 7 :: 4 :: 2 :: 3 :: 1 :: 0 :: [], (by decide +kernel), fun S hle hfr => ?_⟩, ?_⟩
             · exact .inr ⟨.inr (.inl ⟨_, _, _, _, rfl, rfl, (hle.ev (x := .tmp _) rfl (by nofun)), (by rw [hle.nt]; rfl), (by first | rfl | (rw [q31]; rfl))⟩), rfl, hle.d rfl⟩
             refine ⟨⟨5 :: 9 :: 2 :: 4 :: 6 :: 8 :: 1 :: 3 :: 7 :: 0 :: [], (by decide +kernel), fun S hle hfr => ?_⟩, ?_⟩
             · exact .inl ⟨.inr (.inl ⟨_, _, _, _, rfl, rfl, (hle.ev (x := .tmp _) rfl (by nofun)), (by rw [hle.nt]; rfl), (by first | rfl | (rw [q30]; rfl))⟩), st_pick_yes (hle.ev rfl (by nofun)) (by first | rfl | exact q31) (hle.ev rfl (by nofun)) (hle.d rfl)⟩
             refine ⟨⟨10 :: 5 :: 2 :: 9 :: 4 :: 1 :: 6 :: 8 :: 3 :: 0 :: 7 :: [], (by decide +kernel), fun S hle hfr => ?_⟩, ?_⟩
             · exact .inl ⟨.inr (.inl ⟨_, _, _, _, rfl, rfl, (hle.ev (x := .tmp _) rfl (by nofun)), (by rw [hle.nt]; rfl), (by first | rfl | (rw [q30]; rfl))⟩), st_move (hle.ev rfl (by nofun)) (hle.d rfl)⟩
             refine ⟨⟨11 :: 10 :: 5 :: 2 :: 9 :: 4 :: 1 :: 6 :: 8 :: 3 :: 0 :: 7 :: [], (by decide +kernel), fun S hle hfr => ?_⟩, ?_⟩
             · exact .inr ⟨.inr (.inl ⟨_, _, _, _, rfl, rfl, (hle.ev (x := .tmp _) rfl (by nofun)), (by rw [hle.nt]; rfl), (by first | rfl | (rw [rfl]; rfl))⟩), rfl, hle.d rfl⟩
             refine ⟨⟨12 :: 11 :: 10 :: 5 :: 2 :: 9 :: 4 :: 1 :: 6 :: 8 :: 3 :: 0 :: 7 :: [], (by decide +kernel), fun S hle hfr => ?_⟩, ?_⟩
             · exact .inr ⟨.inr (.inl ⟨_, _, _, _, rfl, rfl, (hle.ev (x := .tmp _) rfl (by nofun)), (by rw [hle.nt]; rfl), (by first | rfl | (rw [rfl]; rfl))⟩), rfl, hle.d rfl⟩
             refine ⟨⟨11 :: 10 :: 5 :: 2 :: 9 :: 4 :: 1 :: 6 :: 8 :: 3 :: 0 :: 7 :: [], (by decide +kernel), fun S hle hfr => ?_⟩, ?_⟩
             · exact .inr ⟨.inr (.inl ⟨_, _, _, _, rfl, rfl, (hle.ev (x := .tmp _) rfl (by nofun)), (by rw [hle.nt]; rfl), (by first | rfl | (rw [rfl]; rfl))⟩), rfl, hle.d rfl⟩
             refine ⟨⟨14 :: 11 :: 10 :: 5 :: 2 :: 9 :: 4 :: 1 :: 6 :: 8 :: 3 :: 0 :: 7 :: [], (by decide +kernel), fun S hle hfr => ?_⟩, ?_⟩
             · exact .inr ⟨.inr (.inl ⟨_, _, _, _, rfl, rfl, (hle.ev (x := .tmp _) rfl (by nofun)), (by rw [hle.nt]; rfl), (by first | rfl | (rw [rfl]; rfl))⟩), rfl, hle.d rfl⟩
             refine ⟨⟨13 :: 15 :: 11 :: 12 :: 14 :: 10 :: 5 :: 2 :: 9 :: 4 :: 1 :: 6 :: 8 :: 3 :: 0 :: 7 :: [], (by decide +kernel), fun S hle hfr => ?_⟩, ?_⟩
             · exact .inr ⟨.inr (.inl ⟨_, _, _, _, rfl, rfl, (hle.ev (x := .tmp _) rfl (by nofun)), (by rw [hle.nt]; rfl), (by first | rfl | (rw [rfl]; rfl))⟩), rfl, hle.d rfl⟩
             refine ⟨⟨11 :: 16 :: 2 :: 10 :: 5 :: 13 :: 15 :: 1 :: 9 :: 4 :: 12 :: 14 :: 0 :: 6 :: 8 :: 3 :: 7 :: [], (by decide +kernel), fun S hle hfr => ?_⟩, ?_⟩
             · exact .inl ⟨.inr (.inl ⟨_, _, _, _, rfl, rfl, (hle.ev (x := .tmp _) rfl (by nofun)), (by rw [hle.nt]; rfl), (by first | rfl | (rw [q30]; rfl))⟩), st_pick_yes (hle.ev rfl (by nofun)) (by first | rfl | exact rfl) (hle.ev rfl (by nofun)) (hle.d rfl)⟩
             refine ⟨⟨17 :: 11 :: 2 :: 16 :: 10 :: 5 :: 1 :: 13 :: 15 :: 9 :: 4 :: 0 :: 12 :: 14 :: 6 :: 8 :: 3 :: 7 :: [], (by decide +kernel), fun S hle hfr => ?_⟩, ?_⟩
             · exact .inl ⟨.inr (.inl ⟨_, _, _, _, rfl, rfl, (hle.ev (x := .tmp _) rfl (by nofun)), (by rw [hle.nt]; rfl), (by first | rfl | (rw [q30]; rfl))⟩), st_move (hle.ev rfl (by nofun)) (hle.d rfl)⟩
             refine ⟨⟨18 :: 17 :: 11 :: 2 :: 16 :: 10 :: 5 :: 1 :: 13 :: 15 :: 9 :: 4 :: 0 :: 12 :: 14 :: 6 :: 8 :: 3 :: 7 :: [], (by decide +kernel), fun S hle hfr => ?_⟩, ?_⟩
             · exact .inr ⟨.inr (.inl ⟨_, _, _, _, rfl, rfl, (hle.ev (x := .tmp _) rfl (by nofun)), (by rw [hle.nt]; rfl), (by first | rfl | (rw [rfl]; rfl))⟩), rfl, hle.d rfl⟩
             refine ⟨⟨18 :: 17 :: 11 :: 2 :: 16 :: 10 :: 5 :: 1 :: 13 :: 15 :: 9 :: 4 :: 0 :: 12 :: 14 :: 6 :: 8 :: 3 :: 7 :: [], (by decide +kernel), fun S hle hfr => ?_⟩, ?_⟩
             · exact .inr ⟨.inr (.inl ⟨_, _, _, _, rfl, rfl, (hle.ev (x := .tmp _) rfl (by nofun)), (by rw [hle.nt]; rfl), (by first | rfl | (rw [rfl]; rfl))⟩), rfl, hle.d rfl⟩
             refine ⟨⟨19 :: 20 :: 18 :: 17 :: 11 :: 2 :: 16 :: 10 :: 5 :: 1 :: 13 :: 15 :: 9 :: 4 :: 0 :: 12 :: 14 :: 6 :: 8 :: 3 :: 7 :: [], (by decide +kernel), fun S hle hfr => ?_⟩, ?_⟩
             · exact .inr ⟨.inr (.inl ⟨_, _, _, _, rfl, rfl, (hle.ev (x := .tmp _) rfl (by nofun)), (by rw [hle.nt]; rfl), (by first | rfl | (rw [rfl]; rfl))⟩), rfl, hle.d rfl⟩
             refine ⟨⟨18 :: 17 :: 11 :: 2 :: 16 :: 10 :: 5 :: 1 :: 13 :: 15 :: 9 :: 4 :: 0 :: 12 :: 14 :: 6 :: 8 :: 3 :: 7 :: [], (by decide +kernel), fun S hle hfr => ?_⟩, ?_⟩
             · exact .inr ⟨.inr (.inl ⟨_, _, _, _, rfl, rfl, (hle.ev (x := .tmp _) rfl (by nofun)), (by rw [hle.nt]; rfl), (by first | rfl | (rw [rfl]; rfl))⟩), rfl, hle.d rfl⟩
             refine ⟨⟨22 :: 18 :: 17 :: 11 :: 2 :: 16 :: 10 :: 5 :: 1 :: 13 :: 15 :: 9 :: 4 :: 0 :: 12 :: 14 :: 6 :: 8 :: 3 :: 7 :: [], (by decide +kernel), fun S hle hfr => ?_⟩, ?_⟩
             · exact .inr ⟨.inr (.inl ⟨_, _, _, _, rfl, rfl, (hle.ev (x := .tmp _) rfl (by nofun)), (by rw [hle.nt]; rfl), (by first | rfl | (rw [rfl]; rfl))⟩), rfl, hle.d rfl⟩
             exact trivial
            case hk29x => rfl
            case hf29x => rfl
            refine aops_no rfl rfl rfl rfl rfl (by decide) ?_
            refine aops_no rfl rfl rfl rfl rfl (by decide) ?_
            refine aops_yes rfl rfl rfl rfl q30 (st_pick_yes rfl (by first | rfl | exact rfl) rfl rfl) ?_
            refine aops_step1 rfl (st_pick_yes rfl (by first | rfl | exact q30) rfl rfl) ?_
            refine aops_nil ?_
            refine aw_yes rfl (rfl) ?_
            refine aw_seq ?_
            refine aw_region ?_
            refine aops_step1 rfl (st_assign rfl rfl) ?_
            refine aops_nil ?_
            cases Option.some.inj j7
            replace h := Md.onS_r h
            cases Option.some.inj h
            refine aw_ret ⟨rfl, ret_v (.inl ⟨_, rfl, rfl, fun _ e => nomatch e⟩) rfl rfl rfl ?_⟩
            (repeat' (first | exact TLe.refl _ | exact VLe.refl _ | exact CLe.refl _ | exact All2.nil | refine TLe.tup ?_ | refine TLe.v ?_ | refine All2.cons ?_ ?_ | refine VLe.agg ?_ | refine VLe.one ?_ | exact CLe.nil _ | exact CLe.emp _ | refine CLe.val ?_ | refine CLe.slc ?_ ?_))
          replace j7 := Md.cond_f j7 q31
          rcases Md.bool_or ((decide (x29.2.1 > ((a0.length : Nat) : Int)))) with q32 | q32
          · replace j7 := Md.cond_t j7 q32
            refine aw_seq ?_
            apply aw_draw 24 ((⟨[], .one (.val (.int .i64 x29.2.2))⟩ : Add) :: ⟨[], .one (.val (.bool (x29.2.2 == 0)))⟩ :: ⟨[], .one (.val (.bool (x29.2.2 == 0)))⟩ :: ⟨[], .one (.val (.int .i64 x29.2.1))⟩ :: ⟨[], .one (.val (.bool (decide (x29.2.1 < 1))))⟩ :: ⟨[], .one (.val (.bool (decide (x29.2.1 < 1))))⟩ :: ⟨[], .one (.val (.int .i64 x29.2.1))⟩ :: ⟨[], .one (CV.ls byC a0)⟩ :: ⟨[], .one (.val (.int .i64 ((a0.length : Nat) : Int)))⟩ :: ⟨[], .one (.val (.bool (decide (x29.2.1 > ((a0.length : Nat) : Int)))))⟩ :: ⟨[], .one (.val (.bool (decide (x29.2.1 > ((a0.length : Nat) : Int)))))⟩ :: ⟨[], .one (.val (.bool (decide (x29.2.1 > ((a0.length : Nat) : Int)))))⟩ :: ⟨[], .tup []⟩ :: ⟨[], .tup []⟩ :: ⟨[], .tup []⟩ :: ⟨[], .tup []⟩ :: ⟨[], .tup []⟩ :: ⟨[], .one (.val (.bool true))⟩ :: ⟨[], .one (.val (.bool true))⟩ :: ⟨[], .tup []⟩ :: ⟨[], .tup []⟩ :: ⟨[], .tup []⟩ :: ⟨[], .tup []⟩ :: ⟨[], .tup []⟩ :: []) (by decide) rfl ?hk30x ?hf30x ?ho30x ?hr30x
            case ho30x =>
             refine ⟨⟨[], (by decide +kernel), fun S hle hfr => ?_⟩, ?_⟩
             · exact .inl ⟨.inl ⟨rfl, rfl⟩, st_move (hle.ev rfl (by nofun)) (hle.d rfl)⟩
             refine ⟨⟨0 :: [], (by decide +kernel), fun S hle hfr => ?_⟩, ?_⟩
             · exact .inl ⟨.inl ⟨rfl, rfl⟩, ev_cmp (hle.ev rfl (by nofun)) (hle.ev rfl (by nofun)) (hle.d rfl) rfl⟩
             refine ⟨⟨1 :: 0 :: [], (by decide +kernel), fun S hle hfr => ?_⟩, ?_⟩
             · exact .inl ⟨.inl ⟨rfl, rfl⟩, st_move (hle.ev rfl (by nofun)) (hle.d rfl)⟩
             refine ⟨⟨2 :: 1 :: 0 :: [], (by decide +kernel), fun S hle hfr => ?_⟩, ?_⟩
             · exact .inl ⟨.inr (.inl ⟨_, _, _, _, rfl, rfl, (hle.ev (x := .tmp _) rfl (by nofun)), (by rw [hle.nt]; rfl), (by first | rfl | (rw [q30]; rfl))⟩), st_move (hle.ev rfl (by nofun)) (hle.d rfl)⟩
             refine ⟨⟨3 :: 2 :: 1 :: 0 :: [], (by decide +kernel), fun S hle hfr => ?_⟩, ?_⟩
             · exact .inl ⟨.inr (.inl ⟨_, _, _, _, rfl, rfl, (hle.ev (x := .tmp _) rfl (by nofun)), (by rw [hle.nt]; rfl), (by first | rfl | (rw [q30]; rfl))⟩), ev_cmp (hle.ev rfl (by nofun)) (hle.ev rfl (by nofun)) (hle.d rfl) rfl⟩
             refine ⟨⟨4 :: 2 :: 3 :: 1 :: 0 :: [], (by decide +kernel), fun S hle hfr => ?_⟩, ?_⟩
             · exact .inl ⟨.inr (.inl ⟨_, _, _, _, rfl, rfl, (hle.ev (x := .tmp _) rfl (by nofun)), (by rw [hle.nt]; rfl), (by first | rfl | (rw [q30]; rfl))⟩), st_move (hle.ev rfl (by nofun)) (hle.d rfl)⟩
             refine ⟨⟨5 :: 4 :: 2 :: 3 :: 1 :: 0 :: [], (by decide +kernel), fun S hle hfr => ?_⟩, ?_⟩
             · exact .inl ⟨.inr (.inl ⟨_, _, _, _, rfl, rfl, (hle.ev (x := .tmp _) rfl (by nofun)), (by rw [hle.nt]; rfl), (by first | rfl | (rw [q31]; rfl))⟩), st_move (hle.ev rfl (by nofun)) (hle.d rfl)⟩
             refine ⟨⟨5 :: 4 :: 2 :: 3 :: 1 :: 0 :: [], (by decide +kernel), fun S hle hfr => ?_⟩, ?_⟩
             · exact .inl ⟨.inr (.inl ⟨_, _, _, _, rfl, rfl, (hle.ev (x := .tmp _) rfl (by nofun)), (by rw [hle.nt]; rfl), (by first | rfl | (rw [q31]; rfl))⟩), st_move (hle.ev rfl (by nofun)) (hle.d rfl)⟩
             refine ⟨⟨7 :: 5 :: 4 :: 2 :: 3 :: 1 :: 0 :: [], (by decide +kernel), fun S hle hfr => ?_⟩, ?_⟩
             · exact .inl ⟨.inr (.inl ⟨_, _, _, _, rfl, rfl, (hle.ev (x := .tmp _) rfl (by nofun)), (by rw [hle.nt]; rfl), (by first | rfl | (rw [q31]; rfl))⟩), ev_len_slc (hle.ev rfl (by nofun)) (hle.d rfl)⟩
             refine ⟨⟨6 :: 8 :: 5 :: 7 :: 4 :: 2 :: 3 :: 1 :: 0 :: [], (by decide +kernel), fun S hle hfr => ?_⟩, ?_⟩
             · exact .inl ⟨.inr (.inl ⟨_, _, _, _, rfl, rfl, (hle.ev (x := .tmp _) rfl (by nofun)), (by rw [hle.nt]; rfl), (by first | rfl | (rw [q31]; rfl))⟩), ev_cmp (hle.ev rfl (by nofun)) (hle.ev rfl (by nofun)) (hle.d rfl) rfl⟩
             refine ⟨⟨5 :: 9 :: 2 :: 4 :: 6 :: 8 :: 1 :: 3 :: 7 :: 0 :: [], (by decide +kernel), fun S hle hfr => ?_⟩, ?_⟩
             · exact .inl ⟨.inr (.inl ⟨_, _, _, _, rfl, rfl, (hle.ev (x := .tmp _) rfl (by nofun)), (by rw [hle.nt]; rfl), (by first | rfl | (rw [q30]; rfl))⟩), st_pick_no (hle.ev rfl (by nofun)) (by first | rfl | exact q31) (hle.ev rfl (by nofun)) (hle.d rfl)⟩
             refine ⟨⟨10 :: 5 :: 2 :: 9 :: 4 :: 1 :: 6 :: 8 :: 3 :: 0 :: 7 :: [], (by decide +kernel), fun S hle hfr => ?_⟩, ?_⟩
             · exact .inl ⟨.inr (.inl ⟨_, _, _, _, rfl, rfl, (hle.ev (x := .tmp _) rfl (by nofun)), (by rw [hle.nt]; rfl), (by first | rfl | (rw [q30]; rfl))⟩), st_move (hle.ev rfl (by nofun)) (hle.d rfl)⟩
             refine ⟨⟨11 :: 10 :: 5 :: 2 :: 9 :: 4 :: 1 :: 6 :: 8 :: 3 :: 0 :: 7 :: [], (by decide +kernel), fun S hle hfr => ?_⟩, ?_⟩
             · exact .inr ⟨.inr (.inl ⟨_, _, _, _, rfl, rfl, (hle.ev (x := .tmp _) rfl (by nofun)), (by rw [hle.nt]; rfl), (by first | rfl | (rw [q32]; rfl))⟩), rfl, hle.d rfl⟩
             refine ⟨⟨12 :: 11 :: 10 :: 5 :: 2 :: 9 :: 4 :: 1 :: 6 :: 8 :: 3 :: 0 :: 7 :: [], (by decide +kernel), fun S hle hfr => ?_⟩, ?_⟩
             · exact .inr ⟨.inr (.inl ⟨_, _, _, _, rfl, rfl, (hle.ev (x := .tmp _) rfl (by nofun)), (by rw [hle.nt]; rfl), (by first | rfl | (rw [q32]; rfl))⟩), rfl, hle.d rfl⟩
             refine ⟨⟨11 :: 10 :: 5 :: 2 :: 9 :: 4 :: 1 :: 6 :: 8 :: 3 :: 0 :: 7 :: [], (by decide +kernel), fun S hle hfr => ?_⟩, ?_⟩
             · exact .inr ⟨.inr (.inl ⟨_, _, _, _, rfl, rfl, (hle.ev (x := .tmp _) rfl (by nofun)), (by rw [hle.nt]; rfl), (by first | rfl | (rw [q32]; rfl))⟩), rfl, hle.d rfl⟩
             refine ⟨⟨14 :: 11 :: 10 :: 5 :: 2 :: 9 :: 4 :: 1 :: 6 :: 8 :: 3 :: 0 :: 7 :: [], (by decide +kernel), fun S hle hfr => ?_⟩, ?_⟩
             · exact .inr ⟨.inr (.inl ⟨_, _, _, _, rfl, rfl, (hle.ev (x := .tmp _) rfl (by nofun)), (by rw [hle.nt]; rfl), (by first | rfl | (rw [q32]; rfl))⟩), rfl, hle.d rfl⟩
             refine ⟨⟨13 :: 15 :: 11 :: 12 :: 14 :: 10 :: 5 :: 2 :: 9 :: 4 :: 1 :: 6 :: 8 :: 3 :: 0 :: 7 :: [], (by decide +kernel), fun S hle hfr => ?_⟩, ?_⟩
             · exact .inr ⟨.inr (.inl ⟨_, _, _, _, rfl, rfl, (hle.ev (x := .tmp _) rfl (by nofun)), (by rw [hle.nt]; rfl), (by first | rfl | (rw [q32]; rfl))⟩), rfl, hle.d rfl⟩
             refine ⟨⟨11 :: 16 :: 2 :: 10 :: 5 :: 13 :: 15 :: 1 :: 9 :: 4 :: 12 :: 14 :: 0 :: 6 :: 8 :: 3 :: 7 :: [], (by decide +kernel), fun S hle hfr => ?_⟩, ?_⟩
             · exact .inl ⟨.inr (.inl ⟨_, _, _, _, rfl, rfl, (hle.ev (x := .tmp _) rfl (by nofun)), (by rw [hle.nt]; rfl), (by first | rfl | (rw [q30]; rfl))⟩), st_pick_yes (hle.ev rfl (by nofun)) (by first | rfl | exact q32) (hle.ev rfl (by nofun)) (hle.d rfl)⟩
             refine ⟨⟨17 :: 11 :: 2 :: 16 :: 10 :: 5 :: 1 :: 13 :: 15 :: 9 :: 4 :: 0 :: 12 :: 14 :: 6 :: 8 :: 3 :: 7 :: [], (by decide +kernel), fun S hle hfr => ?_⟩, ?_⟩
             · exact .inl ⟨.inr (.inl ⟨_, _, _, _, rfl, rfl, (hle.ev (x := .tmp _) rfl (by nofun)), (by rw [hle.nt]; rfl), (by first | rfl | (rw [q30]; rfl))⟩), st_move (hle.ev rfl (by nofun)) (hle.d rfl)⟩
             refine ⟨⟨18 :: 17 :: 11 :: 2 :: 16 :: 10 :: 5 :: 1 :: 13 :: 15 :: 9 :: 4 :: 0 :: 12 :: 14 :: 6 :: 8 :: 3 :: 7 :: [], (by decide +kernel), fun S hle hfr => ?_⟩, ?_⟩
             · exact .inr ⟨.inr (.inl ⟨_, _, _, _, rfl, rfl, (hle.ev (x := .tmp _) rfl (by nofun)), (by rw [hle.nt]; rfl), (by first | rfl | (rw [rfl]; rfl))⟩), rfl, hle.d rfl⟩
             refine ⟨⟨18 :: 17 :: 11 :: 2 :: 16 :: 10 :: 5 :: 1 :: 13 :: 15 :: 9 :: 4 :: 0 :: 12 :: 14 :: 6 :: 8 :: 3 :: 7 :: [], (by decide +kernel), fun S hle hfr => ?_⟩, ?_⟩
             · exact .inr ⟨.inr (.inl ⟨_, _, _, _, rfl, rfl, (hle.ev (x := .tmp _) rfl (by nofun)), (by rw [hle.nt]; rfl), (by first | rfl | (rw [rfl]; rfl))⟩), rfl, hle.d rfl⟩
             refine ⟨⟨19 :: 20 :: 18 :: 17 :: 11 :: 2 :: 16 :: 10 :: 5 :: 1 :: 13 :: 15 :: 9 :: 4 :: 0 :: 12 :: 14 :: 6 :: 8 :: 3 :: 7 :: [], (by decide +kernel), fun S hle hfr => ?_⟩, ?_⟩
             · exact .inr ⟨.inr (.inl ⟨_, _, _, _, rfl, rfl, (hle.ev (x := .tmp _) rfl (by nofun)), (by rw [hle.nt]; rfl), (by first | rfl | (rw [rfl]; rfl))⟩), rfl, hle.d rfl⟩
             refine ⟨⟨18 :: 17 :: 11 :: 2 :: 16 :: 10 :: 5 :: 1 :: 13 :: 15 :: 9 :: 4 :: 0 :: 12 :: 14 :: 6 :: 8 :: 3 :: 7 :: [], (by decide +kernel), fun S hle hfr => ?_⟩, ?_⟩
             · exact .inr ⟨.inr (.inl ⟨_, _, _, _, rfl, rfl, (hle.ev (x := .tmp _) rfl (by nofun)), (by rw [hle.nt]; rfl), (by first | rfl | (rw [rfl]; rfl))⟩), rfl, hle.d rfl⟩
             refine ⟨⟨22 :: 18 :: 17 :: 11 :: 2 :: 16 :: 10 :: 5 :: 1 :: 13 :: 15 :: 9 :: 4 :: 0 :: 12 :: 14 :: 6 :: 8 :: 3 :: 7 :: [], (by decide +kernel), fun S hle hfr => ?_⟩, ?_⟩
             · exact .inr ⟨.inr (.inl ⟨_, _, _, _, rfl, rfl, (hle.ev (x := .tmp _) rfl (by nofun)), (by rw [hle.nt]; rfl), (by first | rfl | (rw [rfl]; rfl))⟩), rfl, hle.d rfl⟩
             exact trivial
            case hk30x => rfl
            case hf30x => rfl
            refine aops_no rfl rfl rfl rfl rfl (by decide) ?_
            refine aops_no rfl rfl rfl rfl rfl (by decide) ?_
            refine aops_yes rfl rfl rfl rfl q30 (st_pick_yes rfl (by first | rfl | exact rfl) rfl rfl) ?_
            refine aops_step1 rfl (st_pick_yes rfl (by first | rfl | exact q30) rfl rfl) ?_
            refine aops_nil ?_
            refine aw_yes rfl (rfl) ?_
            refine aw_seq ?_
            refine aw_region ?_
            refine aops_step1 rfl (st_assign rfl rfl) ?_
            refine aops_nil ?_
            cases Option.some.inj j7
            replace h := Md.onS_r h
            cases Option.some.inj h
            refine aw_ret ⟨rfl, ret_v (.inl ⟨_, rfl, rfl, fun _ e => nomatch e⟩) rfl rfl rfl ?_⟩
            (repeat' (first | exact TLe.refl _ | exact VLe.refl _ | exact CLe.refl _ | exact All2.nil | refine TLe.tup ?_ | refine TLe.v ?_ | refine All2.cons ?_ ?_ | refine VLe.agg ?_ | refine VLe.one ?_ | exact CLe.nil _ | exact CLe.emp _ | refine CLe.val ?_ | refine CLe.slc ?_ ?_))
          replace j7 := Md.cond_f j7 q32
          rcases Md.bool_or ((decide (((x29.1.length : Nat) : Int) > ((a1.toNat : Nat) : Int)))) with q33 | q33
          · replace j7 := Md.cond_t j7 q33
            refine aw_seq ?_
            apply aw_draw 24 ((⟨[], .one (.val (.int .i64 x29.2.2))⟩ : Add) :: ⟨[], .one (.val (.bool (x29.2.2 == 0)))⟩ :: ⟨[], .one (.val (.bool (x29.2.2 == 0)))⟩ :: ⟨[], .one (.val (.int .i64 x29.2.1))⟩ :: ⟨[], .one (.val (.bool (decide (x29.2.1 < 1))))⟩ :: ⟨[], .one (.val (.bool (decide (x29.2.1 < 1))))⟩ :: ⟨[], .one (.val (.int .i64 x29.2.1))⟩ :: ⟨[], .one (CV.ls byC a0)⟩ :: ⟨[], .one (.val (.int .i64 ((a0.length : Nat) : Int)))⟩ :: ⟨[], .one (.val (.bool (decide (x29.2.1 > ((a0.length : Nat) : Int)))))⟩ :: ⟨[], .one (.val (.bool (decide (x29.2.1 > ((a0.length : Nat) : Int)))))⟩ :: ⟨[], .one (.val (.bool (decide (x29.2.1 > ((a0.length : Nat) : Int)))))⟩ :: ⟨[], .one (CV.ls c_Int x29.1)⟩ :: ⟨[], .one (.val (.int .i64 ((x29.1.length : Nat) : Int)))⟩ :: ⟨[], .one (.val (.int .u8 (a1.toNat : Int)))⟩ :: ⟨[], .one (.val (.int .i64 ((a1.toNat : Nat) : Int)))⟩ :: ⟨[], .one (.val (.bool (decide (((x29.1.length : Nat) : Int) > ((a1.toNat : Nat) : Int)))))⟩ :: ⟨[], .one (.val (.bool (decide (((x29.1.length : Nat) : Int) > ((a1.toNat : Nat) : Int)))))⟩ :: ⟨[], .one (.val (.bool (decide (((x29.1.length : Nat) : Int) > ((a1.toNat : Nat) : Int)))))⟩ :: ⟨[], .tup []⟩ :: ⟨[], .tup []⟩ :: ⟨[], .tup []⟩ :: ⟨[], .tup []⟩ :: ⟨[], .tup []⟩ :: []) (by decide) rfl ?hk31x ?hf31x ?ho31x ?hr31x
            case ho31x =>
             refine ⟨⟨[], (by decide +kernel), fun S hle hfr => ?_⟩, ?_⟩
             · exact .inl ⟨.inl ⟨rfl, rfl⟩, st_move (hle.ev rfl (by nofun)) (hle.d rfl)⟩
             refine ⟨⟨0 :: [], (by decide +kernel), fun S hle hfr => ?_⟩, ?_⟩
             · exact .inl ⟨.inl ⟨rfl, rfl⟩, ev_cmp (hle.ev rfl (by nofun)) (hle.ev rfl (by nofun)) (hle.d rfl) rfl⟩
             refine ⟨⟨1 :: 0 :: [], (by decide +kernel), fun S hle hfr => ?_⟩, ?_⟩
             · exact .inl ⟨.inl ⟨rfl, rfl⟩, st_move (hle.ev rfl (by nofun)) (hle.d rfl)⟩
             refine ⟨⟨2 :: 1 :: 0 :: [], (by decide +kernel), fun S hle hfr => ?_⟩, ?_⟩
             · exact .inl ⟨.inr (.inl ⟨_, _, _, _, rfl, rfl, (hle.ev (x := .tmp _) rfl (by nofun)), (by rw [hle.nt]; rfl), (by first | rfl | (rw [q30]; rfl))⟩), st_move (hle.ev rfl (by nofun)) (hle.d rfl)⟩
             refine ⟨⟨3 :: 2 :: 1 :: 0 :: [], (by decide +kernel), fun S hle hfr => ?_⟩, ?_⟩
             · exact .inl ⟨.inr (.inl ⟨_, _, _, _, rfl, rfl, (hle.ev (x := .tmp _) rfl (by nofun)), (by rw [hle.nt]; rfl), (by first | rfl | (rw [q30]; rfl))⟩), ev_cmp (hle.ev rfl (by nofun)) (hle.ev rfl (by nofun)) (hle.d rfl) rfl⟩
             refine ⟨⟨4 :: 2 :: 3 :: 1 :: 0 :: [], (by decide +kernel), fun S hle hfr => ?_⟩, ?_⟩
             · exact .inl ⟨.inr (.inl ⟨_, _, _, _, rfl, rfl, (hle.ev (x := .tmp _) rfl (by nofun)), (by rw [hle.nt]; rfl), (by first | rfl | (rw [q30]; rfl))⟩), st_move (hle.ev rfl (by nofun)) (hle.d rfl)⟩
             refine ⟨⟨5 :: 4 :: 2 :: 3 :: 1 :: 0 :: [], (by decide +kernel), fun S hle hfr => ?_⟩, ?_⟩
             · exact .inl ⟨.inr (.inl ⟨_, _, _, _, rfl, rfl, (hle.ev (x := .tmp _) rfl (by nofun)), (by rw [hle.nt]; rfl), (by first | rfl | (rw [q31]; rfl))⟩), st_move (hle.ev rfl (by nofun)) (hle.d rfl)⟩
             refine ⟨⟨5 :: 4 :: 2 :: 3 :: 1 :: 0 :: [], (by decide +kernel), fun S hle hfr => ?_⟩, ?_⟩
             · exact .inl ⟨.inr (.inl ⟨_, _, _, _, rfl, rfl, (hle.ev (x := .tmp _) rfl (by nofun)), (by rw [hle.nt]; rfl), (by first | rfl | (rw [q31]; rfl))⟩), st_move (hle.ev rfl (by nofun)) (hle.d rfl)⟩
             refine ⟨⟨7 :: 5 :: 4 :: 2 :: 3 :: 1 :: 0 :: [], (by decide +kernel), fun S hle hfr => ?_⟩, ?_⟩
             · exact .inl ⟨.inr (.inl ⟨_, _, _, _, rfl, rfl, (hle.ev (x := .tmp _) rfl (by nofun)), (by rw [hle.nt]; rfl), (by first | rfl | (rw [q31]; rfl))⟩), ev_len_slc (hle.ev rfl (by nofun)) (hle.d rfl)⟩
             refine ⟨⟨6 :: 8 :: 5 :: 7 :: 4 :: 2 :: 3 :: 1 :: 0 :: [], (by decide +kernel), fun S hle hfr => ?_⟩, ?_⟩
             · exact .inl ⟨.inr (.inl ⟨_, _, _, _, rfl, rfl, (hle.ev (x := .tmp _) rfl (by nofun)), (by rw [hle.nt]; rfl), (by first | rfl | (rw [q31]; rfl))⟩), ev_cmp (hle.ev rfl (by nofun)) (hle.ev rfl (by nofun)) (hle.d rfl) rfl⟩
             refine ⟨⟨5 :: 9 :: 2 :: 4 :: 6 :: 8 :: 1 :: 3 :: 7 :: 0 :: [], (by decide +kernel), fun S hle hfr => ?_⟩, ?_⟩
             · exact .inl ⟨.inr (.inl ⟨_, _, _, _, rfl, rfl, (hle.ev (x := .tmp _) rfl (by nofun)), (by rw [hle.nt]; rfl), (by first | rfl | (rw [q30]; rfl))⟩), st_pick_no (hle.ev rfl (by nofun)) (by first | rfl | exact q31) (hle.ev rfl (by nofun)) (hle.d rfl)⟩
             refine ⟨⟨10 :: 5 :: 2 :: 9 :: 4 :: 1 :: 6 :: 8 :: 3 :: 0 :: 7 :: [], (by decide +kernel), fun S hle hfr => ?_⟩, ?_⟩
             · exact .inl ⟨.inr (.inl ⟨_, _, _, _, rfl, rfl, (hle.ev (x := .tmp _) rfl (by nofun)), (by rw [hle.nt]; rfl), (by first | rfl | (rw [q30]; rfl))⟩), st_move (hle.ev rfl (by nofun)) (hle.d rfl)⟩
             refine ⟨⟨11 :: 10 :: 5 :: 2 :: 9 :: 4 :: 1 :: 6 :: 8 :: 3 :: 0 :: 7 :: [], (by decide +kernel), fun S hle hfr => ?_⟩, ?_⟩
             · exact .inl ⟨.inr (.inl ⟨_, _, _, _, rfl, rfl, (hle.ev (x := .tmp _) rfl (by nofun)), (by rw [hle.nt]; rfl), (by first | rfl | (rw [q32]; rfl))⟩), st_move (hle.ev rfl (by nofun)) (hle.d rfl)⟩
             refine ⟨⟨12 :: 11 :: 10 :: 5 :: 2 :: 9 :: 4 :: 1 :: 6 :: 8 :: 3 :: 0 :: 7 :: [], (by decide +kernel), fun S hle hfr => ?_⟩, ?_⟩
             · exact .inl ⟨.inr (.inl ⟨_, _, _, _, rfl, rfl, (hle.ev (x := .tmp _) rfl (by nofun)), (by rw [hle.nt]; rfl), (by first | rfl | (rw [q32]; rfl))⟩), ev_len_slc (hle.ev rfl (by nofun)) (hle.d rfl)⟩
             refine ⟨⟨11 :: 10 :: 5 :: 2 :: 9 :: 4 :: 1 :: 6 :: 8 :: 3 :: 0 :: 7 :: [], (by decide +kernel), fun S hle hfr => ?_⟩, ?_⟩
             · exact .inl ⟨.inr (.inl ⟨_, _, _, _, rfl, rfl, (hle.ev (x := .tmp _) rfl (by nofun)), (by rw [hle.nt]; rfl), (by first | rfl | (rw [q32]; rfl))⟩), st_move (hle.ev rfl (by nofun)) (hle.d rfl)⟩
             refine ⟨⟨14 :: 11 :: 10 :: 5 :: 2 :: 9 :: 4 :: 1 :: 6 :: 8 :: 3 :: 0 :: 7 :: [], (by decide +kernel), fun S hle hfr => ?_⟩, ?_⟩
             · exact .inl ⟨.inr (.inl ⟨_, _, _, _, rfl, rfl, (hle.ev (x := .tmp _) rfl (by nofun)), (by rw [hle.nt]; rfl), (by first | rfl | (rw [q32]; rfl))⟩), st_conv_int (hle.ev rfl (by nofun)) (hle.d rfl) Try.underlying5 Try.underlying3 (Md.conv_u8_i64 a1)⟩
             refine ⟨⟨13 :: 15 :: 11 :: 12 :: 14 :: 10 :: 5 :: 2 :: 9 :: 4 :: 1 :: 6 :: 8 :: 3 :: 0 :: 7 :: [], (by decide +kernel), fun S hle hfr => ?_⟩, ?_⟩
             · exact .inl ⟨.inr (.inl ⟨_, _, _, _, rfl, rfl, (hle.ev (x := .tmp _) rfl (by nofun)), (by rw [hle.nt]; rfl), (by first | rfl | (rw [q32]; rfl))⟩), ev_cmp (hle.ev rfl (by nofun)) (hle.ev rfl (by nofun)) (hle.d rfl) rfl⟩
             refine ⟨⟨11 :: 16 :: 2 :: 10 :: 5 :: 13 :: 15 :: 1 :: 9 :: 4 :: 12 :: 14 :: 0 :: 6 :: 8 :: 3 :: 7 :: [], (by decide +kernel), fun S hle hfr => ?_⟩, ?_⟩
             · exact .inl ⟨.inr (.inl ⟨_, _, _, _, rfl, rfl, (hle.ev (x := .tmp _) rfl (by nofun)), (by rw [hle.nt]; rfl), (by first | rfl | (rw [q30]; rfl))⟩), st_pick_no (hle.ev rfl (by nofun)) (by first | rfl | exact q32) (hle.ev rfl (by nofun)) (hle.d rfl)⟩
             refine ⟨⟨17 :: 11 :: 2 :: 16 :: 10 :: 5 :: 1 :: 13 :: 15 :: 9 :: 4 :: 0 :: 12 :: 14 :: 6 :: 8 :: 3 :: 7 :: [], (by decide +kernel), fun S hle hfr => ?_⟩, ?_⟩
             · exact .inl ⟨.inr (.inl ⟨_, _, _, _, rfl, rfl, (hle.ev (x := .tmp _) rfl (by nofun)), (by rw [hle.nt]; rfl), (by first | rfl | (rw [q30]; rfl))⟩), st_move (hle.ev rfl (by nofun)) (hle.d rfl)⟩
             refine ⟨⟨18 :: 17 :: 11 :: 2 :: 16 :: 10 :: 5 :: 1 :: 13 :: 15 :: 9 :: 4 :: 0 :: 12 :: 14 :: 6 :: 8 :: 3 :: 7 :: [], (by decide +kernel), fun S hle hfr => ?_⟩, ?_⟩
             · exact .inr ⟨.inr (.inl ⟨_, _, _, _, rfl, rfl, (hle.ev (x := .tmp _) rfl (by nofun)), (by rw [hle.nt]; rfl), (by first | rfl | (rw [q33]; rfl))⟩), rfl, hle.d rfl⟩
             refine ⟨⟨18 :: 17 :: 11 :: 2 :: 16 :: 10 :: 5 :: 1 :: 13 :: 15 :: 9 :: 4 :: 0 :: 12 :: 14 :: 6 :: 8 :: 3 :: 7 :: [], (by decide +kernel), fun S hle hfr => ?_⟩, ?_⟩
             · exact .inr ⟨.inr (.inl ⟨_, _, _, _, rfl, rfl, (hle.ev (x := .tmp _) rfl (by nofun)), (by rw [hle.nt]; rfl), (by first | rfl | (rw [q33]; rfl))⟩), rfl, hle.d rfl⟩
             refine ⟨⟨19 :: 20 :: 18 :: 17 :: 11 :: 2 :: 16 :: 10 :: 5 :: 1 :: 13 :: 15 :: 9 :: 4 :: 0 :: 12 :: 14 :: 6 :: 8 :: 3 :: 7 :: [], (by decide +kernel), fun S hle hfr => ?_⟩, ?_⟩
             · exact .inr ⟨.inr (.inl ⟨_, _, _, _, rfl, rfl, (hle.ev (x := .tmp _) rfl (by nofun)), (by rw [hle.nt]; rfl), (by first | rfl | (rw [q33]; rfl))⟩), rfl, hle.d rfl⟩
             refine ⟨⟨18 :: 17 :: 11 :: 2 :: 16 :: 10 :: 5 :: 1 :: 13 :: 15 :: 9 :: 4 :: 0 :: 12 :: 14 :: 6 :: 8 :: 3 :: 7 :: [], (by decide +kernel), fun S hle hfr => ?_⟩, ?_⟩
             · exact .inr ⟨.inr (.inl ⟨_, _, _, _, rfl, rfl, (hle.ev (x := .tmp _) rfl (by nofun)), (by rw [hle.nt]; rfl), (by first | rfl | (rw [q33]; rfl))⟩), rfl, hle.d rfl⟩
             refine ⟨⟨22 :: 18 :: 17 :: 11 :: 2 :: 16 :: 10 :: 5 :: 1 :: 13 :: 15 :: 9 :: 4 :: 0 :: 12 :: 14 :: 6 :: 8 :: 3 :: 7 :: [], (by decide +kernel), fun S hle hfr => ?_⟩, ?_⟩
             · exact .inr ⟨.inr (.inl ⟨_, _, _, _, rfl, rfl, (hle.ev (x := .tmp _) rfl (by nofun)), (by rw [hle.nt]; rfl), (by first | rfl | (rw [q33]; rfl))⟩), rfl, hle.d rfl⟩
             exact trivial
            case hk31x => rfl
            case hf31x => rfl
            refine aops_no rfl rfl rfl rfl rfl (by first | decide | (rw [q33]; decide)) ?_
            refine aops_no rfl rfl rfl rfl rfl (by first | decide | (rw [q33]; decide)) ?_
            refine aops_yes rfl rfl rfl rfl q30 (st_pick_yes rfl (by first | rfl | exact q33) rfl rfl) ?_
            refine aops_step1 rfl (st_pick_yes rfl (by first | rfl | exact q30) rfl rfl) ?_
            refine aops_nil ?_
            refine aw_yes rfl (rfl) ?_
            refine aw_seq ?_
            refine aw_region ?_
            refine aops_step1 rfl (st_assign rfl rfl) ?_
            refine aops_nil ?_
            cases Option.some.inj j7
            replace h := Md.onS_r h
            cases Option.some.inj h
            refine aw_ret ⟨rfl, ret_v (.inl ⟨_, rfl, rfl, fun _ e => nomatch e⟩) rfl rfl rfl ?_⟩
            (repeat' (first | exact TLe.refl _ | exact VLe.refl _ | exact CLe.refl _ | exact All2.nil | refine TLe.tup ?_ | refine TLe.v ?_ | refine All2.cons ?_ ?_ | refine VLe.agg ?_ | refine VLe.one ?_ | exact CLe.nil _ | exact CLe.emp _ | refine CLe.val ?_ | refine CLe.slc ?_ ?_))
          replace j7 := Md.cond_f j7 q33
          obtain ⟨g34, j7⟩ := Md.ifp_s j7
          obtain ⟨g35, j7⟩ := Md.ifp_s j7
          obtain ⟨x36, hx36, j7⟩ := Md.bind_s j7
          obtain ⟨x37, hx37, j7⟩ := Md.bind_s j7
          refine aw_seq ?_
          apply aw_draw 24 ((⟨[], .one (.val (.int .i64 x29.2.2))⟩ : Add) :: ⟨[], .one (.val (.bool (x29.2.2 == 0)))⟩ :: ⟨[], .one (.val (.bool (x29.2.2 == 0)))⟩ :: ⟨[], .one (.val (.int .i64 x29.2.1))⟩ :: ⟨[], .one (.val (.bool (decide (x29.2.1 < 1))))⟩ :: ⟨[], .one (.val (.bool (decide (x29.2.1 < 1))))⟩ :: ⟨[], .one (.val (.int .i64 x29.2.1))⟩ :: ⟨[], .one (CV.ls byC a0)⟩ :: ⟨[], .one (.val (.int .i64 ((a0.length : Nat) : Int)))⟩ :: ⟨[], .one (.val (.bool (decide (x29.2.1 > ((a0.length : Nat) : Int)))))⟩ :: ⟨[], .one (.val (.bool (decide (x29.2.1 > ((a0.length : Nat) : Int)))))⟩ :: ⟨[], .one (.val (.bool (decide (x29.2.1 > ((a0.length : Nat) : Int)))))⟩ :: ⟨[], .one (CV.ls c_Int x29.1)⟩ :: ⟨[], .one (.val (.int .i64 ((x29.1.length : Nat) : Int)))⟩ :: ⟨[], .one (.val (.int .u8 (a1.toNat : Int)))⟩ :: ⟨[], .one (.val (.int .i64 ((a1.toNat : Nat) : Int)))⟩ :: ⟨[], .one (.val (.bool (decide (((x29.1.length : Nat) : Int) > ((a1.toNat : Nat) : Int)))))⟩ :: ⟨[], .one (.val (.bool (decide (((x29.1.length : Nat) : Int) > ((a1.toNat : Nat) : Int)))))⟩ :: ⟨[], .one (.val (.bool (decide (((x29.1.length : Nat) : Int) > ((a1.toNat : Nat) : Int)))))⟩ :: ⟨[], .one (CV.ls byC a0)⟩ :: ⟨[], .one (.val (.int .i64 x29.2.1))⟩ :: ⟨[], .one (CV.ls byC (a0.take ((x29.2.1).toNat)))⟩ :: ⟨[], .one (CV.ls c_Int x29.1)⟩ :: ⟨[], .one (CV.ls byC x36)⟩ :: []) (by decide) rfl ?hk32x ?hf32x ?ho32x ?hr32x
          case ho32x =>
           refine ⟨⟨[], (by decide +kernel), fun S hle hfr => ?_⟩, ?_⟩
           · exact .inl ⟨.inl ⟨rfl, rfl⟩, st_move (hle.ev rfl (by nofun)) (hle.d rfl)⟩
           refine ⟨⟨0 :: [], (by decide +kernel), fun S hle hfr => ?_⟩, ?_⟩
           · exact .inl ⟨.inl ⟨rfl, rfl⟩, ev_cmp (hle.ev rfl (by nofun)) (hle.ev rfl (by nofun)) (hle.d rfl) rfl⟩
           refine ⟨⟨1 :: 0 :: [], (by decide +kernel), fun S hle hfr => ?_⟩, ?_⟩
           · exact .inl ⟨.inl ⟨rfl, rfl⟩, st_move (hle.ev rfl (by nofun)) (hle.d rfl)⟩
           refine ⟨⟨2 :: 1 :: 0 :: [], (by decide +kernel), fun S hle hfr => ?_⟩, ?_⟩
           · exact .inl ⟨.inr (.inl ⟨_, _, _, _, rfl, rfl, (hle.ev (x := .tmp _) rfl (by nofun)), (by rw [hle.nt]; rfl), (by first | rfl | (rw [q30]; rfl))⟩), st_move (hle.ev rfl (by nofun)) (hle.d rfl)⟩
           refine ⟨⟨3 :: 2 :: 1 :: 0 :: [], (by decide +kernel), fun S hle hfr => ?_⟩, ?_⟩
           · exact .inl ⟨.inr (.inl ⟨_, _, _, _, rfl, rfl, (hle.ev (x := .tmp _) rfl (by nofun)), (by rw [hle.nt]; rfl), (by first | rfl | (rw [q30]; rfl))⟩), ev_cmp (hle.ev rfl (by nofun)) (hle.ev rfl (by nofun)) (hle.d rfl) rfl⟩
           refine ⟨⟨4 :: 2 :: 3 :: 1 :: 0 :: [], (by decide +kernel), fun S hle hfr => ?_⟩, ?_⟩
           · exact .inl ⟨.inr (.inl ⟨_, _, _, _, rfl, rfl, (hle.ev (x := .tmp _) rfl (by nofun)), (by rw [hle.nt]; rfl), (by first | rfl | (rw [q30]; rfl))⟩), st_move (hle.ev rfl (by nofun)) (hle.d rfl)⟩
           refine ⟨⟨5 :: 4 :: 2 :: 3 :: 1 :: 0 :: [], (by decide +kernel), fun S hle hfr => ?_⟩, ?_⟩
           · exact .inl ⟨.inr (.inl ⟨_, _, _, _, rfl, rfl, (hle.ev (x := .tmp _) rfl (by nofun)), (by rw [hle.nt]; rfl), (by first | rfl | (rw [q31]; rfl))⟩), st_move (hle.ev rfl (by nofun)) (hle.d rfl)⟩
           refine ⟨⟨5 :: 4 :: 2 :: 3 :: 1 :: 0 :: [], (by decide +kernel), fun S hle hfr => ?_⟩, ?_⟩
           · exact .inl ⟨.inr (.inl ⟨_, _, _, _, rfl, rfl, (hle.ev (x := .tmp _) rfl (by nofun)), (by rw [hle.nt]; rfl), (by first | rfl | (rw [q31]; rfl))⟩), st_move (hle.ev rfl (by nofun)) (hle.d rfl)⟩
           refine ⟨⟨7 :: 5 :: 4 :: 2 :: 3 :: 1 :: 0 :: [], (by decide +kernel), fun S hle hfr => ?_⟩, ?_⟩
           · exact .inl ⟨.inr (.inl ⟨_, _, _, _, rfl, rfl, (hle.ev (x := .tmp _) rfl (by nofun)), (by rw [hle.nt]; rfl), (by first | rfl | (rw [q31]; rfl))⟩), ev_len_slc (hle.ev rfl (by nofun)) (hle.d rfl)⟩
           refine ⟨⟨6 :: 8 :: 5 :: 7 :: 4 :: 2 :: 3 :: 1 :: 0 :: [], (by decide +kernel), fun S hle hfr => ?_⟩, ?_⟩
           · exact .inl ⟨.inr (.inl ⟨_, _, _, _, rfl, rfl, (hle.ev (x := .tmp _) rfl (by nofun)), (by rw [hle.nt]; rfl), (by first | rfl | (rw [q31]; rfl))⟩), ev_cmp (hle.ev rfl (by nofun)) (hle.ev rfl (by nofun)) (hle.d rfl) rfl⟩
           refine ⟨⟨5 :: 9 :: 2 :: 4 :: 6 :: 8 :: 1 :: 3 :: 7 :: 0 :: [], (by decide +kernel), fun S hle hfr => ?_⟩, ?_⟩
           · exact .inl ⟨.inr (.inl ⟨_, _, _, _, rfl, rfl, (hle.ev (x := .tmp _) rfl (by nofun)), (by rw [hle.nt]; rfl), (by first | rfl | (rw [q30]; rfl))⟩), st_pick_no (hle.ev rfl (by nofun)) (by first | rfl | exact q31) (hle.ev rfl (by nofun)) (hle.d rfl)⟩
           refine ⟨⟨10 :: 5 :: 2 :: 9 :: 4 :: 1 :: 6 :: 8 :: 3 :: 0 :: 7 :: [], (by decide +kernel), fun S hle hfr => ?_⟩, ?_⟩
           · exact .inl ⟨.inr (.inl ⟨_, _, _, _, rfl, rfl, (hle.ev (x := .tmp _) rfl (by nofun)), (by rw [hle.nt]; rfl), (by first | rfl | (rw [q30]; rfl))⟩), st_move (hle.ev rfl (by nofun)) (hle.d rfl)⟩
           refine ⟨⟨11 :: 10 :: 5 :: 2 :: 9 :: 4 :: 1 :: 6 :: 8 :: 3 :: 0 :: 7 :: [], (by decide +kernel), fun S hle hfr => ?_⟩, ?_⟩
           · exact .inl ⟨.inr (.inl ⟨_, _, _, _, rfl, rfl, (hle.ev (x := .tmp _) rfl (by nofun)), (by rw [hle.nt]; rfl), (by first | rfl | (rw [q32]; rfl))⟩), st_move (hle.ev rfl (by nofun)) (hle.d rfl)⟩
           refine ⟨⟨12 :: 11 :: 10 :: 5 :: 2 :: 9 :: 4 :: 1 :: 6 :: 8 :: 3 :: 0 :: 7 :: [], (by decide +kernel), fun S hle hfr => ?_⟩, ?_⟩
           · exact .inl ⟨.inr (.inl ⟨_, _, _, _, rfl, rfl, (hle.ev (x := .tmp _) rfl (by nofun)), (by rw [hle.nt]; rfl), (by first | rfl | (rw [q32]; rfl))⟩), ev_len_slc (hle.ev rfl (by nofun)) (hle.d rfl)⟩
           refine ⟨⟨11 :: 10 :: 5 :: 2 :: 9 :: 4 :: 1 :: 6 :: 8 :: 3 :: 0 :: 7 :: [], (by decide +kernel), fun S hle hfr => ?_⟩, ?_⟩
           · exact .inl ⟨.inr (.inl ⟨_, _, _, _, rfl, rfl, (hle.ev (x := .tmp _) rfl (by nofun)), (by rw [hle.nt]; rfl), (by first | rfl | (rw [q32]; rfl))⟩), st_move (hle.ev rfl (by nofun)) (hle.d rfl)⟩
           refine ⟨⟨14 :: 11 :: 10 :: 5 :: 2 :: 9 :: 4 :: 1 :: 6 :: 8 :: 3 :: 0 :: 7 :: [], (by decide +kernel), fun S hle hfr => ?_⟩, ?_⟩
           · exact .inl ⟨.inr (.inl ⟨_, _, _, _, rfl, rfl, (hle.ev (x := .tmp _) rfl (by nofun)), (by rw [hle.nt]; rfl), (by first | rfl | (rw [q32]; rfl))⟩), st_conv_int (hle.ev rfl (by nofun)) (hle.d rfl) Try.underlying5 Try.underlying3 (Md.conv_u8_i64 a1)⟩
           refine ⟨⟨13 :: 15 :: 11 :: 12 :: 14 :: 10 :: 5 :: 2 :: 9 :: 4 :: 1 :: 6 :: 8 :: 3 :: 0 :: 7 :: [], (by decide +kernel), fun S hle hfr => ?_⟩, ?_⟩
           · exact .inl ⟨.inr (.inl ⟨_, _, _, _, rfl, rfl, (hle.ev (x := .tmp _) rfl (by nofun)), (by rw [hle.nt]; rfl), (by first | rfl | (rw [q32]; rfl))⟩), ev_cmp (hle.ev rfl (by nofun)) (hle.ev rfl (by nofun)) (hle.d rfl) rfl⟩
           refine ⟨⟨11 :: 16 :: 2 :: 10 :: 5 :: 13 :: 15 :: 1 :: 9 :: 4 :: 12 :: 14 :: 0 :: 6 :: 8 :: 3 :: 7 :: [], (by decide +kernel), fun S hle hfr => ?_⟩, ?_⟩
           · exact .inl ⟨.inr (.inl ⟨_, _, _, _, rfl, rfl, (hle.ev (x := .tmp _) rfl (by nofun)), (by rw [hle.nt]; rfl), (by first | rfl | (rw [q30]; rfl))⟩), st_pick_no (hle.ev rfl (by nofun)) (by first | rfl | exact q32) (hle.ev rfl (by nofun)) (hle.d rfl)⟩
           refine ⟨⟨17 :: 11 :: 2 :: 16 :: 10 :: 5 :: 1 :: 13 :: 15 :: 9 :: 4 :: 0 :: 12 :: 14 :: 6 :: 8 :: 3 :: 7 :: [], (by decide +kernel), fun S hle hfr => ?_⟩, ?_⟩
           · exact .inl ⟨.inr (.inl ⟨_, _, _, _, rfl, rfl, (hle.ev (x := .tmp _) rfl (by nofun)), (by rw [hle.nt]; rfl), (by first | rfl | (rw [q30]; rfl))⟩), st_move (hle.ev rfl (by nofun)) (hle.d rfl)⟩
           refine ⟨⟨18 :: 17 :: 11 :: 2 :: 16 :: 10 :: 5 :: 1 :: 13 :: 15 :: 9 :: 4 :: 0 :: 12 :: 14 :: 6 :: 8 :: 3 :: 7 :: [], (by decide +kernel), fun S hle hfr => ?_⟩, ?_⟩
           · exact .inl ⟨.inr (.inl ⟨_, _, _, _, rfl, rfl, (hle.ev (x := .tmp _) rfl (by nofun)), (by rw [hle.nt]; rfl), (by first | rfl | (rw [q33]; rfl))⟩), st_move (hle.ev rfl (by nofun)) (hle.d rfl)⟩
           refine ⟨⟨18 :: 17 :: 11 :: 2 :: 16 :: 10 :: 5 :: 1 :: 13 :: 15 :: 9 :: 4 :: 0 :: 12 :: 14 :: 6 :: 8 :: 3 :: 7 :: [], (by decide +kernel), fun S hle hfr => ?_⟩, ?_⟩
           · exact .inl ⟨.inr (.inl ⟨_, _, _, _, rfl, rfl, (hle.ev (x := .tmp _) rfl (by nofun)), (by rw [hle.nt]; rfl), (by first | rfl | (rw [q33]; rfl))⟩), st_move (hle.ev rfl (by nofun)) (hle.d rfl)⟩
           refine ⟨⟨19 :: 20 :: 18 :: 17 :: 11 :: 2 :: 16 :: 10 :: 5 :: 1 :: 13 :: 15 :: 9 :: 4 :: 0 :: 12 :: 14 :: 6 :: 8 :: 3 :: 7 :: [], (by decide +kernel), fun S hle hfr => ?_⟩, ?_⟩
           · exact .inl ⟨.inr (.inl ⟨_, _, _, _, rfl, rfl, (hle.ev (x := .tmp _) rfl (by nofun)), (by rw [hle.nt]; rfl), (by first | rfl | (rw [q33]; rfl))⟩), st_cut_hi (f := byC) (fun _ => rfl) (hle.ev rfl (by nofun)) ⟨_, _, (hle.ev rfl (by nofun)), (Md.nn_eq g34)⟩ g35 (hle.d rfl)⟩
           refine ⟨⟨18 :: 17 :: 11 :: 2 :: 16 :: 10 :: 5 :: 1 :: 13 :: 15 :: 9 :: 4 :: 0 :: 12 :: 14 :: 6 :: 8 :: 3 :: 7 :: [], (by decide +kernel), fun S hle hfr => ?_⟩, ?_⟩
           · exact .inl ⟨.inr (.inl ⟨_, _, _, _, rfl, rfl, (hle.ev (x := .tmp _) rfl (by nofun)), (by rw [hle.nt]; rfl), (by first | rfl | (rw [q33]; rfl))⟩), st_move (hle.ev rfl (by nofun)) (hle.d rfl)⟩
           refine ⟨⟨22 :: 18 :: 17 :: 11 :: 2 :: 16 :: 10 :: 5 :: 1 :: 13 :: 15 :: 9 :: 4 :: 0 :: 12 :: 14 :: 6 :: 8 :: 3 :: 7 :: [], (by decide +kernel), fun S hle hfr => ?_⟩, ?_⟩
           · exact .inl ⟨.inr (.inl ⟨_, _, _, _, rfl, rfl, (hle.ev (x := .tmp _) rfl (by nofun)), (by rw [hle.nt]; rfl), (by first | rfl | (rw [q33]; rfl))⟩), st_call_z (wire_AppendInts_fn k ([] : List UInt8) x29.1 x36 hx36) (map_ev (.cons (hle.ev rfl (by nofun)) (.cons (hle.ev rfl (by nofun)) (.nil)))) [] (fun _ => (by repeat' (first | exact All2.nil | refine All2.cons ?_ ?_ | refine ArgV.one ?_ | refine ArgV.agg ?_ | exact ArgC.mk rfl | exact ArgC.lend (hle.heap _ _ rfl) (by simp) | exact ArgC.le (CLe.nil _) rfl | exact ArgC.le (CLe.emp _) rfl | exact ArgC.le (CLe.any _) rfl))) rfl (.inl rfl) (hle.d rfl)⟩
           exact trivial
          case hk32x => rfl
          case hf32x => rfl
          refine aops_yes rfl rfl rfl rfl q33 (ev_call_v (actorgridlaw1_same_fn k (a0.take ((x29.2.1).toNat)) x36 x37 hx37) rfl [] (by repeat' (first | exact All2.nil | refine All2.cons ?_ ?_ | refine ArgV.one ?_ | refine ArgV.agg ?_ | exact ArgC.mk rfl | exact ArgC.lend rfl (by simp) | exact ArgC.le (CLe.nil _) rfl | exact ArgC.le (CLe.emp _) rfl | exact ArgC.le (CLe.any _) rfl)) rfl rfl rfl (.inl rfl) rfl) ?_
          refine aops_yes rfl rfl rfl rfl q33 (ev_not rfl rfl) ?_
          refine aops_yes rfl rfl rfl rfl q30 (st_pick_no rfl (by first | rfl | exact q33) rfl rfl) ?_
          refine aops_step1 rfl (st_pick_yes rfl (by first | rfl | exact q30) rfl rfl) ?_
          refine aops_nil ?_
          refine aw_cond rfl (fun c38 => ?_) (fun c38 => ?_)
          · replace j7 := Md.cond_t j7 c38
            refine aw_seq ?_
            refine aw_region ?_
            refine aops_step1 rfl (st_assign rfl rfl) ?_
            refine aops_nil ?_
            cases Option.some.inj j7
            replace h := Md.onS_r h
            cases Option.some.inj h
            refine aw_ret ⟨rfl, ret_v (.inl ⟨_, rfl, rfl, fun _ e => nomatch e⟩) rfl rfl rfl ?_⟩
            (repeat' (first | exact TLe.refl _ | exact VLe.refl _ | exact CLe.refl _ | exact All2.nil | refine TLe.tup ?_ | refine TLe.v ?_ | refine All2.cons ?_ ?_ | refine VLe.agg ?_ | refine VLe.one ?_ | exact CLe.nil _ | exact CLe.emp _ | refine CLe.val ?_ | refine CLe.slc ?_ ?_))
          replace j7 := Md.cond_f j7 c38
          refine aw_skip ?_
          show ∃ _x : Unit, _ = _ ∧ Weak _ _
          exact ⟨(), Option.some.inj j7, (by (refine weak_mk rfl rfl ?_ ?_ rfl <;> repeat' (first | exact trivial | refine ⟨?_, ?_⟩ | exact VLe.refl _ | exact BLe.refl _ | refine VLe.one (CLe.val ?_) | exact VLe.one (CLe.nil _) | exact VLe.one (CLe.emp _))))⟩
        replace j7 := Md.cond_f j7 q30
        refine aw_seq ?_
        apply aw_draw 24 ((⟨[], .one (.val (.int .i64 x29.2.2))⟩ : Add) :: ⟨[], .one (.val (.bool (x29.2.2 == 0)))⟩ :: ⟨[], .one (.val (.bool (x29.2.2 == 0)))⟩ :: ⟨[], .tup []⟩ :: ⟨[], .tup []⟩ :: ⟨[], .tup []⟩ :: ⟨[], .tup []⟩ :: ⟨[], .tup []⟩ :: ⟨[], .tup []⟩ :: ⟨[], .tup []⟩ :: ⟨[], .tup []⟩ :: ⟨[], .tup []⟩ :: ⟨[], .tup []⟩ :: ⟨[], .tup []⟩ :: ⟨[], .tup []⟩ :: ⟨[], .tup []⟩ :: ⟨[], .tup []⟩ :: ⟨[], .tup []⟩ :: ⟨[], .tup []⟩ :: ⟨[], .tup []⟩ :: ⟨[], .tup []⟩ :: ⟨[], .tup []⟩ :: ⟨[], .tup []⟩ :: ⟨[], .tup []⟩ :: []) (by decide) rfl ?hk33x ?hf33x ?ho33x ?hr33x
        case ho33x =>
         refine ⟨⟨[], (by decide +kernel), fun S hle hfr => ?_⟩, ?_⟩
         · exact .inl ⟨.inl ⟨rfl, rfl⟩, st_move (hle.ev rfl (by nofun)) (hle.d rfl)⟩
         refine ⟨⟨0 :: [], (by decide +kernel), fun S hle hfr => ?_⟩, ?_⟩
         · exact .inl ⟨.inl ⟨rfl, rfl⟩, ev_cmp (hle.ev rfl (by nofun)) (hle.ev rfl (by nofun)) (hle.d rfl) rfl⟩
         refine ⟨⟨1 :: 0 :: [], (by decide +kernel), fun S hle hfr => ?_⟩, ?_⟩
         · exact .inl ⟨.inl ⟨rfl, rfl⟩, st_move (hle.ev rfl (by nofun)) (hle.d rfl)⟩
         refine ⟨⟨2 :: 1 :: 0 :: [], (by decide +kernel), fun S hle hfr => ?_⟩, ?_⟩
         · exact .inr ⟨.inr (.inl ⟨_, _, _, _, rfl, rfl, (hle.ev (x := .tmp _) rfl (by nofun)), (by rw [hle.nt]; rfl), (by first | rfl | (rw [q30]; rfl))⟩), rfl, hle.d rfl⟩
         refine ⟨⟨3 :: 2 :: 1 :: 0 :: [], (by decide +kernel), fun S hle hfr => ?_⟩, ?_⟩
         · exact .inr ⟨.inr (.inl ⟨_, _, _, _, rfl, rfl, (hle.ev (x := .tmp _) rfl (by nofun)), (by rw [hle.nt]; rfl), (by first | rfl | (rw [q30]; rfl))⟩), rfl, hle.d rfl⟩
         refine ⟨⟨4 :: 2 :: 3 :: 1 :: 0 :: [], (by decide +kernel), fun S hle hfr => ?_⟩, ?_⟩
         · exact .inr ⟨.inr (.inl ⟨_, _, _, _, rfl, rfl, (hle.ev (x := .tmp _) rfl (by nofun)), (by rw [hle.nt]; rfl), (by first | rfl | (rw [q30]; rfl))⟩), rfl, hle.d rfl⟩
         refine ⟨⟨5 :: 4 :: 2 :: 3 :: 1 :: 0 :: [], (by decide +kernel), fun S hle hfr => ?_⟩, ?_⟩
         · exact .inr ⟨.inr (.inr ⟨_, _, _, rfl, rfl, (hle.ev (x := .tmp _) rfl (by nofun)), (by rw [hle.nt]; rfl), rfl⟩), rfl, hle.d rfl⟩
         refine ⟨⟨5 :: 4 :: 2 :: 3 :: 1 :: 0 :: [], (by decide +kernel), fun S hle hfr => ?_⟩, ?_⟩
         · exact .inr ⟨.inr (.inr ⟨_, _, _, rfl, rfl, (hle.ev (x := .tmp _) rfl (by nofun)), (by rw [hle.nt]; rfl), rfl⟩), rfl, hle.d rfl⟩
         refine ⟨⟨7 :: 5 :: 4 :: 2 :: 3 :: 1 :: 0 :: [], (by decide +kernel), fun S hle hfr => ?_⟩, ?_⟩
         · exact .inr ⟨.inr (.inr ⟨_, _, _, rfl, rfl, (hle.ev (x := .tmp _) rfl (by nofun)), (by rw [hle.nt]; rfl), rfl⟩), rfl, hle.d rfl⟩
         refine ⟨⟨6 :: 8 :: 5 :: 7 :: 4 :: 2 :: 3 :: 1 :: 0 :: [], (by decide +kernel), fun S hle hfr => ?_⟩, ?_⟩
         · exact .inr ⟨.inr (.inr ⟨_, _, _, rfl, rfl, (hle.ev (x := .tmp _) rfl (by nofun)), (by rw [hle.nt]; rfl), rfl⟩), rfl, hle.d rfl⟩
         refine ⟨⟨5 :: 9 :: 2 :: 4 :: 6 :: 8 :: 1 :: 3 :: 7 :: 0 :: [], (by decide +kernel), fun S hle hfr => ?_⟩, ?_⟩
         · exact .inr ⟨.inr (.inl ⟨_, _, _, _, rfl, rfl, (hle.ev (x := .tmp _) rfl (by nofun)), (by rw [hle.nt]; rfl), (by first | rfl | (rw [q30]; rfl))⟩), rfl, hle.d rfl⟩
         refine ⟨⟨10 :: 5 :: 2 :: 9 :: 4 :: 1 :: 6 :: 8 :: 3 :: 0 :: 7 :: [], (by decide +kernel), fun S hle hfr => ?_⟩, ?_⟩
         · exact .inr ⟨.inr (.inl ⟨_, _, _, _, rfl, rfl, (hle.ev (x := .tmp _) rfl (by nofun)), (by rw [hle.nt]; rfl), (by first | rfl | (rw [q30]; rfl))⟩), rfl, hle.d rfl⟩
         refine ⟨⟨11 :: 10 :: 5 :: 2 :: 9 :: 4 :: 1 :: 6 :: 8 :: 3 :: 0 :: 7 :: [], (by decide +kernel), fun S hle hfr => ?_⟩, ?_⟩
         · exact .inr ⟨.inr (.inr ⟨_, _, _, rfl, rfl, (hle.ev (x := .tmp _) rfl (by nofun)), (by rw [hle.nt]; rfl), rfl⟩), rfl, hle.d rfl⟩
         refine ⟨⟨12 :: 11 :: 10 :: 5 :: 2 :: 9 :: 4 :: 1 :: 6 :: 8 :: 3 :: 0 :: 7 :: [], (by decide +kernel), fun S hle hfr => ?_⟩, ?_⟩
         · exact .inr ⟨.inr (.inr ⟨_, _, _, rfl, rfl, (hle.ev (x := .tmp _) rfl (by nofun)), (by rw [hle.nt]; rfl), rfl⟩), rfl, hle.d rfl⟩
         refine ⟨⟨11 :: 10 :: 5 :: 2 :: 9 :: 4 :: 1 :: 6 :: 8 :: 3 :: 0 :: 7 :: [], (by decide +kernel), fun S hle hfr => ?_⟩, ?_⟩
         · exact .inr ⟨.inr (.inr ⟨_, _, _, rfl, rfl, (hle.ev (x := .tmp _) rfl (by nofun)), (by rw [hle.nt]; rfl), rfl⟩), rfl, hle.d rfl⟩
         refine ⟨⟨14 :: 11 :: 10 :: 5 :: 2 :: 9 :: 4 :: 1 :: 6 :: 8 :: 3 :: 0 :: 7 :: [], (by decide +kernel), fun S hle hfr => ?_⟩, ?_⟩
         · exact .inr ⟨.inr (.inr ⟨_, _, _, rfl, rfl, (hle.ev (x := .tmp _) rfl (by nofun)), (by rw [hle.nt]; rfl), rfl⟩), rfl, hle.d rfl⟩
         refine ⟨⟨13 :: 15 :: 11 :: 12 :: 14 :: 10 :: 5 :: 2 :: 9 :: 4 :: 1 :: 6 :: 8 :: 3 :: 0 :: 7 :: [], (by decide +kernel), fun S hle hfr => ?_⟩, ?_⟩
         · exact .inr ⟨.inr (.inr ⟨_, _, _, rfl, rfl, (hle.ev (x := .tmp _) rfl (by nofun)), (by rw [hle.nt]; rfl), rfl⟩), rfl, hle.d rfl⟩
         refine ⟨⟨11 :: 16 :: 2 :: 10 :: 5 :: 13 :: 15 :: 1 :: 9 :: 4 :: 12 :: 14 :: 0 :: 6 :: 8 :: 3 :: 7 :: [], (by decide +kernel), fun S hle hfr => ?_⟩, ?_⟩
         · exact .inr ⟨.inr (.inl ⟨_, _, _, _, rfl, rfl, (hle.ev (x := .tmp _) rfl (by nofun)), (by rw [hle.nt]; rfl), (by first | rfl | (rw [q30]; rfl))⟩), rfl, hle.d rfl⟩
         refine ⟨⟨17 :: 11 :: 2 :: 16 :: 10 :: 5 :: 1 :: 13 :: 15 :: 9 :: 4 :: 0 :: 12 :: 14 :: 6 :: 8 :: 3 :: 7 :: [], (by decide +kernel), fun S hle hfr => ?_⟩, ?_⟩
         · exact .inr ⟨.inr (.inl ⟨_, _, _, _, rfl, rfl, (hle.ev (x := .tmp _) rfl (by nofun)), (by rw [hle.nt]; rfl), (by first | rfl | (rw [q30]; rfl))⟩), rfl, hle.d rfl⟩
         refine ⟨⟨18 :: 17 :: 11 :: 2 :: 16 :: 10 :: 5 :: 1 :: 13 :: 15 :: 9 :: 4 :: 0 :: 12 :: 14 :: 6 :: 8 :: 3 :: 7 :: [], (by decide +kernel), fun S hle hfr => ?_⟩, ?_⟩
         · exact .inr ⟨.inr (.inr ⟨_, _, _, rfl, rfl, (hle.ev (x := .tmp _) rfl (by nofun)), (by rw [hle.nt]; rfl), rfl⟩), rfl, hle.d rfl⟩
         refine ⟨⟨18 :: 17 :: 11 :: 2 :: 16 :: 10 :: 5 :: 1 :: 13 :: 15 :: 9 :: 4 :: 0 :: 12 :: 14 :: 6 :: 8 :: 3 :: 7 :: [], (by decide +kernel), fun S hle hfr => ?_⟩, ?_⟩
         · exact .inr ⟨.inr (.inr ⟨_, _, _, rfl, rfl, (hle.ev (x := .tmp _) rfl (by nofun)), (by rw [hle.nt]; rfl), rfl⟩), rfl, hle.d rfl⟩
         refine ⟨⟨19 :: 20 :: 18 :: 17 :: 11 :: 2 :: 16 :: 10 :: 5 :: 1 :: 13 :: 15 :: 9 :: 4 :: 0 :: 12 :: 14 :: 6 :: 8 :: 3 :: 7 :: [], (by decide +kernel), fun S hle hfr => ?_⟩, ?_⟩
         · exact .inr ⟨.inr (.inr ⟨_, _, _, rfl, rfl, (hle.ev (x := .tmp _) rfl (by nofun)), (by rw [hle.nt]; rfl), rfl⟩), rfl, hle.d rfl⟩
         refine ⟨⟨18 :: 17 :: 11 :: 2 :: 16 :: 10 :: 5 :: 1 :: 13 :: 15 :: 9 :: 4 :: 0 :: 12 :: 14 :: 6 :: 8 :: 3 :: 7 :: [], (by decide +kernel), fun S hle hfr => ?_⟩, ?_⟩
         · exact .inr ⟨.inr (.inr ⟨_, _, _, rfl, rfl, (hle.ev (x := .tmp _) rfl (by nofun)), (by rw [hle.nt]; rfl), rfl⟩), rfl, hle.d rfl⟩
         refine ⟨⟨22 :: 18 :: 17 :: 11 :: 2 :: 16 :: 10 :: 5 :: 1 :: 13 :: 15 :: 9 :: 4 :: 0 :: 12 :: 14 :: 6 :: 8 :: 3 :: 7 :: [], (by decide +kernel), fun S hle hfr => ?_⟩, ?_⟩
         · exact .inr ⟨.inr (.inr ⟨_, _, _, rfl, rfl, (hle.ev (x := .tmp _) rfl (by nofun)), (by rw [hle.nt]; rfl), rfl⟩), rfl, hle.d rfl⟩
         exact trivial
        case hk33x => rfl
        case hf33x => rfl
        refine aops_und rfl rfl rfl rfl rfl ?_
        refine aops_und rfl rfl rfl rfl rfl ?_
        refine aops_no rfl rfl rfl rfl rfl (by first | decide | (rw [q30]; decide)) ?_
        refine aops_step1 rfl (st_pick_no rfl (by first | rfl | exact q30) rfl rfl) ?_
        refine aops_nil ?_
        refine aw_no rfl (rfl) ?_
        refine aw_skip ?_
        show ∃ _x : Unit, _ = _ ∧ Weak _ _
        exact ⟨(), Option.some.inj j7, (by (refine weak_mk rfl rfl ?_ ?_ rfl <;> repeat' (first | exact trivial | refine ⟨?_, ?_⟩ | exact VLe.refl _ | exact BLe.refl _ | refine VLe.one (CLe.val ?_) | exact VLe.one (CLe.nil _) | exact VLe.one (CLe.emp _))))⟩
      refine aw_seq ?_
      refine aw_region ?_
      refine aops_step1 rfl (st_move rfl rfl) ?_
      refine aops_step1 rfl (st_move rfl rfl) ?_
      refine aops_step1 rfl (st_conv_int rfl rfl Try.underlying5 Try.underlying3 (Md.conv_u8_i64 a1)) ?_
      obtain ⟨x39, hx39, j6⟩ := Md.bind_s j6
      refine aops_step1 rfl (ev_call_v (wire_String_fn k a0 ((a1.toNat : Nat) : Int) x39 hx39) rfl [] (by repeat' (first | exact All2.nil | refine All2.cons ?_ ?_ | refine ArgV.one ?_ | refine ArgV.agg ?_ | exact ArgC.mk rfl | exact ArgC.lend rfl (by simp) | exact ArgC.le (CLe.nil _) rfl | exact ArgC.le (CLe.emp _) rfl | exact ArgC.le (CLe.any _) rfl)) rfl rfl rfl (.inl rfl) rfl) ?_
      refine aops_step1 rfl (st_movet rfl rfl) ?_
      refine aops_step1 rfl (ev_extract rfl rfl rfl) ?_
      refine aops_step1 rfl (ev_extract rfl rfl rfl) ?_
      refine aops_step1 rfl (ev_extract rfl rfl rfl) ?_
      refine aops_step1 rfl (st_assign rfl rfl) ?_
      refine aops_step1 rfl (st_assign rfl rfl) ?_
      refine aops_step1 rfl (st_assign rfl rfl) ?_
      refine aops_nil ?_
      rcases Md.bool_or ((x39.2.2 == 0)) with q40 | q40
      · replace j6 := Md.cond_t j6 q40
        rcases Md.bool_or ((decide (x39.2.1 < 1))) with q41 | q41
        · replace j6 := Md.cond_t j6 q41
          refine aw_seq ?_
          apply aw_draw 24 ((⟨[], .one (.val (.int .i64 x39.2.2))⟩ : Add) :: ⟨[], .one (.val (.bool (x39.2.2 == 0)))⟩ :: ⟨[], .one (.val (.bool (x39.2.2 == 0)))⟩ :: ⟨[], .one (.val (.int .i64 x39.2.1))⟩ :: ⟨[], .one (.val (.bool (decide (x39.2.1 < 1))))⟩ :: ⟨[], .one (.val (.bool (decide (x39.2.1 < 1))))⟩ :: ⟨[], .tup []⟩ :: ⟨[], .tup []⟩ :: ⟨[], .tup []⟩ :: ⟨[], .tup []⟩ :: ⟨[], .one (.val (.bool true))⟩ :: ⟨[], .one (.val (.bool true))⟩ :: ⟨[], .tup []⟩ :: ⟨[], .tup []⟩ :: ⟨[], .tup []⟩ :: ⟨[], .tup []⟩ :: ⟨[], .tup []⟩ :: ⟨[], .one (.val (.bool true))⟩ :: ⟨[], .one (.val (.bool true))⟩ :: ⟨[], .tup []⟩ :: ⟨[], .tup []⟩ :: ⟨[], .tup []⟩ :: ⟨[], .tup []⟩ :: ⟨[], .tup []⟩ :: []) (by decide) rfl ?hk34x ?hf34x ?ho34x ?hr34x
          case ho34x =>
           refine ⟨⟨[], (by decide +kernel), fun S hle hfr => ?_⟩, ?_⟩
           · exact .inl ⟨.inl ⟨rfl, rfl⟩, st_move (hle.ev rfl (by nofun)) (hle.d rfl)⟩
           refine ⟨⟨0 :: [], (by decide +kernel), fun S hle hfr => ?_⟩, ?_⟩
           · exact .inl ⟨.inl ⟨rfl, rfl⟩, ev_cmp (hle.ev rfl (by nofun)) (hle.ev rfl (by nofun)) (hle.d rfl) rfl⟩
           refine ⟨⟨1 :: 0 :: [], (by decide +kernel), fun S hle hfr => ?_⟩, ?_⟩
           · exact .inl ⟨.inl ⟨rfl, rfl⟩, st_move (hle.ev rfl (by nofun)) (hle.d rfl)⟩
           refine ⟨⟨2 :: 1 :: 0 :: [], (by decide +kernel), fun S hle hfr => ?_⟩, ?_⟩
           · exact .inl ⟨.inr (.inl ⟨_, _, _, _, rfl, rfl, (hle.ev (x := .tmp _) rfl (by nofun)), (by rw [hle.nt]; rfl), (by first | rfl | (rw [q40]; rfl))⟩), st_move (hle.ev rfl (by nofun)) (hle.d rfl)⟩
           refine ⟨⟨3 :: 2 :: 1 :: 0 :: [], (by decide +kernel), fun S hle hfr => ?_⟩, ?_⟩
           · exact .inl ⟨.inr (.inl ⟨_, _, _, _, rfl, rfl, (hle.ev (x := .tmp _) rfl (by nofun)), (by rw [hle.nt]; rfl), (by first | rfl | (rw [q40]; rfl))⟩), ev_cmp (hle.ev rfl (by nofun)) (hle.ev rfl (by nofun)) (hle.d rfl) rfl⟩
           refine ⟨⟨4 :: 2 :: 3 :: 1 :: 0 :: [], (by decide +kernel), fun S hle hfr => ?_⟩, ?_⟩
           · exact .inl ⟨.inr (.inl ⟨_, _, _, _, rfl, rfl, (hle.ev (x := .tmp _) rfl (by nofun)), (by rw [hle.nt]; rfl), (by first | rfl | (rw [q40]; rfl))⟩), st_move (hle.ev rfl (by nofun)) (hle.d rfl)⟩
           refine ⟨⟨5 :: 4 :: 2 :: 3 :: 1 :: 0 :: [], (by decide +kernel), fun S hle hfr => ?_⟩, ?_⟩
           · exact .inr ⟨.inr (.inl ⟨_, _, _, _, rfl, rfl, (hle.ev (x := .tmp _) rfl (by nofun)), (by rw [hle.nt]; rfl), (by first | rfl | (rw [q41]; rfl))⟩), rfl, hle.d rfl⟩
           refine ⟨⟨5 :: 4 :: 2 :: 3 :: 1 :: 0 :: [], (by decide +kernel), fun S hle hfr => ?_⟩, ?_⟩
           · exact .inr ⟨.inr (.inl ⟨_, _, _, _, rfl, rfl, (hle.ev (x := .tmp _) rfl (by nofun)), (by rw [hle.nt]; rfl), (by first | rfl | (rw [q41]; rfl))⟩), rfl, hle.d rfl⟩
           refine ⟨⟨7 :: 5 :: 4 :: 2 :: 3 :: 1 :: 0 :: [], (by decide +kernel), fun S hle hfr => ?_⟩, ?_⟩
           · exact .inr ⟨.inr (.inl ⟨_, _, _, _, rfl, rfl, (hle.ev (x := .tmp _) rfl (by nofun)), (by rw [hle.nt]; rfl), (by first | rfl | (rw [q41]; rfl))⟩), rfl, hle.d rfl⟩
           refine ⟨⟨6 :: 8 :: 5 :: 7 :: 4 :: 2 :: 3 :: 1 :: 0 :: [], (by decide +kernel), fun S hle hfr => ?_⟩, ?_⟩
           · exact .inr ⟨.inr (.inl ⟨_, _, _, _, rfl, rfl, (hle.ev (x := .tmp _) rfl (by nofun)), (by rw [hle.nt]; rfl), (by first | rfl | (rw [q41]; rfl))⟩), rfl, hle.d rfl⟩
           refine ⟨⟨5 :: 9 :: 2 :: 4 :: 6 :: 8 :: 1 :: 3 :: 7 :: 0 :: [], (by decide +kernel), fun S hle hfr => ?_⟩, ?_⟩
           · exact .inl ⟨.inr (.inl ⟨_, _, _, _, rfl, rfl, (hle.ev (x := .tmp _) rfl (by nofun)), (by rw [hle.nt]; rfl), (by first | rfl | (rw [q40]; rfl))⟩), st_pick_yes (hle.ev rfl (by nofun)) (by first | rfl | exact q41) (hle.ev rfl (by nofun)) (hle.d rfl)⟩
           refine ⟨⟨10 :: 5 :: 2 :: 9 :: 4 :: 1 :: 6 :: 8 :: 3 :: 0 :: 7 :: [], (by decide +kernel), fun S hle hfr => ?_⟩, ?_⟩
           · exact .inl ⟨.inr (.inl ⟨_, _, _, _, rfl, rfl, (hle.ev (x := .tmp _) rfl (by nofun)), (by rw [hle.nt]; rfl), (by first | rfl | (rw [q40]; rfl))⟩), st_move (hle.ev rfl (by nofun)) (hle.d rfl)⟩
           refine ⟨⟨11 :: 10 :: 5 :: 2 :: 9 :: 4 :: 1 :: 6 :: 8 :: 3 :: 0 :: 7 :: [], (by decide +kernel), fun S hle hfr => ?_⟩, ?_⟩
           · exact .inr ⟨.inr (.inl ⟨_, _, _, _, rfl, rfl, (hle.ev (x := .tmp _) rfl (by nofun)), (by rw [hle.nt]; rfl), (by first | rfl | (rw [rfl]; rfl))⟩), rfl, hle.d rfl⟩
           refine ⟨⟨12 :: 11 :: 10 :: 5 :: 2 :: 9 :: 4 :: 1 :: 6 :: 8 :: 3 :: 0 :: 7 :: [], (by decide +kernel), fun S hle hfr => ?_⟩, ?_⟩
           · exact .inr ⟨.inr (.inl ⟨_, _, _, _, rfl, rfl, (hle.ev (x := .tmp _) rfl (by nofun)), (by rw [hle.nt]; rfl), (by first | rfl | (rw [rfl]; rfl))⟩), rfl, hle.d rfl⟩
           refine ⟨⟨11 :: 10 :: 5 :: 2 :: 9 :: 4 :: 1 :: 6 :: 8 :: 3 :: 0 :: 7 :: [], (by decide +kernel), fun S hle hfr => ?_⟩, ?_⟩
           · exact .inr ⟨.inr (.inl ⟨_, _, _, _, rfl, rfl, (hle.ev (x := .tmp _) rfl (by nofun)), (by rw [hle.nt]; rfl), (by first | rfl | (rw [rfl]; rfl))⟩), rfl, hle.d rfl⟩
           refine ⟨⟨14 :: 11 :: 10 :: 5 :: 2 :: 9 :: 4 :: 1 :: 6 :: 8 :: 3 :: 0 :: 7 :: [], (by decide +kernel), fun S hle hfr => ?_⟩, ?_⟩
           · exact .inr ⟨.inr (.inl ⟨_, _, _, _, rfl, rfl, (hle.ev (x := .tmp _) rfl (by nofun)), (by rw [hle.nt]; rfl), (by first | rfl | (rw [rfl]; rfl))⟩), rfl, hle.d rfl⟩
           refine ⟨⟨13 :: 15 :: 11 :: 12 :: 14 :: 10 :: 5 :: 2 :: 9 :: 4 :: 1 :: 6 :: 8 :: 3 :: 0 :: 7 :: [], (by decide +kernel), fun S hle hfr => ?_⟩, ?_⟩
           · exact .inr ⟨.inr (.inl ⟨_, _, _, _, rfl, rfl, (hle.ev (x := .tmp _) rfl (by nofun)), (by rw [hle.nt]; rfl), (by first | rfl | (rw [rfl]; rfl))⟩), rfl, hle.d rfl⟩
           refine ⟨⟨11 :: 16 :: 2 :: 10 :: 5 :: 13 :: 15 :: 1 :: 9 :: 4 :: 12 :: 14 :: 0 :: 6 :: 8 :: 3 :: 7 :: [], (by decide +kernel), fun S hle hfr => ?_⟩, ?_⟩
           · exact .inl ⟨.inr (.inl ⟨_, _, _, _, rfl, rfl, (hle.ev (x := .tmp _) rfl (by nofun)), (by rw [hle.nt]; rfl), (by first | rfl | (rw [q40]; rfl))⟩), st_pick_yes (hle.ev rfl (by nofun)) (by first | rfl | exact rfl) (hle.ev rfl (by nofun)) (hle.d rfl)⟩
           refine ⟨⟨17 :: 11 :: 2 :: 16 :: 10 :: 5 :: 1 :: 13 :: 15 :: 9 :: 4 :: 0 :: 12 :: 14 :: 6 :: 8 :: 3 :: 7 :: [], (by decide +kernel), fun S hle hfr => ?_⟩, ?_⟩
           · exact .inl ⟨.inr (.inl ⟨_, _, _, _, rfl, rfl, (hle.ev (x := .tmp _) rfl (by nofun)), (by rw [hle.nt]; rfl), (by first | rfl | (rw [q40]; rfl))⟩), st_move (hle.ev rfl (by nofun)) (hle.d rfl)⟩
           refine ⟨⟨18 :: 17 :: 11 :: 2 :: 16 :: 10 :: 5 :: 1 :: 13 :: 15 :: 9 :: 4 :: 0 :: 12 :: 14 :: 6 :: 8 :: 3 :: 7 :: [], (by decide +kernel), fun S hle hfr => ?_⟩, ?_⟩
           · exact .inr ⟨.inr (.inl ⟨_, _, _, _, rfl, rfl, (hle.ev (x := .tmp _) rfl (by nofun)), (by rw [hle.nt]; rfl), (by first | rfl | (rw [rfl]; rfl))⟩), rfl, hle.d rfl⟩
           refine ⟨⟨18 :: 17 :: 11 :: 2 :: 16 :: 10 :: 5 :: 1 :: 13 :: 15 :: 9 :: 4 :: 0 :: 12 :: 14 :: 6 :: 8 :: 3 :: 7 :: [], (by decide +kernel), fun S hle hfr => ?_⟩, ?_⟩
           · exact .inr ⟨.inr (.inl ⟨_, _, _, _, rfl, rfl, (hle.ev (x := .tmp _) rfl (by nofun)), (by rw [hle.nt]; rfl), (by first | rfl | (rw [rfl]; rfl))⟩), rfl, hle.d rfl⟩
           refine ⟨⟨19 :: 20 :: 18 :: 17 :: 11 :: 2 :: 16 :: 10 :: 5 :: 1 :: 13 :: 15 :: 9 :: 4 :: 0 :: 12 :: 14 :: 6 :: 8 :: 3 :: 7 :: [], (by decide +kernel), fun S hle hfr => ?_⟩, ?_⟩
           · exact .inr ⟨.inr (.inl ⟨_, _, _, _, rfl, rfl, (hle.ev (x := .tmp _) rfl (by nofun)), (by rw [hle.nt]; rfl), (by first | rfl | (rw [rfl]; rfl))⟩), rfl, hle.d rfl⟩
           refine ⟨⟨18 :: 17 :: 11 :: 2 :: 16 :: 10 :: 5 :: 1 :: 13 :: 15 :: 9 :: 4 :: 0 :: 12 :: 14 :: 6 :: 8 :: 3 :: 7 :: [], (by decide +kernel), fun S hle hfr => ?_⟩, ?_⟩
           · exact .inr ⟨.inr (.inl ⟨_, _, _, _, rfl, rfl, (hle.ev (x := .tmp _) rfl (by nofun)), (by rw [hle.nt]; rfl), (by first | rfl | (rw [rfl]; rfl))⟩), rfl, hle.d rfl⟩
           refine ⟨⟨22 :: 18 :: 17 :: 11 :: 2 :: 16 :: 10 :: 5 :: 1 :: 13 :: 15 :: 9 :: 4 :: 0 :: 12 :: 14 :: 6 :: 8 :: 3 :: 7 :: [], (by decide +kernel), fun S hle hfr => ?_⟩, ?_⟩
           · exact .inr ⟨.inr (.inl ⟨_, _, _, _, rfl, rfl, (hle.ev (x := .tmp _) rfl (by nofun)), (by rw [hle.nt]; rfl), (by first | rfl | (rw [rfl]; rfl))⟩), rfl, hle.d rfl⟩
           exact trivial
          case hk34x => rfl
          case hf34x => rfl
          refine aops_no rfl rfl rfl rfl rfl (by decide) ?_
          refine aops_no rfl rfl rfl rfl rfl (by decide) ?_
          refine aops_yes rfl rfl rfl rfl q40 (st_pick_yes rfl (by first | rfl | exact rfl) rfl rfl) ?_
          refine aops_step1 rfl (st_pick_yes rfl (by first | rfl | exact q40) rfl rfl) ?_
          refine aops_nil ?_
          refine aw_yes rfl (rfl) ?_
          refine aw_seq ?_
          refine aw_region ?_
          refine aops_step1 rfl (st_assign rfl rfl) ?_
          refine aops_nil ?_
          cases Option.some.inj j6
          replace h := Md.onS_r h
          cases Option.some.inj h
          refine aw_ret ⟨rfl, ret_v (.inl ⟨_, rfl, rfl, fun _ e => nomatch e⟩) rfl rfl rfl ?_⟩
          (repeat' (first | exact TLe.refl _ | exact VLe.refl _ | exact CLe.refl _ | exact All2.nil | refine TLe.tup ?_ | refine TLe.v ?_ | refine All2.cons ?_ ?_ | refine VLe.agg ?_ | refine VLe.one ?_ | exact CLe.nil _ | exact CLe.emp _ | refine CLe.val ?_ | refine CLe.slc ?_ ?_))
        replace j6 := Md.cond_f j6 q41
        rcases Md.bool_or ((decide (x39.2.1 > ((a0.length : Nat) : Int)))) with q42 | q42
        · replace j6 := Md.cond_t j6 q42
          refine aw_seq ?_
          apply aw_draw 24 ((⟨[], .one (.val (.int .i64 x39.2.2))⟩ : Add) :: ⟨[], .one (.val (.bool (x39.2.2 == 0)))⟩ :: ⟨[], .one (.val (.bool (x39.2.2 == 0)))⟩ :: ⟨[], .one (.val (.int .i64 x39.2.1))⟩ :: ⟨[], .one (.val (.bool (decide (x39.2.1 < 1))))⟩ :: ⟨[], .one (.val (.bool (decide (x39.2.1 < 1))))⟩ :: ⟨[], .one (.val (.int .i64 x39.2.1))⟩ :: ⟨[], .one (CV.ls byC a0)⟩ :: ⟨[], .one (.val (.int .i64 ((a0.length : Nat) : Int)))⟩ :: ⟨[], .one (.val (.bool (decide (x39.2.1 > ((a0.length : Nat) : Int)))))⟩ :: ⟨[], .one (.val (.bool (decide (x39.2.1 > ((a0.length : Nat) : Int)))))⟩ :: ⟨[], .one (.val (.bool (decide (x39.2.1 > ((a0.length : Nat) : Int)))))⟩ :: ⟨[], .tup []⟩ :: ⟨[], .tup []⟩ :: ⟨[], .tup []⟩ :: ⟨[], .tup []⟩ :: ⟨[], .tup []⟩ :: ⟨[], .one (.val (.bool true))⟩ :: ⟨[], .one (.val (.bool true))⟩ :: ⟨[], .tup []⟩ :: ⟨[], .tup []⟩ :: ⟨[], .tup []⟩ :: ⟨[], .tup []⟩ :: ⟨[], .tup []⟩ :: []) (by decide) rfl ?hk35x ?hf35x ?ho35x ?hr35x
          case ho35x =>
           refine ⟨⟨[], (by decide +kernel), fun S hle hfr => ?_⟩, ?_⟩
           · exact .inl ⟨.inl ⟨rfl, rfl⟩, st_move (hle.ev rfl (by nofun)) (hle.d rfl)⟩
           refine ⟨⟨0 :: [], (by decide +kernel), fun S hle hfr => ?_⟩, ?_⟩
           · exact .inl ⟨.inl ⟨rfl, rfl⟩, ev_cmp (hle.ev rfl (by nofun)) (hle.ev rfl (by nofun)) (hle.d rfl) rfl⟩
           refine ⟨⟨1 :: 0 :: [], (by decide +kernel), fun S hle hfr => ?_⟩, ?_⟩
           · exact .inl ⟨.inl ⟨rfl, rfl⟩, st_move (hle.ev rfl (by nofun)) (hle.d rfl)⟩
           refine ⟨⟨2 :: 1 :: 0 :: [], (by decide +kernel), fun S hle hfr => ?_⟩, ?_⟩
           · exact .inl ⟨.inr (.inl ⟨_, _, _, _, rfl, rfl, (hle.ev (x := .tmp _) rfl (by nofun)), (by rw [hle.nt]; rfl), (by first | rfl | (rw [q40]; rfl))⟩), st_move (hle.ev rfl (by nofun)) (hle.d rfl)⟩
           refine ⟨⟨3 :: 2 :: 1 :: 0 :: [], (by decide +kernel), fun S hle hfr => ?_⟩, ?_⟩
           · exact .inl ⟨.inr (.inl ⟨_, _, _, _, rfl, rfl, (hle.ev (x := .tmp _) rfl (by nofun)), (by rw [hle.nt]; rfl), (by first | rfl | (rw [q40]; rfl))⟩), ev_cmp (hle.ev rfl (by nofun)) (hle.ev rfl (by nofun)) (hle.d rfl) rfl⟩
           refine ⟨⟨4 :: 2 :: 3 :: 1 :: 0 :: [], (by decide +kernel), fun S hle hfr => ?_⟩, ?_⟩
           · exact .inl ⟨.inr (.inl ⟨_, _, _, _, rfl, rfl, (hle.ev (x := .tmp _) rfl (by nofun)), (by rw [hle.nt]; rfl), (by first | rfl | (rw [q40]; rfl))⟩), st_move (hle.ev rfl (by nofun)) (hle.d rfl)⟩
           refine ⟨⟨5 :: 4 :: 2 :: 3 :: 1 :: 0 :: [], (by decide +kernel), fun S hle hfr => ?_⟩, ?_⟩
           · exact .inl ⟨.inr (.inl ⟨_, _, _, _, rfl, rfl, (hle.ev (x := .tmp _) rfl (by nofun)), (by rw [hle.nt]; rfl), (by first | rfl | (rw [q41]; rfl))⟩), st_move (hle.ev rfl (by nofun)) (hle.d rfl)⟩
           refine ⟨⟨5 :: 4 :: 2 :: 3 :: 1 :: 0 :: [], (by decide +kernel), fun S hle hfr => ?_⟩, ?_⟩
           · exact .inl ⟨.inr (.inl ⟨_, _, _, _, rfl, rfl, (hle.ev (x := .tmp _) rfl (by nofun)), (by rw [hle.nt]; rfl), (by first | rfl | (rw [q41]; rfl))⟩), st_move (hle.ev rfl (by nofun)) (hle.d rfl)⟩
           refine ⟨⟨7 :: 5 :: 4 :: 2 :: 3 :: 1 :: 0 :: [], (by decide +kernel), fun S hle hfr => ?_⟩, ?_⟩
           · exact .inl ⟨.inr (.inl ⟨_, _, _, _, rfl, rfl, (hle.ev (x := .tmp _) rfl (by nofun)), (by rw [hle.nt]; rfl), (by first | rfl | (rw [q41]; rfl))⟩), ev_len_slc (hle.ev rfl (by nofun)) (hle.d rfl)⟩
           refine ⟨⟨6 :: 8 :: 5 :: 7 :: 4 :: 2 :: 3 :: 1 :: 0 :: [], (by decide +kernel), fun S hle hfr => ?_⟩, ?_⟩
           · exact .inl ⟨.inr (.inl ⟨_, _, _, _, rfl, rfl, (hle.ev (x := .tmp _) rfl (by nofun)), (by rw [hle.nt]; rfl), (by first | rfl | (rw [q41]; rfl))⟩), ev_cmp (hle.ev rfl (by nofun)) (hle.ev rfl (by nofun)) (hle.d rfl) rfl⟩
           refine ⟨⟨5 :: 9 :: 2 :: 4 :: 6 :: 8 :: 1 :: 3 :: 7 :: 0 :: [], (by decide +kernel), fun S hle hfr => ?_⟩, ?_⟩
           · exact .inl ⟨.inr (.inl ⟨_, _, _, _, rfl, rfl, (hle.ev (x := .tmp _) rfl (by nofun)), (by rw [hle.nt]; rfl), (by first | rfl | (rw [q40]; rfl))⟩), st_pick_no (hle.ev rfl (by nofun)) (by first | rfl | exact q41) (hle.ev rfl (by nofun)) (hle.d rfl)⟩
           refine ⟨⟨10 :: 5 :: 2 :: 9 :: 4 :: 1 :: 6 :: 8 :: 3 :: 0 :: 7 :: [], (by decide +kernel), fun S hle hfr => ?_⟩, ?_⟩
           · exact .inl ⟨.inr (.inl ⟨_, _, _, _, rfl, rfl, (hle.ev (x := .tmp _) rfl (by nofun)), (by rw [hle.nt]; rfl), (by first | rfl | (rw [q40]; rfl))⟩), st_move (hle.ev rfl (by nofun)) (hle.d rfl)⟩
           refine ⟨⟨11 :: 10 :: 5 :: 2 :: 9 :: 4 :: 1 :: 6 :: 8 :: 3 :: 0 :: 7 :: [], (by decide +kernel), fun S hle hfr => ?_⟩, ?_⟩
           · exact .inr ⟨.inr (.inl ⟨_, _, _, _, rfl, rfl, (hle.ev (x := .tmp _) rfl (by nofun)), (by rw [hle.nt]; rfl), (by first | rfl | (rw [q42]; rfl))⟩), rfl, hle.d rfl⟩
           refine ⟨⟨12 :: 11 :: 10 :: 5 :: 2 :: 9 :: 4 :: 1 :: 6 :: 8 :: 3 :: 0 :: 7 :: [], (by decide +kernel), fun S hle hfr => ?_⟩, ?_⟩
           · exact .inr ⟨.inr (.inl ⟨_, _, _, _, rfl, rfl, (hle.ev (x := .tmp _) rfl (by nofun)), (by rw [hle.nt]; rfl), (by first | rfl | (rw [q42]; rfl))⟩), rfl, hle.d rfl⟩
           refine ⟨⟨11 :: 10 :: 5 :: 2 :: 9 :: 4 :: 1 :: 6 :: 8 :: 3 :: 0 :: 7 :: [], (by decide +kernel), fun S hle hfr => ?_⟩, ?_⟩
           · exact .inr ⟨.inr (.inl ⟨_, _, _, _, rfl, rfl, (hle.ev (x := .tmp _) rfl (by nofun)), (by rw [hle.nt]; rfl), (by first | rfl | (rw [q42]; rfl))⟩), rfl, hle.d rfl⟩
           refine ⟨⟨14 :: 11 :: 10 :: 5 :: 2 :: 9 :: 4 :: 1 :: 6 :: 8 :: 3 :: 0 :: 7 :: [], (by decide +kernel), fun S hle hfr => ?_⟩, ?_⟩
           · exact .inr ⟨.inr (.inl ⟨_, _, _, _, rfl, rfl, (hle.ev (x := .tmp _) rfl (by nofun)), (by rw [hle.nt]; rfl), (by first | rfl | (rw [q42]; rfl))⟩), rfl, hle.d rfl⟩
           refine ⟨⟨13 :: 15 :: 11 :: 12 :: 14 :: 10 :: 5 :: 2 :: 9 :: 4 :: 1 :: 6 :: 8 :: 3 :: 0 :: 7 :: [], (by decide +kernel), fun S hle hfr => ?_⟩, ?_⟩
           · exact .inr ⟨.inr (.inl ⟨_, _, _, _, rfl, rfl, (hle.ev (x := .tmp _) rfl (by nofun)), (by rw [hle.nt]; rfl), (by first | rfl | (rw [q42]; rfl))⟩), rfl, hle.d rfl⟩
           refine ⟨⟨11 :: 16 :: 2 :: 10 :: 5 :: 13 :: 15 :: 1 :: 9 :: 4 :: 12 :: 14 :: 0 :: 6 :: 8 :: 3 :: 7 :: [], (by decide +kernel), fun S hle hfr => ?_⟩, ?_⟩
           · exact .inl ⟨.inr (.inl ⟨_, _, _, _, rfl, rfl, (hle.ev (x := .tmp _) rfl (by nofun)), (by rw [hle.nt]; rfl), (by first | rfl | (rw [q40]; rfl))⟩), st_pick_yes (hle.ev rfl (by nofun)) (by first | rfl | exact q42) (hle.ev rfl (by nofun)) (hle.d rfl)⟩
           refine ⟨⟨17 :: 11 :: 2 :: 16 :: 10 :: 5 :: 1 :: 13 :: 15 :: 9 :: 4 :: 0 :: 12 :: 14 :: 6 :: 8 :: 3 :: 7 :: [], (by decide +kernel), fun S hle hfr => ?_⟩, ?_⟩
           · exact .inl ⟨.inr (.inl ⟨_, _, _, _, rfl, rfl, (hle.ev (x := .tmp _) rfl (by nofun)), (by rw [hle.nt]; rfl), (by first | rfl | (rw [q40]; rfl))⟩), st_move (hle.ev rfl (by nofun)) (hle.d rfl)⟩
           refine ⟨⟨18 :: 17 :: 11 :: 2 :: 16 :: 10 :: 5 :: 1 :: 13 :: 15 :: 9 :: 4 :: 0 :: 12 :: 14 :: 6 :: 8 :: 3 :: 7 :: [], (by decide +kernel), fun S hle hfr => ?_⟩, ?_⟩
           · exact .inr ⟨.inr (.inl ⟨_, _, _, _, rfl, rfl, (hle.ev (x := .tmp _) rfl (by nofun)), (by rw [hle.nt]; rfl), (by first | rfl | (rw [rfl]; rfl))⟩), rfl, hle.d rfl⟩
           refine ⟨⟨18 :: 17 :: 11 :: 2 :: 16 :: 10 :: 5 :: 1 :: 13 :: 15 :: 9 :: 4 :: 0 :: 12 :: 14 :: 6 :: 8 :: 3 :: 7 :: [], (by decide +kernel), fun S hle hfr => ?_⟩, ?_⟩
           · exact .inr ⟨.inr (.inl ⟨_, _, _, _, rfl, rfl, (hle.ev (x := .tmp _) rfl (by nofun)), (by rw [hle.nt]; rfl), (by first | rfl | (rw [rfl]; rfl))⟩), rfl, hle.d rfl⟩
           refine ⟨⟨19 :: 20 :: 18 :: 17 :: 11 :: 2 :: 16 :: 10 :: 5 :: 1 :: 13 :: 15 :: 9 :: 4 :: 0 :: 12 :: 14 :: 6 :: 8 :: 3 :: 7 :: [], (by decide +kernel), fun S hle hfr => ?_⟩, ?_⟩
           · exact .inr ⟨.inr (.inl ⟨_, _, _, _, rfl, rfl, (hle.ev (x := .tmp _) rfl (by nofun)), (by rw [hle.nt]; rfl), (by first | rfl | (rw [rfl]; rfl))⟩), rfl, hle.d rfl⟩
           refine ⟨⟨18 :: 17 :: 11 :: 2 :: 16 :: 10 :: 5 :: 1 :: 13 :: 15 :: 9 :: 4 :: 0 :: 12 :: 14 :: 6 :: 8 :: 3 :: 7 :: [], (by decide +kernel), fun S hle hfr => ?_⟩, ?_⟩
           · exact .inr ⟨.inr (.inl ⟨_, _, _, _, rfl, rfl, (hle.ev (x := .tmp _) rfl (by nofun)), (by rw [hle.nt]; rfl), (by first | rfl | (rw [rfl]; rfl))⟩), rfl, hle.d rfl⟩
           refine ⟨⟨22 :: 18 :: 17 :: 11 :: 2 :: 16 :: 10 :: 5 :: 1 :: 13 :: 15 :: 9 :: 4 :: 0 :: 12 :: 14 :: 6 :: 8 :: 3 :: 7 :: [], (by decide +kernel), fun S hle hfr => ?_⟩, ?_⟩
           · exact .inr ⟨.inr (.inl ⟨_, _, _, _, rfl, rfl, (hle.ev (x := .tmp _) rfl (by nofun)), (by rw [hle.nt]; rfl), (by first | rfl | (rw [rfl]; rfl))⟩), rfl, hle.d rfl⟩
           exact trivial
          case hk35x => rfl
          case hf35x => rfl
          refine aops_no rfl rfl rfl rfl rfl (by decide) ?_
          refine aops_no rfl rfl rfl rfl rfl (by decide) ?_
          refine aops_yes rfl rfl rfl rfl q40 (st_pick_yes rfl (by first | rfl | exact rfl) rfl rfl) ?_
          refine aops_step1 rfl (st_pick_yes rfl (by first | rfl | exact q40) rfl rfl) ?_
          refine aops_nil ?_
          refine aw_yes rfl (rfl) ?_
          refine aw_seq ?_
          refine aw_region ?_
          refine aops_step1 rfl (st_assign rfl rfl) ?_
          refine aops_nil ?_
          cases Option.some.inj j6
          replace h := Md.onS_r h
          cases Option.some.inj h
          refine aw_ret ⟨rfl, ret_v (.inl ⟨_, rfl, rfl, fun _ e => nomatch e⟩) rfl rfl rfl ?_⟩
          (repeat' (first | exact TLe.refl _ | exact VLe.refl _ | exact CLe.refl _ | exact All2.nil | refine TLe.tup ?_ | refine TLe.v ?_ | refine All2.cons ?_ ?_ | refine VLe.agg ?_ | refine VLe.one ?_ | exact CLe.nil _ | exact CLe.emp _ | refine CLe.val ?_ | refine CLe.slc ?_ ?_))
        replace j6 := Md.cond_f j6 q42
        rcases Md.bool_or ((decide (((x39.1.length : Nat) : Int) > ((a1.toNat : Nat) : Int)))) with q43 | q43
        · replace j6 := Md.cond_t j6 q43
          refine aw_seq ?_
          apply aw_draw 24 ((⟨[], .one (.val (.int .i64 x39.2.2))⟩ : Add) :: ⟨[], .one (.val (.bool (x39.2.2 == 0)))⟩ :: ⟨[], .one (.val (.bool (x39.2.2 == 0)))⟩ :: ⟨[], .one (.val (.int .i64 x39.2.1))⟩ :: ⟨[], .one (.val (.bool (decide (x39.2.1 < 1))))⟩ :: ⟨[], .one (.val (.bool (decide (x39.2.1 < 1))))⟩ :: ⟨[], .one (.val (.int .i64 x39.2.1))⟩ :: ⟨[], .one (CV.ls byC a0)⟩ :: ⟨[], .one (.val (.int .i64 ((a0.length : Nat) : Int)))⟩ :: ⟨[], .one (.val (.bool (decide (x39.2.1 > ((a0.length : Nat) : Int)))))⟩ :: ⟨[], .one (.val (.bool (decide (x39.2.1 > ((a0.length : Nat) : Int)))))⟩ :: ⟨[], .one (.val (.bool (decide (x39.2.1 > ((a0.length : Nat) : Int)))))⟩ :: ⟨[], .one (.val (Sv x39.1))⟩ :: ⟨[], .one (.val (.int .i64 ((x39.1.length : Nat) : Int)))⟩ :: ⟨[], .one (.val (.int .u8 (a1.toNat : Int)))⟩ :: ⟨[], .one (.val (.int .i64 ((a1.toNat : Nat) : Int)))⟩ :: ⟨[], .one (.val (.bool (decide (((x39.1.length : Nat) : Int) > ((a1.toNat : Nat) : Int)))))⟩ :: ⟨[], .one (.val (.bool (decide (((x39.1.length : Nat) : Int) > ((a1.toNat : Nat) : Int)))))⟩ :: ⟨[], .one (.val (.bool (decide (((x39.1.length : Nat) : Int) > ((a1.toNat : Nat) : Int)))))⟩ :: ⟨[], .tup []⟩ :: ⟨[], .tup []⟩ :: ⟨[], .tup []⟩ :: ⟨[], .tup []⟩ :: ⟨[], .tup []⟩ :: []) (by decide) rfl ?hk36x ?hf36x ?ho36x ?hr36x
          case ho36x =>
           refine ⟨⟨[], (by decide +kernel), fun S hle hfr => ?_⟩, ?_⟩
           · exact .inl ⟨.inl ⟨rfl, rfl⟩, st_move (hle.ev rfl (by nofun)) (hle.d rfl)⟩
           refine ⟨⟨0 :: [], (by decide +kernel), fun S hle hfr => ?_⟩, ?_⟩
           · exact .inl ⟨.inl ⟨rfl, rfl⟩, ev_cmp (hle.ev rfl (by nofun)) (hle.ev rfl (by nofun)) (hle.d rfl) rfl⟩
           refine ⟨⟨1 :: 0 :: [], (by decide +kernel), fun S hle hfr => ?_⟩, ?_⟩
           · exact .inl ⟨.inl ⟨rfl, rfl⟩, st_move (hle.ev rfl (by nofun)) (hle.d rfl)⟩
           refine ⟨⟨2 :: 1 :: 0 :: [], (by decide +kernel), fun S hle hfr => ?_⟩, ?_⟩
           · exact .inl ⟨.inr (.inl ⟨_, _, _, _, rfl, rfl, (hle.ev (x := .tmp _) rfl (by nofun)), (by rw [hle.nt]; rfl), (by first | rfl | (rw [q40]; rfl))⟩), st_move (hle.ev rfl (by nofun)) (hle.d rfl)⟩
           refine ⟨⟨3 :: 2 :: 1 :: 0 :: [], (by decide +kernel), fun S hle hfr => ?_⟩, ?_⟩
           · exact .inl ⟨.inr (.inl ⟨_, _, _, _, rfl, rfl, (hle.ev (x := .tmp _) rfl (by nofun)), (by rw [hle.nt]; rfl), (by first | rfl | (rw [q40]; rfl))⟩), ev_cmp (hle.ev rfl (by nofun)) (hle.ev rfl (by nofun)) (hle.d rfl) rfl⟩
           refine ⟨⟨4 :: 2 :: 3 :: 1 :: 0 :: [], (by decide +kernel), fun S hle hfr => ?_⟩, ?_⟩
           · exact .inl ⟨.inr (.inl ⟨_, _, _, _, rfl, rfl, (hle.ev (x := .tmp _) rfl (by nofun)), (by rw [hle.nt]; rfl), (by first | rfl | (rw [q40]; rfl))⟩), st_move (hle.ev rfl (by nofun)) (hle.d rfl)⟩
           refine ⟨⟨5 :: 4 :: 2 :: 3 :: 1 :: 0 :: [], (by decide +kernel), fun S hle hfr => ?_⟩, ?_⟩
           · exact .inl ⟨.inr (.inl ⟨_, _, _, _, rfl, rfl, (hle.ev (x := .tmp _) rfl (by nofun)), (by rw [hle.nt]; rfl), (by first | rfl | (rw [q41]; rfl))⟩), st_move (hle.ev rfl (by nofun)) (hle.d rfl)⟩
           refine ⟨⟨5 :: 4 :: 2 :: 3 :: 1 :: 0 :: [], (by decide +kernel), fun S hle hfr => ?_⟩, ?_⟩
           · exact .inl ⟨.inr (.inl ⟨_, _, _, _, rfl, rfl, (hle.ev (x := .tmp _) rfl (by nofun)), (by rw [hle.nt]; rfl), (by first | rfl | (rw [q41]; rfl))⟩), st_move (hle.ev rfl (by nofun)) (hle.d rfl)⟩
           refine ⟨⟨7 :: 5 :: 4 :: 2 :: 3 :: 1 :: 0 :: [], (by decide +kernel), fun S hle hfr => ?_⟩, ?_⟩
           · exact .inl ⟨.inr (.inl ⟨_, _, _, _, rfl, rfl, (hle.ev (x := .tmp _) rfl (by nofun)), (by rw [hle.nt]; rfl), (by first | rfl | (rw [q41]; rfl))⟩), ev_len_slc (hle.ev rfl (by nofun)) (hle.d rfl)⟩
           refine ⟨⟨6 :: 8 :: 5 :: 7 :: 4 :: 2 :: 3 :: 1 :: 0 :: [], (by decide +kernel), fun S hle hfr => ?_⟩, ?_⟩
           · exact .inl ⟨.inr (.inl ⟨_, _, _, _, rfl, rfl, (hle.ev (x := .tmp _) rfl (by nofun)), (by rw [hle.nt]; rfl), (by first | rfl | (rw [q41]; rfl))⟩), ev_cmp (hle.ev rfl (by nofun)) (hle.ev rfl (by nofun)) (hle.d rfl) rfl⟩
           refine ⟨⟨5 :: 9 :: 2 :: 4 :: 6 :: 8 :: 1 :: 3 :: 7 :: 0 :: [], (by decide +kernel), fun S hle hfr => ?_⟩, ?_⟩
           · exact .inl ⟨.inr (.inl ⟨_, _, _, _, rfl, rfl, (hle.ev (x := .tmp _) rfl (by nofun)), (by rw [hle.nt]; rfl), (by first | rfl | (rw [q40]; rfl))⟩), st_pick_no (hle.ev rfl (by nofun)) (by first | rfl | exact q41) (hle.ev rfl (by nofun)) (hle.d rfl)⟩
           refine ⟨⟨10 :: 5 :: 2 :: 9 :: 4 :: 1 :: 6 :: 8 :: 3 :: 0 :: 7 :: [], (by decide +kernel), fun S hle hfr => ?_⟩, ?_⟩
           · exact .inl ⟨.inr (.inl ⟨_, _, _, _, rfl, rfl, (hle.ev (x := .tmp _) rfl (by nofun)), (by rw [hle.nt]; rfl), (by first | rfl | (rw [q40]; rfl))⟩), st_move (hle.ev rfl (by nofun)) (hle.d rfl)⟩
           refine ⟨⟨11 :: 10 :: 5 :: 2 :: 9 :: 4 :: 1 :: 6 :: 8 :: 3 :: 0 :: 7 :: [], (by decide +kernel), fun S hle hfr => ?_⟩, ?_⟩
           · exact .inl ⟨.inr (.inl ⟨_, _, _, _, rfl, rfl, (hle.ev (x := .tmp _) rfl (by nofun)), (by rw [hle.nt]; rfl), (by first | rfl | (rw [q42]; rfl))⟩), st_move (hle.ev rfl (by nofun)) (hle.d rfl)⟩
           refine ⟨⟨12 :: 11 :: 10 :: 5 :: 2 :: 9 :: 4 :: 1 :: 6 :: 8 :: 3 :: 0 :: 7 :: [], (by decide +kernel), fun S hle hfr => ?_⟩, ?_⟩
           · exact .inl ⟨.inr (.inl ⟨_, _, _, _, rfl, rfl, (hle.ev (x := .tmp _) rfl (by nofun)), (by rw [hle.nt]; rfl), (by first | rfl | (rw [q42]; rfl))⟩), st_len_str (hle.ev rfl (by nofun)) (hle.d rfl)⟩
           refine ⟨⟨11 :: 10 :: 5 :: 2 :: 9 :: 4 :: 1 :: 6 :: 8 :: 3 :: 0 :: 7 :: [], (by decide +kernel), fun S hle hfr => ?_⟩, ?_⟩
           · exact .inl ⟨.inr (.inl ⟨_, _, _, _, rfl, rfl, (hle.ev (x := .tmp _) rfl (by nofun)), (by rw [hle.nt]; rfl), (by first | rfl | (rw [q42]; rfl))⟩), st_move (hle.ev rfl (by nofun)) (hle.d rfl)⟩
           refine ⟨⟨14 :: 11 :: 10 :: 5 :: 2 :: 9 :: 4 :: 1 :: 6 :: 8 :: 3 :: 0 :: 7 :: [], (by decide +kernel), fun S hle hfr => ?_⟩, ?_⟩
           · exact .inl ⟨.inr (.inl ⟨_, _, _, _, rfl, rfl, (hle.ev (x := .tmp _) rfl (by nofun)), (by rw [hle.nt]; rfl), (by first | rfl | (rw [q42]; rfl))⟩), st_conv_int (hle.ev rfl (by nofun)) (hle.d rfl) Try.underlying5 Try.underlying3 (Md.conv_u8_i64 a1)⟩
           refine ⟨⟨13 :: 15 :: 11 :: 12 :: 14 :: 10 :: 5 :: 2 :: 9 :: 4 :: 1 :: 6 :: 8 :: 3 :: 0 :: 7 :: [], (by decide +kernel), fun S hle hfr => ?_⟩, ?_⟩
           · exact .inl ⟨.inr (.inl ⟨_, _, _, _, rfl, rfl, (hle.ev (x := .tmp _) rfl (by nofun)), (by rw [hle.nt]; rfl), (by first | rfl | (rw [q42]; rfl))⟩), ev_cmp (hle.ev rfl (by nofun)) (hle.ev rfl (by nofun)) (hle.d rfl) rfl⟩
           refine ⟨⟨11 :: 16 :: 2 :: 10 :: 5 :: 13 :: 15 :: 1 :: 9 :: 4 :: 12 :: 14 :: 0 :: 6 :: 8 :: 3 :: 7 :: [], (by decide +kernel), fun S hle hfr => ?_⟩, ?_⟩
           · exact .inl ⟨.inr (.inl ⟨_, _, _, _, rfl, rfl, (hle.ev (x := .tmp _) rfl (by nofun)), (by rw [hle.nt]; rfl), (by first | rfl | (rw [q40]; rfl))⟩), st_pick_no (hle.ev rfl (by nofun)) (by first | rfl | exact q42) (hle.ev rfl (by nofun)) (hle.d rfl)⟩
           refine ⟨⟨17 :: 11 :: 2 :: 16 :: 10 :: 5 :: 1 :: 13 :: 15 :: 9 :: 4 :: 0 :: 12 :: 14 :: 6 :: 8 :: 3 :: 7 :: [], (by decide +kernel), fun S hle hfr => ?_⟩, ?_⟩
           · exact .inl ⟨.inr (.inl ⟨_, _, _, _, rfl, rfl, (hle.ev (x := .tmp _) rfl (by nofun)), (by rw [hle.nt]; rfl), (by first | rfl | (rw [q40]; rfl))⟩), st_move (hle.ev rfl (by nofun)) (hle.d rfl)⟩
           refine ⟨⟨18 :: 17 :: 11 :: 2 :: 16 :: 10 :: 5 :: 1 :: 13 :: 15 :: 9 :: 4 :: 0 :: 12 :: 14 :: 6 :: 8 :: 3 :: 7 :: [], (by decide +kernel), fun S hle hfr => ?_⟩, ?_⟩
           · exact .inr ⟨.inr (.inl ⟨_, _, _, _, rfl, rfl, (hle.ev (x := .tmp _) rfl (by nofun)), (by rw [hle.nt]; rfl), (by first | rfl | (rw [q43]; rfl))⟩), rfl, hle.d rfl⟩
           refine ⟨⟨18 :: 17 :: 11 :: 2 :: 16 :: 10 :: 5 :: 1 :: 13 :: 15 :: 9 :: 4 :: 0 :: 12 :: 14 :: 6 :: 8 :: 3 :: 7 :: [], (by decide +kernel), fun S hle hfr => ?_⟩, ?_⟩
           · exact .inr ⟨.inr (.inl ⟨_, _, _, _, rfl, rfl, (hle.ev (x := .tmp _) rfl (by nofun)), (by rw [hle.nt]; rfl), (by first | rfl | (rw [q43]; rfl))⟩), rfl, hle.d rfl⟩
           refine ⟨⟨19 :: 20 :: 18 :: 17 :: 11 :: 2 :: 16 :: 10 :: 5 :: 1 :: 13 :: 15 :: 9 :: 4 :: 0 :: 12 :: 14 :: 6 :: 8 :: 3 :: 7 :: [], (by decide +kernel), fun S hle hfr => ?_⟩, ?_⟩
           · exact .inr ⟨.inr (.inl ⟨_, _, _, _, rfl, rfl, (hle.ev (x := .tmp _) rfl (by nofun)), (by rw [hle.nt]; rfl), (by first | rfl | (rw [q43]; rfl))⟩), rfl, hle.d rfl⟩
           refine ⟨⟨18 :: 17 :: 11 :: 2 :: 16 :: 10 :: 5 :: 1 :: 13 :: 15 :: 9 :: 4 :: 0 :: 12 :: 14 :: 6 :: 8 :: 3 :: 7 :: [], (by decide +kernel), fun S hle hfr => ?_⟩, ?_⟩
           · exact .inr ⟨.inr (.inl ⟨_, _, _, _, rfl, rfl, (hle.ev (x := .tmp _) rfl (by nofun)), (by rw [hle.nt]; rfl), (by first | rfl | (rw [q43]; rfl))⟩), rfl, hle.d rfl⟩
           refine ⟨⟨22 :: 18 :: 17 :: 11 :: 2 :: 16 :: 10 :: 5 :: 1 :: 13 :: 15 :: 9 :: 4 :: 0 :: 12 :: 14 :: 6 :: 8 :: 3 :: 7 :: [], (by decide +kernel), fun S hle hfr => ?_⟩, ?_⟩
           · exact .inr ⟨.inr (.inl ⟨_, _, _, _, rfl, rfl, (hle.ev (x := .tmp _) rfl (by nofun)), (by rw [hle.nt]; rfl), (by first | rfl | (rw [q43]; rfl))⟩), rfl, hle.d rfl⟩
           exact trivial
          case hk36x => rfl
          case hf36x => rfl
          refine aops_no rfl rfl rfl rfl rfl (by first | decide | (rw [q43]; decide)) ?_
          refine aops_no rfl rfl rfl rfl rfl (by first | decide | (rw [q43]; decide)) ?_
          refine aops_yes rfl rfl rfl rfl q40 (st_pick_yes rfl (by first | rfl | exact q43) rfl rfl) ?_
          refine aops_step1 rfl (st_pick_yes rfl (by first | rfl | exact q40) rfl rfl) ?_
          refine aops_nil ?_
          refine aw_yes rfl (rfl) ?_
          refine aw_seq ?_
          refine aw_region ?_
          refine aops_step1 rfl (st_assign rfl rfl) ?_
          refine aops_nil ?_
          cases Option.some.inj j6
          replace h := Md.onS_r h
          cases Option.some.inj h
          refine aw_ret ⟨rfl, ret_v (.inl ⟨_, rfl, rfl, fun _ e => nomatch e⟩) rfl rfl rfl ?_⟩
          (repeat' (first | exact TLe.refl _ | exact VLe.refl _ | exact CLe.refl _ | exact All2.nil | refine TLe.tup ?_ | refine TLe.v ?_ | refine All2.cons ?_ ?_ | refine VLe.agg ?_ | refine VLe.one ?_ | exact CLe.nil _ | exact CLe.emp _ | refine CLe.val ?_ | refine CLe.slc ?_ ?_))
        replace j6 := Md.cond_f j6 q43
        obtain ⟨g44, j6⟩ := Md.ifp_s j6
        obtain ⟨g45, j6⟩ := Md.ifp_s j6
        obtain ⟨x46, hx46, j6⟩ := Md.bind_s j6
        obtain ⟨x47, hx47, j6⟩ := Md.bind_s j6
        refine aw_seq ?_
        apply aw_draw 24 ((⟨[], .one (.val (.int .i64 x39.2.2))⟩ : Add) :: ⟨[], .one (.val (.bool (x39.2.2 == 0)))⟩ :: ⟨[], .one (.val (.bool (x39.2.2 == 0)))⟩ :: ⟨[], .one (.val (.int .i64 x39.2.1))⟩ :: ⟨[], .one (.val (.bool (decide (x39.2.1 < 1))))⟩ :: ⟨[], .one (.val (.bool (decide (x39.2.1 < 1))))⟩ :: ⟨[], .one (.val (.int .i64 x39.2.1))⟩ :: ⟨[], .one (CV.ls byC a0)⟩ :: ⟨[], .one (.val (.int .i64 ((a0.length : Nat) : Int)))⟩ :: ⟨[], .one (.val (.bool (decide (x39.2.1 > ((a0.length : Nat) : Int)))))⟩ :: ⟨[], .one (.val (.bool (decide (x39.2.1 > ((a0.length : Nat) : Int)))))⟩ :: ⟨[], .one (.val (.bool (decide (x39.2.1 > ((a0.length : Nat) : Int)))))⟩ :: ⟨[], .one (.val (Sv x39.1))⟩ :: ⟨[], .one (.val (.int .i64 ((x39.1.length : Nat) : Int)))⟩ :: ⟨[], .one (.val (.int .u8 (a1.toNat : Int)))⟩ :: ⟨[], .one (.val (.int .i64 ((a1.toNat : Nat) : Int)))⟩ :: ⟨[], .one (.val (.bool (decide (((x39.1.length : Nat) : Int) > ((a1.toNat : Nat) : Int)))))⟩ :: ⟨[], .one (.val (.bool (decide (((x39.1.length : Nat) : Int) > ((a1.toNat : Nat) : Int)))))⟩ :: ⟨[], .one (.val (.bool (decide (((x39.1.length : Nat) : Int) > ((a1.toNat : Nat) : Int)))))⟩ :: ⟨[], .one (CV.ls byC a0)⟩ :: ⟨[], .one (.val (.int .i64 x39.2.1))⟩ :: ⟨[], .one (CV.ls byC (a0.take ((x39.2.1).toNat)))⟩ :: ⟨[], .one (.val (Sv x39.1))⟩ :: ⟨[], .one (CV.ls byC x46)⟩ :: []) (by decide) rfl ?hk37x ?hf37x ?ho37x ?hr37x
        case ho37x =>
         refine ⟨⟨[], (by decide +kernel), fun S hle hfr => ?_⟩, ?_⟩
         · exact .inl ⟨.inl ⟨rfl, rfl⟩, st_move (hle.ev rfl (by nofun)) (hle.d rfl)⟩
         refine ⟨⟨0 :: [], (by decide +kernel), fun S hle hfr => ?_⟩, ?_⟩
         · exact .inl ⟨.inl ⟨rfl, rfl⟩, ev_cmp (hle.ev rfl (by nofun)) (hle.ev rfl (by nofun)) (hle.d rfl) rfl⟩
         refine ⟨⟨1 :: 0 :: [], (by decide +kernel), fun S hle hfr => ?_⟩, ?_⟩
         · exact .inl ⟨.inl ⟨rfl, rfl⟩, st_move (hle.ev rfl (by nofun)) (hle.d rfl)⟩
         refine ⟨⟨2 :: 1 :: 0 :: [], (by decide +kernel), fun S hle hfr => ?_⟩, ?_⟩
         · exact .inl ⟨.inr (.inl ⟨_, _, _, _, rfl, rfl, (hle.ev (x := .tmp _) rfl (by nofun)), (by rw [hle.nt]; rfl), (by first | rfl | (rw [q40]; rfl))⟩), st_move (hle.ev rfl (by nofun)) (hle.d rfl)⟩
         refine ⟨⟨3 :: 2 :: 1 :: 0 :: [], (by decide +kernel), fun S hle hfr => ?_⟩, ?_⟩
         · exact .inl ⟨.inr (.inl ⟨_, _, _, _, rfl, rfl, (hle.ev (x := .tmp _) rfl (by nofun)), (by rw [hle.nt]; rfl), (by first | rfl | (rw [q40]; rfl))⟩), ev_cmp (hle.ev rfl (by nofun)) (hle.ev rfl (by nofun)) (hle.d rfl) rfl⟩
         refine ⟨⟨4 :: 2 :: 3 :: 1 :: 0 :: [], (by decide +kernel), fun S hle hfr => ?_⟩, ?_⟩
         · exact .inl ⟨.inr (.inl ⟨_, _, _, _, rfl, rfl, (hle.ev (x := .tmp _) rfl (by nofun)), (by rw [hle.nt]; rfl), (by first | rfl | (rw [q40]; rfl))⟩), st_move (hle.ev rfl (by nofun)) (hle.d rfl)⟩
         refine ⟨⟨5 :: 4 :: 2 :: 3 :: 1 :: 0 :: [], (by decide +kernel), fun S hle hfr => ?_⟩, ?_⟩
         · exact .inl ⟨.inr (.inl ⟨_, _, _, _, rfl, rfl, (hle.ev (x := .tmp _) rfl (by nofun)), (by rw [hle.nt]; rfl), (by first | rfl | (rw [q41]; rfl))⟩), st_move (hle.ev rfl (by nofun)) (hle.d rfl)⟩
         refine ⟨⟨5 :: 4 :: 2 :: 3 :: 1 :: 0 :: [], (by decide +kernel), fun S hle hfr => ?_⟩, ?_⟩
         · exact .inl ⟨.inr (.inl ⟨_, _, _, _, rfl, rfl, (hle.ev (x := .tmp _) rfl (by nofun)), (by rw [hle.nt]; rfl), (by first | rfl | (rw [q41]; rfl))⟩), st_move (hle.ev rfl (by nofun)) (hle.d rfl)⟩
         refine ⟨⟨7 :: 5 :: 4 :: 2 :: 3 :: 1 :: 0 :: [], (by decide +kernel), fun S hle hfr => ?_⟩, ?_⟩
         · exact .inl ⟨.inr (.inl ⟨_, _, _, _, rfl, rfl, (hle.ev (x := .tmp _) rfl (by nofun)), (by rw [hle.nt]; rfl), (by first | rfl | (rw [q41]; rfl))⟩), ev_len_slc (hle.ev rfl (by nofun)) (hle.d rfl)⟩
         refine ⟨⟨6 :: 8 :: 5 :: 7 :: 4 :: 2 :: 3 :: 1 :: 0 :: [], (by decide +kernel), fun S hle hfr => ?_⟩, ?_⟩
         · exact .inl ⟨.inr (.inl ⟨_, _, _, _, rfl, rfl, (hle.ev (x := .tmp _) rfl (by nofun)), (by rw [hle.nt]; rfl), (by first | rfl | (rw [q41]; rfl))⟩), ev_cmp (hle.ev rfl (by nofun)) (hle.ev rfl (by nofun)) (hle.d rfl) rfl⟩
         refine ⟨⟨5 :: 9 :: 2 :: 4 :: 6 :: 8 :: 1 :: 3 :: 7 :: 0 :: [], (by decide +kernel), fun S hle hfr => ?_⟩, ?_⟩
         · exact .inl ⟨.inr (.inl ⟨_, _, _, _, rfl, rfl, (hle.ev (x := .tmp _) rfl (by nofun)), (by rw [hle.nt]; rfl), (by first | rfl | (rw [q40]; rfl))⟩), st_pick_no (hle.ev rfl (by nofun)) (by first | rfl | exact q41) (hle.ev rfl (by nofun)) (hle.d rfl)⟩
         refine ⟨⟨10 :: 5 :: 2 :: 9 :: 4 :: 1 :: 6 :: 8 :: 3 :: 0 :: 7 :: [], (by decide +kernel), fun S hle hfr => ?_⟩, ?_⟩
         · exact .inl ⟨.inr (.inl ⟨_, _, _, _, rfl, rfl, (hle.ev (x := .tmp _) rfl (by nofun)), (by rw [hle.nt]; rfl), (by first | rfl | (rw [q40]; rfl))⟩), st_move (hle.ev rfl (by nofun)) (hle.d rfl)⟩
         refine ⟨⟨11 :: 10 :: 5 :: 2 :: 9 :: 4 :: 1 :: 6 :: 8 :: 3 :: 0 :: 7 :: [], (by decide +kernel), fun S hle hfr => ?_⟩, ?_⟩
         · exact .inl ⟨.inr (.inl ⟨_, _, _, _, rfl, rfl, (hle.ev (x := .tmp _) rfl (by nofun)), (by rw [hle.nt]; rfl), (by first | rfl | (rw [q42]; rfl))⟩), st_move (hle.ev rfl (by nofun)) (hle.d rfl)⟩
         refine ⟨⟨12 :: 11 :: 10 :: 5 :: 2 :: 9 :: 4 :: 1 :: 6 :: 8 :: 3 :: 0 :: 7 :: [], (by decide +kernel), fun S hle hfr => ?_⟩, ?_⟩
         · exact .inl ⟨.inr (.inl ⟨_, _, _, _, rfl, rfl, (hle.ev (x := .tmp _) rfl (by nofun)), (by rw [hle.nt]; rfl), (by first | rfl | (rw [q42]; rfl))⟩), st_len_str (hle.ev rfl (by nofun)) (hle.d rfl)⟩
         refine ⟨⟨11 :: 10 :: 5 :: 2 :: 9 :: 4 :: 1 :: 6 :: 8 :: 3 :: 0 :: 7 :: [], (by decide +kernel), fun S hle hfr => ?_⟩, ?_⟩
         · exact .inl ⟨.inr (.inl ⟨_, _, _, _, rfl, rfl, (hle.ev (x := .tmp _) rfl (by nofun)), (by rw [hle.nt]; rfl), (by first | rfl | (rw [q42]; rfl))⟩), st_move (hle.ev rfl (by nofun)) (hle.d rfl)⟩
         refine ⟨⟨14 :: 11 :: 10 :: 5 :: 2 :: 9 :: 4 :: 1 :: 6 :: 8 :: 3 :: 0 :: 7 :: [], (by decide +kernel), fun S hle hfr => ?_⟩, ?_⟩
         · exact .inl ⟨.inr (.inl ⟨_, _, _, _, rfl, rfl, (hle.ev (x := .tmp _) rfl (by nofun)), (by rw [hle.nt]; rfl), (by first | rfl | (rw [q42]; rfl))⟩), st_conv_int (hle.ev rfl (by nofun)) (hle.d rfl) Try.underlying5 Try.underlying3 (Md.conv_u8_i64 a1)⟩
         refine ⟨⟨13 :: 15 :: 11 :: 12 :: 14 :: 10 :: 5 :: 2 :: 9 :: 4 :: 1 :: 6 :: 8 :: 3 :: 0 :: 7 :: [], (by decide +kernel), fun S hle hfr => ?_⟩, ?_⟩
         · exact .inl ⟨.inr (.inl ⟨_, _, _, _, rfl, rfl, (hle.ev (x := .tmp _) rfl (by nofun)), (by rw [hle.nt]; rfl), (by first | rfl | (rw [q42]; rfl))⟩), ev_cmp (hle.ev rfl (by nofun)) (hle.ev rfl (by nofun)) (hle.d rfl) rfl⟩
         refine ⟨⟨11 :: 16 :: 2 :: 10 :: 5 :: 13 :: 15 :: 1 :: 9 :: 4 :: 12 :: 14 :: 0 :: 6 :: 8 :: 3 :: 7 :: [], (by decide +kernel), fun S hle hfr => ?_⟩, ?_⟩
         · exact .inl ⟨.inr (.inl ⟨_, _, _, _, rfl, rfl, (hle.ev (x := .tmp _) rfl (by nofun)), (by rw [hle.nt]; rfl), (by first | rfl | (rw [q40]; rfl))⟩), st_pick_no (hle.ev rfl (by nofun)) (by first | rfl | exact q42) (hle.ev rfl (by nofun)) (hle.d rfl)⟩
         refine ⟨⟨17 :: 11 :: 2 :: 16 :: 10 :: 5 :: 1 :: 13 :: 15 :: 9 :: 4 :: 0 :: 12 :: 14 :: 6 :: 8 :: 3 :: 7 :: [], (by decide +kernel), fun S hle hfr => ?_⟩, ?_⟩
         · exact .inl ⟨.inr (.inl ⟨_, _, _, _, rfl, rfl, (hle.ev (x := .tmp _) rfl (by nofun)), (by rw [hle.nt]; rfl), (by first | rfl | (rw [q40]; rfl))⟩), st_move (hle.ev rfl (by nofun)) (hle.d rfl)⟩
         refine ⟨⟨18 :: 17 :: 11 :: 2 :: 16 :: 10 :: 5 :: 1 :: 13 :: 15 :: 9 :: 4 :: 0 :: 12 :: 14 :: 6 :: 8 :: 3 :: 7 :: [], (by decide +kernel), fun S hle hfr => ?_⟩, ?_⟩
         · exact .inl ⟨.inr (.inl ⟨_, _, _, _, rfl, rfl, (hle.ev (x := .tmp _) rfl (by nofun)), (by rw [hle.nt]; rfl), (by first | rfl | (rw [q43]; rfl))⟩), st_move (hle.ev rfl (by nofun)) (hle.d rfl)⟩
         refine ⟨⟨18 :: 17 :: 11 :: 2 :: 16 :: 10 :: 5 :: 1 :: 13 :: 15 :: 9 :: 4 :: 0 :: 12 :: 14 :: 6 :: 8 :: 3 :: 7 :: [], (by decide +kernel), fun S hle hfr => ?_⟩, ?_⟩
         · exact .inl ⟨.inr (.inl ⟨_, _, _, _, rfl, rfl, (hle.ev (x := .tmp _) rfl (by nofun)), (by rw [hle.nt]; rfl), (by first | rfl | (rw [q43]; rfl))⟩), st_move (hle.ev rfl (by nofun)) (hle.d rfl)⟩
         refine ⟨⟨19 :: 20 :: 18 :: 17 :: 11 :: 2 :: 16 :: 10 :: 5 :: 1 :: 13 :: 15 :: 9 :: 4 :: 0 :: 12 :: 14 :: 6 :: 8 :: 3 :: 7 :: [], (by decide +kernel), fun S hle hfr => ?_⟩, ?_⟩
         · exact .inl ⟨.inr (.inl ⟨_, _, _, _, rfl, rfl, (hle.ev (x := .tmp _) rfl (by nofun)), (by rw [hle.nt]; rfl), (by first | rfl | (rw [q43]; rfl))⟩), st_cut_hi (f := byC) (fun _ => rfl) (hle.ev rfl (by nofun)) ⟨_, _, (hle.ev rfl (by nofun)), (Md.nn_eq g44)⟩ g45 (hle.d rfl)⟩
         refine ⟨⟨18 :: 17 :: 11 :: 2 :: 16 :: 10 :: 5 :: 1 :: 13 :: 15 :: 9 :: 4 :: 0 :: 12 :: 14 :: 6 :: 8 :: 3 :: 7 :: [], (by decide +kernel), fun S hle hfr => ?_⟩, ?_⟩
         · exact .inl ⟨.inr (.inl ⟨_, _, _, _, rfl, rfl, (hle.ev (x := .tmp _) rfl (by nofun)), (by rw [hle.nt]; rfl), (by first | rfl | (rw [q43]; rfl))⟩), st_move (hle.ev rfl (by nofun)) (hle.d rfl)⟩
         refine ⟨⟨22 :: 18 :: 17 :: 11 :: 2 :: 16 :: 10 :: 5 :: 1 :: 13 :: 15 :: 9 :: 4 :: 0 :: 12 :: 14 :: 6 :: 8 :: 3 :: 7 :: [], (by decide +kernel), fun S hle hfr => ?_⟩, ?_⟩
         · exact .inl ⟨.inr (.inl ⟨_, _, _, _, rfl, rfl, (hle.ev (x := .tmp _) rfl (by nofun)), (by rw [hle.nt]; rfl), (by first | rfl | (rw [q43]; rfl))⟩), st_call_z (wire_AppendString_fn k ([] : List UInt8) x39.1 x46 hx46) (map_ev (.cons (hle.ev rfl (by nofun)) (.cons (hle.ev rfl (by nofun)) (.nil)))) [] (fun _ => (by repeat' (first | exact All2.nil | refine All2.cons ?_ ?_ | refine ArgV.one ?_ | refine ArgV.agg ?_ | exact ArgC.mk rfl | exact ArgC.lend (hle.heap _ _ rfl) (by simp) | exact ArgC.le (CLe.nil _) rfl | exact ArgC.le (CLe.emp _) rfl | exact ArgC.le (CLe.any _) rfl))) rfl (.inl rfl) (hle.d rfl)⟩
         exact trivial
        case hk37x => rfl
        case hf37x => rfl
        refine aops_yes rfl rfl rfl rfl q43 (ev_call_v (actorgridlaw1_same_fn k (a0.take ((x39.2.1).toNat)) x46 x47 hx47) rfl [] (by repeat' (first | exact All2.nil | refine All2.cons ?_ ?_ | refine ArgV.one ?_ | refine ArgV.agg ?_ | exact ArgC.mk rfl | exact ArgC.lend rfl (by simp) | exact ArgC.le (CLe.nil _) rfl | exact ArgC.le (CLe.emp _) rfl | exact ArgC.le (CLe.any _) rfl)) rfl rfl rfl (.inl rfl) rfl) ?_
        refine aops_yes rfl rfl rfl rfl q43 (ev_not rfl rfl) ?_
        refine aops_yes rfl rfl rfl rfl q40 (st_pick_no rfl (by first | rfl | exact q43) rfl rfl) ?_
        refine aops_step1 rfl (st_pick_yes rfl (by first | rfl | exact q40) rfl rfl) ?_
        refine aops_nil ?_
        refine aw_cond rfl (fun c48 => ?_) (fun c48 => ?_)
        · replace j6 := Md.cond_t j6 c48
          refine aw_seq ?_
          refine aw_region ?_
          refine aops_step1 rfl (st_assign rfl rfl) ?_
          refine aops_nil ?_
          cases Option.some.inj j6
          replace h := Md.onS_r h
          cases Option.some.inj h
          refine aw_ret ⟨rfl, ret_v (.inl ⟨_, rfl, rfl, fun _ e => nomatch e⟩) rfl rfl rfl ?_⟩
          (repeat' (first | exact TLe.refl _ | exact VLe.refl _ | exact CLe.refl _ | exact All2.nil | refine TLe.tup ?_ | refine TLe.v ?_ | refine All2.cons ?_ ?_ | refine VLe.agg ?_ | refine VLe.one ?_ | exact CLe.nil _ | exact CLe.emp _ | refine CLe.val ?_ | refine CLe.slc ?_ ?_))
        replace j6 := Md.cond_f j6 c48
        refine aw_skip ?_
        show ∃ _x : Unit, _ = _ ∧ Weak _ _
        exact ⟨(), Option.some.inj j6, (by (refine weak_mk rfl rfl ?_ ?_ rfl <;> repeat' (first | exact trivial | refine ⟨?_, ?_⟩ | exact VLe.refl _ | exact BLe.refl _ | refine VLe.one (CLe.val ?_) | exact VLe.one (CLe.nil _) | exact VLe.one (CLe.emp _))))⟩
      replace j6 := Md.cond_f j6 q40
      refine aw_seq ?_
      apply aw_draw 24 ((⟨[], .one (.val (.int .i64 x39.2.2))⟩ : Add) :: ⟨[], .one (.val (.bool (x39.2.2 == 0)))⟩ :: ⟨[], .one (.val (.bool (x39.2.2 == 0)))⟩ :: ⟨[], .tup []⟩ :: ⟨[], .tup []⟩ :: ⟨[], .tup []⟩ :: ⟨[], .tup []⟩ :: ⟨[], .tup []⟩ :: ⟨[], .tup []⟩ :: ⟨[], .tup []⟩ :: ⟨[], .tup []⟩ :: ⟨[], .tup []⟩ :: ⟨[], .tup []⟩ :: ⟨[], .tup []⟩ :: ⟨[], .tup []⟩ :: ⟨[], .tup []⟩ :: ⟨[], .tup []⟩ :: ⟨[], .tup []⟩ :: ⟨[], .tup []⟩ :: ⟨[], .tup []⟩ :: ⟨[], .tup []⟩ :: ⟨[], .tup []⟩ :: ⟨[], .tup []⟩ :: ⟨[], .tup []⟩ :: []) (by decide) rfl ?hk38x ?hf38x ?ho38x ?hr38x
      case ho38x =>
       refine ⟨⟨[], (by decide +kernel), fun S hle hfr => ?_⟩, ?_⟩
       · exact .inl ⟨.inl ⟨rfl, rfl⟩, st_move (hle.ev rfl (by nofun)) (hle.d rfl)⟩
       refine ⟨⟨0 :: [], (by decide +kernel), fun S hle hfr => ?_⟩, ?_⟩
       · exact .inl ⟨.inl ⟨rfl, rfl⟩, ev_cmp (hle.ev rfl (by nofun)) (hle.ev rfl (by nofun)) (hle.d rfl) rfl⟩
       refine ⟨⟨1 :: 0 :: [], (by decide +kernel), fun S hle hfr => ?_⟩, ?_⟩
       · exact .inl ⟨.inl ⟨rfl, rfl⟩, st_move (hle.ev rfl (by nofun)) (hle.d rfl)⟩
       refine ⟨⟨2 :: 1 :: 0 :: [], (by decide +kernel), fun S hle hfr => ?_⟩, ?_⟩
       · exact .inr ⟨.inr (.inl ⟨_, _, _, _, rfl, rfl, (hle.ev (x := .tmp _) rfl (by nofun)), (by rw [hle.nt]; rfl), (by first | rfl | (rw [q40]; rfl))⟩), rfl, hle.d rfl⟩
       refine ⟨⟨3 :: 2 :: 1 :: 0 :: [], (by decide +kernel), fun S hle hfr => ?_⟩, ?_⟩
       · exact .inr ⟨.inr (.inl ⟨_, _, _, _, rfl, rfl, (hle.ev (x := .tmp _) rfl (by nofun)), (by rw [hle.nt]; rfl), (by first | rfl | (rw [q40]; rfl))⟩), rfl, hle.d rfl⟩
       refine ⟨⟨4 :: 2 :: 3 :: 1 :: 0 :: [], (by decide +kernel), fun S hle hfr => ?_⟩, ?_⟩
       · exact .inr ⟨.inr (.inl ⟨_, _, _, _, rfl, rfl, (hle.ev (x := .tmp _) rfl (by nofun)), (by rw [hle.nt]; rfl), (by first | rfl | (rw [q40]; rfl))⟩), rfl, hle.d rfl⟩
       refine ⟨⟨5 :: 4 :: 2 :: 3 :: 1 :: 0 :: [], (by decide +kernel), fun S hle hfr => ?_⟩, ?_⟩
       · exact .inr ⟨.inr (.inr ⟨_, _, _, rfl, rfl, (hle.ev (x := .tmp _) rfl (by nofun)), (by rw [hle.nt]; rfl), rfl⟩), rfl, hle.d rfl⟩
       refine ⟨⟨5 :: 4 :: 2 :: 3 :: 1 :: 0 :: [], (by decide +kernel), fun S hle hfr => ?_⟩, ?_⟩
       · exact .inr ⟨.inr (.inr ⟨_, _, _, rfl, rfl, (hle.ev (x := .tmp _) rfl (by nofun)), (by rw [hle.nt]; rfl), rfl⟩), rfl, hle.d rfl⟩
       refine ⟨⟨7 :: 5 :: 4 :: 2 :: 3 :: 1 :: 0 :: [], (by decide +kernel), fun S hle hfr => ?_⟩, ?_⟩
       · exact .inr ⟨.inr (.inr ⟨_, _, _, rfl, rfl, (hle.ev (x := .tmp _) rfl (by nofun)), (by rw [hle.nt]; rfl), rfl⟩), rfl, hle.d rfl⟩
       refine ⟨⟨6 :: 8 :: 5 :: 7 :: 4 :: 2 :: 3 :: 1 :: 0 :: [], (by decide +kernel), fun S hle hfr => ?_⟩, ?_⟩
       · exact .inr ⟨.inr (.inr ⟨_, _, _, rfl, rfl, (hle.ev (x := .tmp _) rfl (by nofun)), (by rw [hle.nt]; rfl), rfl⟩), rfl, hle.d rfl⟩
       refine ⟨⟨5 :: 9 :: 2 :: 4 :: 6 :: 8 :: 1 :: 3 :: 7 :: 0 :: [], (by decide +kernel), fun S hle hfr => ?_⟩, ?_⟩
       · exact .inr ⟨.inr (.inl ⟨_, _, _, _, rfl, rfl, (hle.ev (x := .tmp _) rfl (by nofun)), (by rw [hle.nt]; rfl), (by first | rfl | (rw [q40]; rfl))⟩), rfl, hle.d rfl⟩
       refine ⟨⟨10 :: 5 :: 2 :: 9 :: 4 :: 1 :: 6 :: 8 :: 3 :: 0 :: 7 :: [], (by decide +kernel), fun S hle hfr => ?_⟩, ?_⟩
       · exact .inr ⟨.inr (.inl ⟨_, _, _, _, rfl, rfl, (hle.ev (x := .tmp _) rfl (by nofun)), (by rw [hle.nt]; rfl), (by first | rfl | (rw [q40]; rfl))⟩), rfl, hle.d rfl⟩
       refine ⟨⟨11 :: 10 :: 5 :: 2 :: 9 :: 4 :: 1 :: 6 :: 8 :: 3 :: 0 :: 7 :: [], (by decide +kernel), fun S hle hfr => ?_⟩, ?_⟩
       · exact .inr ⟨.inr (.inr ⟨_, _, _, rfl, rfl, (hle.ev (x := .tmp _) rfl (by nofun)), (by rw [hle.nt]; rfl), rfl⟩), rfl, hle.d rfl⟩
       refine ⟨⟨12 :: 11 :: 10 :: 5 :: 2 :: 9 :: 4 :: 1 :: 6 :: 8 :: 3 :: 0 :: 7 :: [], (by decide +kernel), fun S hle hfr => ?_⟩, ?_⟩
       · exact .inr ⟨.inr (.inr ⟨_, _, _, rfl, rfl, (hle.ev (x := .tmp _) rfl (by nofun)), (by rw [hle.nt]; rfl), rfl⟩), rfl, hle.d rfl⟩
       refine ⟨⟨11 :: 10 :: 5 :: 2 :: 9 :: 4 :: 1 :: 6 :: 8 :: 3 :: 0 :: 7 :: [], (by decide +kernel), fun S hle hfr => ?_⟩, ?_⟩
       · exact .inr ⟨.inr (.inr ⟨_, _, _, rfl, rfl, (hle.ev (x := .tmp _) rfl (by nofun)), (by rw [hle.nt]; rfl), rfl⟩), rfl, hle.d rfl⟩
       refine ⟨⟨14 :: 11 :: 10 :: 5 :: 2 :: 9 :: 4 :: 1 :: 6 :: 8 :: 3 :: 0 :: 7 :: [], (by decide +kernel), fun S hle hfr => ?_⟩, ?_⟩
       · exact .inr ⟨.inr (.inr ⟨_, _, _, rfl, rfl, (hle.ev (x := .tmp _) rfl (by nofun)), (by rw [hle.nt]; rfl), rfl⟩), rfl, hle.d rfl⟩
       refine ⟨⟨13 :: 15 :: 11 :: 12 :: 14 :: 10 :: 5 :: 2 :: 9 :: 4 :: 1 :: 6 :: 8 :: 3 :: 0 :: 7 :: [], (by decide +kernel), fun S hle hfr => ?_⟩, ?_⟩
       · exact .inr ⟨.inr (.inr ⟨_, _, _, rfl, rfl, (hle.ev (x := .tmp _) rfl (by nofun)), (by rw [hle.nt]; rfl), rfl⟩), rfl, hle.d rfl⟩
       refine ⟨⟨11 :: 16 :: 2 :: 10 :: 5 :: 13 :: 15 :: 1 :: 9 :: 4 :: 12 :: 14 :: 0 :: 6 :: 8 :: 3 :: 7 :: [], (by decide +kernel), fun S hle hfr => ?_⟩, ?_⟩
       · exact .inr ⟨.inr (.inl ⟨_, _, _, _, rfl, rfl, (hle.ev (x := .tmp _) rfl (by nofun)), (by rw [hle.nt]; rfl), (by first | rfl | (rw [q40]; rfl))⟩), rfl, hle.d rfl⟩
       refine ⟨⟨17 :: 11 :: 2 :: 16 :: 10 :: 5 :: 1 :: 13 :: 15 :: 9 :: 4 :: 0 :: 12 :: 14 :: 6 :: 8 :: 3 :: 7 :: [], (by decide +kernel), fun S hle hfr => ?_⟩, ?_⟩
       · exact .inr ⟨.inr (.inl ⟨_, _, _, _, rfl, rfl, (hle.ev (x := .tmp _) rfl (by nofun)), (by rw [hle.nt]; rfl), (by first | rfl | (rw [q40]; rfl))⟩), rfl, hle.d rfl⟩
       refine ⟨⟨18 :: 17 :: 11 :: 2 :: 16 :: 10 :: 5 :: 1 :: 13 :: 15 :: 9 :: 4 :: 0 :: 12 :: 14 :: 6 :: 8 :: 3 :: 7 :: [], (by decide +kernel), fun S hle hfr => ?_⟩, ?_⟩
       · exact .inr ⟨.inr (.inr ⟨_, _, _, rfl, rfl, (hle.ev (x := .tmp _) rfl (by nofun)), (by rw [hle.nt]; rfl), rfl⟩), rfl, hle.d rfl⟩
       refine ⟨⟨18 :: 17 :: 11 :: 2 :: 16 :: 10 :: 5 :: 1 :: 13 :: 15 :: 9 :: 4 :: 0 :: 12 :: 14 :: 6 :: 8 :: 3 :: 7 :: [], (by decide +kernel), fun S hle hfr => ?_⟩, ?_⟩
       · exact .inr ⟨.inr (.inr ⟨_, _, _, rfl, rfl, (hle.ev (x := .tmp _) rfl (by nofun)), (by rw [hle.nt]; rfl), rfl⟩), rfl, hle.d rfl⟩
       refine ⟨⟨19 :: 20 :: 18 :: 17 :: 11 :: 2 :: 16 :: 10 :: 5 :: 1 :: 13 :: 15 :: 9 :: 4 :: 0 :: 12 :: 14 :: 6 :: 8 :: 3 :: 7 :: [], (by decide +kernel), fun S hle hfr => ?_⟩, ?_⟩
       · exact .inr ⟨.inr (.inr ⟨_, _, _, rfl, rfl, (hle.ev (x := .tmp _) rfl (by nofun)), (by rw [hle.nt]; rfl), rfl⟩), rfl, hle.d rfl⟩
       refine ⟨⟨18 :: 17 :: 11 :: 2 :: 16 :: 10 :: 5 :: 1 :: 13 :: 15 :: 9 :: 4 :: 0 :: 12 :: 14 :: 6 :: 8 :: 3 :: 7 :: [], (by decide +kernel), fun S hle hfr => ?_⟩, ?_⟩
       · exact .inr ⟨.inr (.inr ⟨_, _, _, rfl, rfl, (hle.ev (x := .tmp _) rfl (by nofun)), (by rw [hle.nt]; rfl), rfl⟩), rfl, hle.d rfl⟩
       refine ⟨⟨22 :: 18 :: 17 :: 11 :: 2 :: 16 :: 10 :: 5 :: 1 :: 13 :: 15 :: 9 :: 4 :: 0 :: 12 :: 14 :: 6 :: 8 :: 3 :: 7 :: [], (by decide +kernel), fun S hle hfr => ?_⟩, ?_⟩
       · exact .inr ⟨.inr (.inr ⟨_, _, _, rfl, rfl, (hle.ev (x := .tmp _) rfl (by nofun)), (by rw [hle.nt]; rfl), rfl⟩), rfl, hle.d rfl⟩
       exact trivial
      case hk38x => rfl
      case hf38x => rfl
      refine aops_und rfl rfl rfl rfl rfl ?_
      refine aops_und rfl rfl rfl rfl rfl ?_
      refine aops_no rfl rfl rfl rfl rfl (by first | decide | (rw [q40]; decide)) ?_
      refine aops_step1 rfl (st_pick_no rfl (by first | rfl | exact q40) rfl rfl) ?_
      refine aops_nil ?_
      refine aw_no rfl (rfl) ?_
      refine aw_skip ?_
      show ∃ _x : Unit, _ = _ ∧ Weak _ _
      exact ⟨(), Option.some.inj j6, (by (refine weak_mk rfl rfl ?_ ?_ rfl <;> repeat' (first | exact trivial | refine ⟨?_, ?_⟩ | exact VLe.refl _ | exact BLe.refl _ | refine VLe.one (CLe.val ?_) | exact VLe.one (CLe.nil _) | exact VLe.one (CLe.emp _))))⟩
    refine aw_seq ?_
    refine aw_region ?_
    refine aops_step1 rfl (st_move rfl rfl) ?_
    obtain ⟨x49, hx49, j5⟩ := Md.bind_s j5
    refine aops_step1 rfl (ev_call_v (wire_Int_fn k a0 x49 hx49) rfl [] (by repeat' (first | exact All2.nil | refine All2.cons ?_ ?_ | refine ArgV.one ?_ | refine ArgV.agg ?_ | exact ArgC.mk rfl | exact ArgC.lend rfl (by simp) | exact ArgC.le (CLe.nil _) rfl | exact ArgC.le (CLe.emp _) rfl | exact ArgC.le (CLe.any _) rfl)) rfl rfl rfl (.inl rfl) rfl) ?_
    refine aops_step1 rfl (st_movet rfl rfl) ?_
    refine aops_step1 rfl (ev_extract rfl rfl rfl) ?_
    refine aops_step1 rfl (ev_extract rfl rfl rfl) ?_
    refine aops_step1 rfl (ev_extract rfl rfl rfl) ?_
    refine aops_step1 rfl (st_assign rfl rfl) ?_
    refine aops_step1 rfl (st_assign rfl rfl) ?_
    refine aops_step1 rfl (st_assign rfl rfl) ?_
    refine aops_nil ?_
    rcases Md.bool_or ((x49.2.2 == 0)) with q50 | q50
    · replace j5 := Md.cond_t j5 q50
      rcases Md.bool_or ((decide (x49.2.1 < 1))) with q51 | q51
      · replace j5 := Md.cond_t j5 q51
        refine aw_seq ?_
        apply aw_draw 17 ((⟨[], .one (.val (.int .i64 x49.2.2))⟩ : Add) :: ⟨[], .one (.val (.bool (x49.2.2 == 0)))⟩ :: ⟨[], .one (.val (.bool (x49.2.2 == 0)))⟩ :: ⟨[], .one (.val (.int .i64 x49.2.1))⟩ :: ⟨[], .one (.val (.bool (decide (x49.2.1 < 1))))⟩ :: ⟨[], .one (.val (.bool (decide (x49.2.1 < 1))))⟩ :: ⟨[], .tup []⟩ :: ⟨[], .tup []⟩ :: ⟨[], .tup []⟩ :: ⟨[], .tup []⟩ :: ⟨[], .one (.val (.bool true))⟩ :: ⟨[], .one (.val (.bool true))⟩ :: ⟨[], .tup []⟩ :: ⟨[], .tup []⟩ :: ⟨[], .tup []⟩ :: ⟨[], .tup []⟩ :: ⟨[], .tup []⟩ :: []) (by decide) rfl ?hk39x ?hf39x ?ho39x ?hr39x
        case ho39x =>
         refine ⟨⟨[], (by decide +kernel), fun S hle hfr => ?_⟩, ?_⟩
         · exact .inl ⟨.inl ⟨rfl, rfl⟩, st_move (hle.ev rfl (by nofun)) (hle.d rfl)⟩
         refine ⟨⟨0 :: [], (by decide +kernel), fun S hle hfr => ?_⟩, ?_⟩
         · exact .inl ⟨.inl ⟨rfl, rfl⟩, ev_cmp (hle.ev rfl (by nofun)) (hle.ev rfl (by nofun)) (hle.d rfl) rfl⟩
         refine ⟨⟨1 :: 0 :: [], (by decide +kernel), fun S hle hfr => ?_⟩, ?_⟩
         · exact .inl ⟨.inl ⟨rfl, rfl⟩, st_move (hle.ev rfl (by nofun)) (hle.d rfl)⟩
         refine ⟨⟨2 :: 1 :: 0 :: [], (by decide +kernel), fun S hle hfr => ?_⟩, ?_⟩
         · exact .inl ⟨.inr (.inl ⟨_, _, _, _, rfl, rfl, (hle.ev (x := .tmp _) rfl (by nofun)), (by rw [hle.nt]; rfl), (by first | rfl | (rw [q50]; rfl))⟩), st_move (hle.ev rfl (by nofun)) (hle.d rfl)⟩
         refine ⟨⟨3 :: 2 :: 1 :: 0 :: [], (by decide +kernel), fun S hle hfr => ?_⟩, ?_⟩
         · exact .inl ⟨.inr (.inl ⟨_, _, _, _, rfl, rfl, (hle.ev (x := .tmp _) rfl (by nofun)), (by rw [hle.nt]; rfl), (by first | rfl | (rw [q50]; rfl))⟩), ev_cmp (hle.ev rfl (by nofun)) (hle.ev rfl (by nofun)) (hle.d rfl) rfl⟩
         refine ⟨⟨4 :: 2 :: 3 :: 1 :: 0 :: [], (by decide +kernel), fun S hle hfr => ?_⟩, ?_⟩
         · exact .inl ⟨.inr (.inl ⟨_, _, _, _, rfl, rfl, (hle.ev (x := .tmp _) rfl (by nofun)), (by rw [hle.nt]; rfl), (by first | rfl | (rw [q50]; rfl))⟩), st_move (hle.ev rfl (by nofun)) (hle.d rfl)⟩
         refine ⟨⟨5 :: 4 :: 2 :: 3 :: 1 :: 0 :: [], (by decide +kernel), fun S hle hfr => ?_⟩, ?_⟩
         · exact .inr ⟨.inr (.inl ⟨_, _, _, _, rfl, rfl, (hle.ev (x := .tmp _) rfl (by nofun)), (by rw [hle.nt]; rfl), (by first | rfl | (rw [q51]; rfl))⟩), rfl, hle.d rfl⟩
         refine ⟨⟨5 :: 4 :: 2 :: 3 :: 1 :: 0 :: [], (by decide +kernel), fun S hle hfr => ?_⟩, ?_⟩
         · exact .inr ⟨.inr (.inl ⟨_, _, _, _, rfl, rfl, (hle.ev (x := .tmp _) rfl (by nofun)), (by rw [hle.nt]; rfl), (by first | rfl | (rw [q51]; rfl))⟩), rfl, hle.d rfl⟩
         refine ⟨⟨7 :: 5 :: 4 :: 2 :: 3 :: 1 :: 0 :: [], (by decide +kernel), fun S hle hfr => ?_⟩, ?_⟩
         · exact .inr ⟨.inr (.inl ⟨_, _, _, _, rfl, rfl, (hle.ev (x := .tmp _) rfl (by nofun)), (by rw [hle.nt]; rfl), (by first | rfl | (rw [q51]; rfl))⟩), rfl, hle.d rfl⟩
         refine ⟨⟨6 :: 8 :: 5 :: 7 :: 4 :: 2 :: 3 :: 1 :: 0 :: [], (by decide +kernel), fun S hle hfr => ?_⟩, ?_⟩
         · exact .inr ⟨.inr (.inl ⟨_, _, _, _, rfl, rfl, (hle.ev (x := .tmp _) rfl (by nofun)), (by rw [hle.nt]; rfl), (by first | rfl | (rw [q51]; rfl))⟩), rfl, hle.d rfl⟩
         refine ⟨⟨5 :: 9 :: 2 :: 4 :: 6 :: 8 :: 1 :: 3 :: 7 :: 0 :: [], (by decide +kernel), fun S hle hfr => ?_⟩, ?_⟩
         · exact .inl ⟨.inr (.inl ⟨_, _, _, _, rfl, rfl, (hle.ev (x := .tmp _) rfl (by nofun)), (by rw [hle.nt]; rfl), (by first | rfl | (rw [q50]; rfl))⟩), st_pick_yes (hle.ev rfl (by nofun)) (by first | rfl | exact q51) (hle.ev rfl (by nofun)) (hle.d rfl)⟩
         refine ⟨⟨10 :: 5 :: 2 :: 9 :: 4 :: 1 :: 6 :: 8 :: 3 :: 0 :: 7 :: [], (by decide +kernel), fun S hle hfr => ?_⟩, ?_⟩
         · exact .inl ⟨.inr (.inl ⟨_, _, _, _, rfl, rfl, (hle.ev (x := .tmp _) rfl (by nofun)), (by rw [hle.nt]; rfl), (by first | rfl | (rw [q50]; rfl))⟩), st_move (hle.ev rfl (by nofun)) (hle.d rfl)⟩
         refine ⟨⟨11 :: 10 :: 5 :: 2 :: 9 :: 4 :: 1 :: 6 :: 8 :: 3 :: 0 :: 7 :: [], (by decide +kernel), fun S hle hfr => ?_⟩, ?_⟩
         · exact .inr ⟨.inr (.inl ⟨_, _, _, _, rfl, rfl, (hle.ev (x := .tmp _) rfl (by nofun)), (by rw [hle.nt]; rfl), (by first | rfl | (rw [rfl]; rfl))⟩), rfl, hle.d rfl⟩
         refine ⟨⟨11 :: 10 :: 5 :: 2 :: 9 :: 4 :: 1 :: 6 :: 8 :: 3 :: 0 :: 7 :: [], (by decide +kernel), fun S hle hfr => ?_⟩, ?_⟩
         · exact .inr ⟨.inr (.inl ⟨_, _, _, _, rfl, rfl, (hle.ev (x := .tmp _) rfl (by nofun)), (by rw [hle.nt]; rfl), (by first | rfl | (rw [rfl]; rfl))⟩), rfl, hle.d rfl⟩
         refine ⟨⟨12 :: 13 :: 11 :: 10 :: 5 :: 2 :: 9 :: 4 :: 1 :: 6 :: 8 :: 3 :: 0 :: 7 :: [], (by decide +kernel), fun S hle hfr => ?_⟩, ?_⟩
         · exact .inr ⟨.inr (.inl ⟨_, _, _, _, rfl, rfl, (hle.ev (x := .tmp _) rfl (by nofun)), (by rw [hle.nt]; rfl), (by first | rfl | (rw [rfl]; rfl))⟩), rfl, hle.d rfl⟩
         refine ⟨⟨11 :: 10 :: 5 :: 2 :: 9 :: 4 :: 1 :: 6 :: 8 :: 3 :: 0 :: 7 :: [], (by decide +kernel), fun S hle hfr => ?_⟩, ?_⟩
         · exact .inr ⟨.inr (.inl ⟨_, _, _, _, rfl, rfl, (hle.ev (x := .tmp _) rfl (by nofun)), (by rw [hle.nt]; rfl), (by first | rfl | (rw [rfl]; rfl))⟩), rfl, hle.d rfl⟩
         refine ⟨⟨15 :: 11 :: 10 :: 5 :: 2 :: 9 :: 4 :: 1 :: 6 :: 8 :: 3 :: 0 :: 7 :: [], (by decide +kernel), fun S hle hfr => ?_⟩, ?_⟩
         · exact .inr ⟨.inr (.inl ⟨_, _, _, _, rfl, rfl, (hle.ev (x := .tmp _) rfl (by nofun)), (by rw [hle.nt]; rfl), (by first | rfl | (rw [rfl]; rfl))⟩), rfl, hle.d rfl⟩
         exact trivial
        case hk39x => rfl
        case hf39x => rfl
        refine aops_no rfl rfl rfl rfl rfl (by decide) ?_
        refine aops_no rfl rfl rfl rfl rfl (by decide) ?_
        refine aops_yes rfl rfl rfl rfl q50 (st_pick_yes rfl (by first | rfl | exact rfl) rfl rfl) ?_
        refine aops_step1 rfl (st_pick_yes rfl (by first | rfl | exact q50) rfl rfl) ?_
        refine aops_nil ?_
        refine aw_yes rfl (rfl) ?_
        refine aw_seq ?_
        refine aw_region ?_
        refine aops_step1 rfl (st_assign rfl rfl) ?_
        refine aops_nil ?_
        cases Option.some.inj j5
        replace h := Md.onS_r h
        cases Option.some.inj h
        refine aw_ret ⟨rfl, ret_v (.inl ⟨_, rfl, rfl, fun _ e => nomatch e⟩) rfl rfl rfl ?_⟩
        (repeat' (first | exact TLe.refl _ | exact VLe.refl _ | exact CLe.refl _ | exact All2.nil | refine TLe.tup ?_ | refine TLe.v ?_ | refine All2.cons ?_ ?_ | refine VLe.agg ?_ | refine VLe.one ?_ | exact CLe.nil _ | exact CLe.emp _ | refine CLe.val ?_ | refine CLe.slc ?_ ?_))
      replace j5 := Md.cond_f j5 q51
      rcases Md.bool_or ((decide (x49.2.1 > ((a0.length : Nat) : Int)))) with q52 | q52
      · replace j5 := Md.cond_t j5 q52
        refine aw_seq ?_
        apply aw_draw 17 ((⟨[], .one (.val (.int .i64 x49.2.2))⟩ : Add) :: ⟨[], .one (.val (.bool (x49.2.2 == 0)))⟩ :: ⟨[], .one (.val (.bool (x49.2.2 == 0)))⟩ :: ⟨[], .one (.val (.int .i64 x49.2.1))⟩ :: ⟨[], .one (.val (.bool (decide (x49.2.1 < 1))))⟩ :: ⟨[], .one (.val (.bool (decide (x49.2.1 < 1))))⟩ :: ⟨[], .one (.val (.int .i64 x49.2.1))⟩ :: ⟨[], .one (CV.ls byC a0)⟩ :: ⟨[], .one (.val (.int .i64 ((a0.length : Nat) : Int)))⟩ :: ⟨[], .one (.val (.bool (decide (x49.2.1 > ((a0.length : Nat) : Int)))))⟩ :: ⟨[], .one (.val (.bool (decide (x49.2.1 > ((a0.length : Nat) : Int)))))⟩ :: ⟨[], .one (.val (.bool (decide (x49.2.1 > ((a0.length : Nat) : Int)))))⟩ :: ⟨[], .tup []⟩ :: ⟨[], .tup []⟩ :: ⟨[], .tup []⟩ :: ⟨[], .tup []⟩ :: ⟨[], .tup []⟩ :: []) (by decide) rfl ?hk40x ?hf40x ?ho40x ?hr40x
        case ho40x =>
         refine ⟨⟨[], (by decide +kernel), fun S hle hfr => ?_⟩, ?_⟩
         · exact .inl ⟨.inl ⟨rfl, rfl⟩, st_move (hle.ev rfl (by nofun)) (hle.d rfl)⟩
         refine ⟨⟨0 :: [], (by decide +kernel), fun S hle hfr => ?_⟩, ?_⟩
         · exact .inl ⟨.inl ⟨rfl, rfl⟩, ev_cmp (hle.ev rfl (by nofun)) (hle.ev rfl (by nofun)) (hle.d rfl) rfl⟩
         refine ⟨⟨1 :: 0 :: [], (by decide +kernel), fun S hle hfr => ?_⟩, ?_⟩
         · exact .inl ⟨.inl ⟨rfl, rfl⟩, st_move (hle.ev rfl (by nofun)) (hle.d rfl)⟩
         refine ⟨⟨2 :: 1 :: 0 :: [], (by decide +kernel), fun S hle hfr => ?_⟩, ?_⟩
         · exact .inl ⟨.inr (.inl ⟨_, _, _, _, rfl, rfl, (hle.ev (x := .tmp _) rfl (by nofun)), (by rw [hle.nt]; rfl), (by first | rfl | (rw [q50]; rfl))⟩), st_move (hle.ev rfl (by nofun)) (hle.d rfl)⟩
         refine ⟨⟨3 :: 2 :: 1 :: 0 :: [], (by decide +kernel), fun S hle hfr => ?_⟩, ?_⟩
         · exact .inl ⟨.inr (.inl ⟨_, _, _, _, rfl, rfl, (hle.ev (x := .tmp _) rfl (by nofun)), (by rw [hle.nt]; rfl), (by first | rfl | (rw [q50]; rfl))⟩), ev_cmp (hle.ev rfl (by nofun)) (hle.ev rfl (by nofun)) (hle.d rfl) rfl⟩
         refine ⟨⟨4 :: 2 :: 3 :: 1 :: 0 :: [], (by decide +kernel), fun S hle hfr => ?_⟩, ?_⟩
         · exact .inl ⟨.inr (.inl ⟨_, _, _, _, rfl, rfl, (hle.ev (x := .tmp _) rfl (by nofun)), (by rw [hle.nt]; rfl), (by first | rfl | (rw [q50]; rfl))⟩), st_move (hle.ev rfl (by nofun)) (hle.d rfl)⟩
         refine ⟨⟨5 :: 4 :: 2 :: 3 :: 1 :: 0 :: [], (by decide +kernel), fun S hle hfr => ?_⟩, ?_⟩
         · exact .inl ⟨.inr (.inl ⟨_, _, _, _, rfl, rfl, (hle.ev (x := .tmp _) rfl (by nofun)), (by rw [hle.nt]; rfl), (by first | rfl | (rw [q51]; rfl))⟩), st_move (hle.ev rfl (by nofun)) (hle.d rfl)⟩
         refine ⟨⟨5 :: 4 :: 2 :: 3 :: 1 :: 0 :: [], (by decide +kernel), fun S hle hfr => ?_⟩, ?_⟩
         · exact .inl ⟨.inr (.inl ⟨_, _, _, _, rfl, rfl, (hle.ev (x := .tmp _) rfl (by nofun)), (by rw [hle.nt]; rfl), (by first | rfl | (rw [q51]; rfl))⟩), st_move (hle.ev rfl (by nofun)) (hle.d rfl)⟩
         refine ⟨⟨7 :: 5 :: 4 :: 2 :: 3 :: 1 :: 0 :: [], (by decide +kernel), fun S hle hfr => ?_⟩, ?_⟩
         · exact .inl ⟨.inr (.inl ⟨_, _, _, _, rfl, rfl, (hle.ev (x := .tmp _) rfl (by nofun)), (by rw [hle.nt]; rfl), (by first | rfl | (rw [q51]; rfl))⟩), ev_len_slc (hle.ev rfl (by nofun)) (hle.d rfl)⟩
         refine ⟨⟨6 :: 8 :: 5 :: 7 :: 4 :: 2 :: 3 :: 1 :: 0 :: [], (by decide +kernel), fun S hle hfr => ?_⟩, ?_⟩
         · exact .inl ⟨.inr (.inl ⟨_, _, _, _, rfl, rfl, (hle.ev (x := .tmp _) rfl (by nofun)), (by rw [hle.nt]; rfl), (by first | rfl | (rw [q51]; rfl))⟩), ev_cmp (hle.ev rfl (by nofun)) (hle.ev rfl (by nofun)) (hle.d rfl) rfl⟩
         refine ⟨⟨5 :: 9 :: 2 :: 4 :: 6 :: 8 :: 1 :: 3 :: 7 :: 0 :: [], (by decide +kernel), fun S hle hfr => ?_⟩, ?_⟩
         · exact .inl ⟨.inr (.inl ⟨_, _, _, _, rfl, rfl, (hle.ev (x := .tmp _) rfl (by nofun)), (by rw [hle.nt]; rfl), (by first | rfl | (rw [q50]; rfl))⟩), st_pick_no (hle.ev rfl (by nofun)) (by first | rfl | exact q51) (hle.ev rfl (by nofun)) (hle.d rfl)⟩
         refine ⟨⟨10 :: 5 :: 2 :: 9 :: 4 :: 1 :: 6 :: 8 :: 3 :: 0 :: 7 :: [], (by decide +kernel), fun S hle hfr => ?_⟩, ?_⟩
         · exact .inl ⟨.inr (.inl ⟨_, _, _, _, rfl, rfl, (hle.ev (x := .tmp _) rfl (by nofun)), (by rw [hle.nt]; rfl), (by first | rfl | (rw [q50]; rfl))⟩), st_move (hle.ev rfl (by nofun)) (hle.d rfl)⟩
         refine ⟨⟨11 :: 10 :: 5 :: 2 :: 9 :: 4 :: 1 :: 6 :: 8 :: 3 :: 0 :: 7 :: [], (by decide +kernel), fun S hle hfr => ?_⟩, ?_⟩
         · exact .inr ⟨.inr (.inl ⟨_, _, _, _, rfl, rfl, (hle.ev (x := .tmp _) rfl (by nofun)), (by rw [hle.nt]; rfl), (by first | rfl | (rw [q52]; rfl))⟩), rfl, hle.d rfl⟩
         refine ⟨⟨11 :: 10 :: 5 :: 2 :: 9 :: 4 :: 1 :: 6 :: 8 :: 3 :: 0 :: 7 :: [], (by decide +kernel), fun S hle hfr => ?_⟩, ?_⟩
         · exact .inr ⟨.inr (.inl ⟨_, _, _, _, rfl, rfl, (hle.ev (x := .tmp _) rfl (by nofun)), (by rw [hle.nt]; rfl), (by first | rfl | (rw [q52]; rfl))⟩), rfl, hle.d rfl⟩
         refine ⟨⟨12 :: 13 :: 11 :: 10 :: 5 :: 2 :: 9 :: 4 :: 1 :: 6 :: 8 :: 3 :: 0 :: 7 :: [], (by decide +kernel), fun S hle hfr => ?_⟩, ?_⟩
         · exact .inr ⟨.inr (.inl ⟨_, _, _, _, rfl, rfl, (hle.ev (x := .tmp _) rfl (by nofun)), (by rw [hle.nt]; rfl), (by first | rfl | (rw [q52]; rfl))⟩), rfl, hle.d rfl⟩
         refine ⟨⟨11 :: 10 :: 5 :: 2 :: 9 :: 4 :: 1 :: 6 :: 8 :: 3 :: 0 :: 7 :: [], (by decide +kernel), fun S hle hfr => ?_⟩, ?_⟩
         · exact .inr ⟨.inr (.inl ⟨_, _, _, _, rfl, rfl, (hle.ev (x := .tmp _) rfl (by nofun)), (by rw [hle.nt]; rfl), (by first | rfl | (rw [q52]; rfl))⟩), rfl, hle.d rfl⟩
         refine ⟨⟨15 :: 11 :: 10 :: 5 :: 2 :: 9 :: 4 :: 1 :: 6 :: 8 :: 3 :: 0 :: 7 :: [], (by decide +kernel), fun S hle hfr => ?_⟩, ?_⟩
         · exact .inr ⟨.inr (.inl ⟨_, _, _, _, rfl, rfl, (hle.ev (x := .tmp _) rfl (by nofun)), (by rw [hle.nt]; rfl), (by first | rfl | (rw [q52]; rfl))⟩), rfl, hle.d rfl⟩
         exact trivial
        case hk40x => rfl
        case hf40x => rfl
        refine aops_no rfl rfl rfl rfl rfl (by first | decide | (rw [q52]; decide)) ?_
        refine aops_no rfl rfl rfl rfl rfl (by first | decide | (rw [q52]; decide)) ?_
        refine aops_yes rfl rfl rfl rfl q50 (st_pick_yes rfl (by first | rfl | exact q52) rfl rfl) ?_
        refine aops_step1 rfl (st_pick_yes rfl (by first | rfl | exact q50) rfl rfl) ?_
        refine aops_nil ?_
        refine aw_yes rfl (rfl) ?_
        refine aw_seq ?_
        refine aw_region ?_
        refine aops_step1 rfl (st_assign rfl rfl) ?_
        refine aops_nil ?_
        cases Option.some.inj j5
        replace h := Md.onS_r h
        cases Option.some.inj h
        refine aw_ret ⟨rfl, ret_v (.inl ⟨_, rfl, rfl, fun _ e => nomatch e⟩) rfl rfl rfl ?_⟩
        (repeat' (first | exact TLe.refl _ | exact VLe.refl _ | exact CLe.refl _ | exact All2.nil | refine TLe.tup ?_ | refine TLe.v ?_ | refine All2.cons ?_ ?_ | refine VLe.agg ?_ | refine VLe.one ?_ | exact CLe.nil _ | exact CLe.emp _ | refine CLe.val ?_ | refine CLe.slc ?_ ?_))
      replace j5 := Md.cond_f j5 q52
      obtain ⟨g53, j5⟩ := Md.ifp_s j5
      obtain ⟨g54, j5⟩ := Md.ifp_s j5
      obtain ⟨x55, hx55, j5⟩ := Md.bind_s j5
      obtain ⟨x56, hx56, j5⟩ := Md.bind_s j5
      refine aw_seq ?_
      apply aw_draw 17 ((⟨[], .one (.val (.int .i64 x49.2.2))⟩ : Add) :: ⟨[], .one (.val (.bool (x49.2.2 == 0)))⟩ :: ⟨[], .one (.val (.bool (x49.2.2 == 0)))⟩ :: ⟨[], .one (.val (.int .i64 x49.2.1))⟩ :: ⟨[], .one (.val (.bool (decide (x49.2.1 < 1))))⟩ :: ⟨[], .one (.val (.bool (decide (x49.2.1 < 1))))⟩ :: ⟨[], .one (.val (.int .i64 x49.2.1))⟩ :: ⟨[], .one (CV.ls byC a0)⟩ :: ⟨[], .one (.val (.int .i64 ((a0.length : Nat) : Int)))⟩ :: ⟨[], .one (.val (.bool (decide (x49.2.1 > ((a0.length : Nat) : Int)))))⟩ :: ⟨[], .one (.val (.bool (decide (x49.2.1 > ((a0.length : Nat) : Int)))))⟩ :: ⟨[], .one (.val (.bool (decide (x49.2.1 > ((a0.length : Nat) : Int)))))⟩ :: ⟨[], .one (CV.ls byC a0)⟩ :: ⟨[], .one (.val (.int .i64 x49.2.1))⟩ :: ⟨[], .one (CV.ls byC (a0.take ((x49.2.1).toNat)))⟩ :: ⟨[], .one (.val (.int .i64 x49.1))⟩ :: ⟨[], .one (CV.ls byC x55)⟩ :: []) (by decide) rfl ?hk41x ?hf41x ?ho41x ?hr41x
      case ho41x =>
       refine ⟨⟨[], (by decide +kernel), fun S hle hfr => ?_⟩, ?_⟩
       · exact .inl ⟨.inl ⟨rfl, rfl⟩, st_move (hle.ev rfl (by nofun)) (hle.d rfl)⟩
       refine ⟨⟨0 :: [], (by decide +kernel), fun S hle hfr => ?_⟩, ?_⟩
       · exact .inl ⟨.inl ⟨rfl, rfl⟩, ev_cmp (hle.ev rfl (by nofun)) (hle.ev rfl (by nofun)) (hle.d rfl) rfl⟩
       refine ⟨⟨1 :: 0 :: [], (by decide +kernel), fun S hle hfr => ?_⟩, ?_⟩
       · exact .inl ⟨.inl ⟨rfl, rfl⟩, st_move (hle.ev rfl (by nofun)) (hle.d rfl)⟩
       refine ⟨⟨2 :: 1 :: 0 :: [], (by decide +kernel), fun S hle hfr => ?_⟩, ?_⟩
       · exact .inl ⟨.inr (.inl ⟨_, _, _, _, rfl, rfl, (hle.ev (x := .tmp _) rfl (by nofun)), (by rw [hle.nt]; rfl), (by first | rfl | (rw [q50]; rfl))⟩), st_move (hle.ev rfl (by nofun)) (hle.d rfl)⟩
       refine ⟨⟨3 :: 2 :: 1 :: 0 :: [], (by decide +kernel), fun S hle hfr => ?_⟩, ?_⟩
       · exact .inl ⟨.inr (.inl ⟨_, _, _, _, rfl, rfl, (hle.ev (x := .tmp _) rfl (by nofun)), (by rw [hle.nt]; rfl), (by first | rfl | (rw [q50]; rfl))⟩), ev_cmp (hle.ev rfl (by nofun)) (hle.ev rfl (by nofun)) (hle.d rfl) rfl⟩
       refine ⟨⟨4 :: 2 :: 3 :: 1 :: 0 :: [], (by decide +kernel), fun S hle hfr => ?_⟩, ?_⟩
       · exact .inl ⟨.inr (.inl ⟨_, _, _, _, rfl, rfl, (hle.ev (x := .tmp _) rfl (by nofun)), (by rw [hle.nt]; rfl), (by first | rfl | (rw [q50]; rfl))⟩), st_move (hle.ev rfl (by nofun)) (hle.d rfl)⟩
       refine ⟨⟨5 :: 4 :: 2 :: 3 :: 1 :: 0 :: [], (by decide +kernel), fun S hle hfr => ?_⟩, ?_⟩
       · exact .inl ⟨.inr (.inl ⟨_, _, _, _, rfl, rfl, (hle.ev (x := .tmp _) rfl (by nofun)), (by rw [hle.nt]; rfl), (by first | rfl | (rw [q51]; rfl))⟩), st_move (hle.ev rfl (by nofun)) (hle.d rfl)⟩
       refine ⟨⟨5 :: 4 :: 2 :: 3 :: 1 :: 0 :: [], (by decide +kernel), fun S hle hfr => ?_⟩, ?_⟩
       · exact .inl ⟨.inr (.inl ⟨_, _, _, _, rfl, rfl, (hle.ev (x := .tmp _) rfl (by nofun)), (by rw [hle.nt]; rfl), (by first | rfl | (rw [q51]; rfl))⟩), st_move (hle.ev rfl (by nofun)) (hle.d rfl)⟩
       refine ⟨⟨7 :: 5 :: 4 :: 2 :: 3 :: 1 :: 0 :: [], (by decide +kernel), fun S hle hfr => ?_⟩, ?_⟩
       · exact .inl ⟨.inr (.inl ⟨_, _, _, _, rfl, rfl, (hle.ev (x := .tmp _) rfl (by nofun)), (by rw [hle.nt]; rfl), (by first | rfl | (rw [q51]; rfl))⟩), ev_len_slc (hle.ev rfl (by nofun)) (hle.d rfl)⟩
       refine ⟨⟨6 :: 8 :: 5 :: 7 :: 4 :: 2 :: 3 :: 1 :: 0 :: [], (by decide +kernel), fun S hle hfr => ?_⟩, ?_⟩
       · exact .inl ⟨.inr (.inl ⟨_, _, _, _, rfl, rfl, (hle.ev (x := .tmp _) rfl (by nofun)), (by rw [hle.nt]; rfl), (by first | rfl | (rw [q51]; rfl))⟩), ev_cmp (hle.ev rfl (by nofun)) (hle.ev rfl (by nofun)) (hle.d rfl) rfl⟩
       refine ⟨⟨5 :: 9 :: 2 :: 4 :: 6 :: 8 :: 1 :: 3 :: 7 :: 0 :: [], (by decide +kernel), fun S hle hfr => ?_⟩, ?_⟩
       · exact .inl ⟨.inr (.inl ⟨_, _, _, _, rfl, rfl, (hle.ev (x := .tmp _) rfl (by nofun)), (by rw [hle.nt]; rfl), (by first | rfl | (rw [q50]; rfl))⟩), st_pick_no (hle.ev rfl (by nofun)) (by first | rfl | exact q51) (hle.ev rfl (by nofun)) (hle.d rfl)⟩
       refine ⟨⟨10 :: 5 :: 2 :: 9 :: 4 :: 1 :: 6 :: 8 :: 3 :: 0 :: 7 :: [], (by decide +kernel), fun S hle hfr => ?_⟩, ?_⟩
       · exact .inl ⟨.inr (.inl ⟨_, _, _, _, rfl, rfl, (hle.ev (x := .tmp _) rfl (by nofun)), (by rw [hle.nt]; rfl), (by first | rfl | (rw [q50]; rfl))⟩), st_move (hle.ev rfl (by nofun)) (hle.d rfl)⟩
       refine ⟨⟨11 :: 10 :: 5 :: 2 :: 9 :: 4 :: 1 :: 6 :: 8 :: 3 :: 0 :: 7 :: [], (by decide +kernel), fun S hle hfr => ?_⟩, ?_⟩
       · exact .inl ⟨.inr (.inl ⟨_, _, _, _, rfl, rfl, (hle.ev (x := .tmp _) rfl (by nofun)), (by rw [hle.nt]; rfl), (by first | rfl | (rw [q52]; rfl))⟩), st_move (hle.ev rfl (by nofun)) (hle.d rfl)⟩
       refine ⟨⟨11 :: 10 :: 5 :: 2 :: 9 :: 4 :: 1 :: 6 :: 8 :: 3 :: 0 :: 7 :: [], (by decide +kernel), fun S hle hfr => ?_⟩, ?_⟩
       · exact .inl ⟨.inr (.inl ⟨_, _, _, _, rfl, rfl, (hle.ev (x := .tmp _) rfl (by nofun)), (by rw [hle.nt]; rfl), (by first | rfl | (rw [q52]; rfl))⟩), st_move (hle.ev rfl (by nofun)) (hle.d rfl)⟩
       refine ⟨⟨12 :: 13 :: 11 :: 10 :: 5 :: 2 :: 9 :: 4 :: 1 :: 6 :: 8 :: 3 :: 0 :: 7 :: [], (by decide +kernel), fun S hle hfr => ?_⟩, ?_⟩
       · exact .inl ⟨.inr (.inl ⟨_, _, _, _, rfl, rfl, (hle.ev (x := .tmp _) rfl (by nofun)), (by rw [hle.nt]; rfl), (by first | rfl | (rw [q52]; rfl))⟩), st_cut_hi (f := byC) (fun _ => rfl) (hle.ev rfl (by nofun)) ⟨_, _, (hle.ev rfl (by nofun)), (Md.nn_eq g53)⟩ g54 (hle.d rfl)⟩
       refine ⟨⟨11 :: 10 :: 5 :: 2 :: 9 :: 4 :: 1 :: 6 :: 8 :: 3 :: 0 :: 7 :: [], (by decide +kernel), fun S hle hfr => ?_⟩, ?_⟩
       · exact .inl ⟨.inr (.inl ⟨_, _, _, _, rfl, rfl, (hle.ev (x := .tmp _) rfl (by nofun)), (by rw [hle.nt]; rfl), (by first | rfl | (rw [q52]; rfl))⟩), st_move (hle.ev rfl (by nofun)) (hle.d rfl)⟩
       refine ⟨⟨15 :: 11 :: 10 :: 5 :: 2 :: 9 :: 4 :: 1 :: 6 :: 8 :: 3 :: 0 :: 7 :: [], (by decide +kernel), fun S hle hfr => ?_⟩, ?_⟩
       · exact .inl ⟨.inr (.inl ⟨_, _, _, _, rfl, rfl, (hle.ev (x := .tmp _) rfl (by nofun)), (by rw [hle.nt]; rfl), (by first | rfl | (rw [q52]; rfl))⟩), st_call_z (wire_AppendInt_fn k ([] : List UInt8) x49.1 x55 hx55) (map_ev (.cons (hle.ev rfl (by nofun)) (.cons (hle.ev rfl (by nofun)) (.nil)))) [] (fun _ => (by repeat' (first | exact All2.nil | refine All2.cons ?_ ?_ | refine ArgV.one ?_ | refine ArgV.agg ?_ | exact ArgC.mk rfl | exact ArgC.lend (hle.heap _ _ rfl) (by simp) | exact ArgC.le (CLe.nil _) rfl | exact ArgC.le (CLe.emp _) rfl | exact ArgC.le (CLe.any _) rfl))) rfl (.inl rfl) (hle.d rfl)⟩
       exact trivial
      case hk41x => rfl
      case hf41x => rfl
      refine aops_yes rfl rfl rfl rfl q52 (ev_call_v (actorgridlaw1_same_fn k (a0.take ((x49.2.1).toNat)) x55 x56 hx56) rfl [] (by repeat' (first | exact All2.nil | refine All2.cons ?_ ?_ | refine ArgV.one ?_ | refine ArgV.agg ?_ | exact ArgC.mk rfl | exact ArgC.lend rfl (by simp) | exact ArgC.le (CLe.nil _) rfl | exact ArgC.le (CLe.emp _) rfl | exact ArgC.le (CLe.any _) rfl)) rfl rfl rfl (.inl rfl) rfl) ?_
      refine aops_yes rfl rfl rfl rfl q52 (ev_not rfl rfl) ?_
      refine aops_yes rfl rfl rfl rfl q50 (st_pick_no rfl (by first | rfl | exact q52) rfl rfl) ?_
      refine aops_step1 rfl (st_pick_yes rfl (by first | rfl | exact q50) rfl rfl) ?_
      refine aops_nil ?_
      refine aw_cond rfl (fun c57 => ?_) (fun c57 => ?_)
      · replace j5 := Md.cond_t j5 c57
        refine aw_seq ?_
        refine aw_region ?_
        refine aops_step1 rfl (st_assign rfl rfl) ?_
        refine aops_nil ?_
        cases Option.some.inj j5
        replace h := Md.onS_r h
        cases Option.some.inj h
        refine aw_ret ⟨rfl, ret_v (.inl ⟨_, rfl, rfl, fun _ e => nomatch e⟩) rfl rfl rfl ?_⟩
        (repeat' (first | exact TLe.refl _ | exact VLe.refl _ | exact CLe.refl _ | exact All2.nil | refine TLe.tup ?_ | refine TLe.v ?_ | refine All2.cons ?_ ?_ | refine VLe.agg ?_ | refine VLe.one ?_ | exact CLe.nil _ | exact CLe.emp _ | refine CLe.val ?_ | refine CLe.slc ?_ ?_))
      replace j5 := Md.cond_f j5 c57
      refine aw_skip ?_
      show ∃ _x : Unit, _ = _ ∧ Weak _ _
      exact ⟨(), Option.some.inj j5, (by (refine weak_mk rfl rfl ?_ ?_ rfl <;> repeat' (first | exact trivial | refine ⟨?_, ?_⟩ | exact VLe.refl _ | exact BLe.refl _ | refine VLe.one (CLe.val ?_) | exact VLe.one (CLe.nil _) | exact VLe.one (CLe.emp _))))⟩
    replace j5 := Md.cond_f j5 q50
    refine aw_seq ?_
    apply aw_draw 17 ((⟨[], .one (.val (.int .i64 x49.2.2))⟩ : Add) :: ⟨[], .one (.val (.bool (x49.2.2 == 0)))⟩ :: ⟨[], .one (.val (.bool (x49.2.2 == 0)))⟩ :: ⟨[], .tup []⟩ :: ⟨[], .tup []⟩ :: ⟨[], .tup []⟩ :: ⟨[], .tup []⟩ :: ⟨[], .tup []⟩ :: ⟨[], .tup []⟩ :: ⟨[], .tup []⟩ :: ⟨[], .tup []⟩ :: ⟨[], .tup []⟩ :: ⟨[], .tup []⟩ :: ⟨[], .tup []⟩ :: ⟨[], .tup []⟩ :: ⟨[], .tup []⟩ :: ⟨[], .tup []⟩ :: []) (by decide) rfl ?hk42x ?hf42x ?ho42x ?hr42x
    case ho42x =>
     refine ⟨⟨[], (by decide +kernel), fun S hle hfr => ?_⟩, ?_⟩
     · exact .inl ⟨.inl ⟨rfl, rfl⟩, st_move (hle.ev rfl (by nofun)) (hle.d rfl)⟩
     refine ⟨⟨0 :: [], (by decide +kernel), fun S hle hfr => ?_⟩, ?_⟩
     · exact .inl ⟨.inl ⟨rfl, rfl⟩, ev_cmp (hle.ev rfl (by nofun)) (hle.ev rfl (by nofun)) (hle.d rfl) rfl⟩
     refine ⟨⟨1 :: 0 :: [], (by decide +kernel), fun S hle hfr => ?_⟩, ?_⟩
     · exact .inl ⟨.inl ⟨rfl, rfl⟩, st_move (hle.ev rfl (by nofun)) (hle.d rfl)⟩
     refine ⟨⟨2 :: 1 :: 0 :: [], (by decide +kernel), fun S hle hfr => ?_⟩, ?_⟩
     · exact .inr ⟨.inr (.inl ⟨_, _, _, _, rfl, rfl, (hle.ev (x := .tmp _) rfl (by nofun)), (by rw [hle.nt]; rfl), (by first | rfl | (rw [q50]; rfl))⟩), rfl, hle.d rfl⟩
     refine ⟨⟨3 :: 2 :: 1 :: 0 :: [], (by decide +kernel), fun S hle hfr => ?_⟩, ?_⟩
     · exact .inr ⟨.inr (.inl ⟨_, _, _, _, rfl, rfl, (hle.ev (x := .tmp _) rfl (by nofun)), (by rw [hle.nt]; rfl), (by first | rfl | (rw [q50]; rfl))⟩), rfl, hle.d rfl⟩
     refine ⟨⟨4 :: 2 :: 3 :: 1 :: 0 :: [], (by decide +kernel), fun S hle hfr => ?_⟩, ?_⟩
     · exact .inr ⟨.inr (.inl ⟨_, _, _, _, rfl, rfl, (hle.ev (x := .tmp _) rfl (by nofun)), (by rw [hle.nt]; rfl), (by first | rfl | (rw [q50]; rfl))⟩), rfl, hle.d rfl⟩
     refine ⟨⟨5 :: 4 :: 2 :: 3 :: 1 :: 0 :: [], (by decide +kernel), fun S hle hfr => ?_⟩, ?_⟩
     · exact .inr ⟨.inr (.inr ⟨_, _, _, rfl, rfl, (hle.ev (x := .tmp _) rfl (by nofun)), (by rw [hle.nt]; rfl), rfl⟩), rfl, hle.d rfl⟩
     refine ⟨⟨5 :: 4 :: 2 :: 3 :: 1 :: 0 :: [], (by decide +kernel), fun S hle hfr => ?_⟩, ?_⟩
     · exact .inr ⟨.inr (.inr ⟨_, _, _, rfl, rfl, (hle.ev (x := .tmp _) rfl (by nofun)), (by rw [hle.nt]; rfl), rfl⟩), rfl, hle.d rfl⟩
     refine ⟨⟨7 :: 5 :: 4 :: 2 :: 3 :: 1 :: 0 :: [], (by decide +kernel), fun S hle hfr => ?_⟩, ?_⟩
     · exact .inr ⟨.inr (.inr ⟨_, _, _, rfl, rfl, (hle.ev (x := .tmp _) rfl (by nofun)), (by rw [hle.nt]; rfl), rfl⟩), rfl, hle.d rfl⟩
     refine ⟨⟨6 :: 8 :: 5 :: 7 :: 4 :: 2 :: 3 :: 1 :: 0 :: [], (by decide +kernel), fun S hle hfr => ?_⟩, ?_⟩
     · exact .inr ⟨.inr (.inr ⟨_, _, _, rfl, rfl, (hle.ev (x := .tmp _) rfl (by nofun)), (by rw [hle.nt]; rfl), rfl⟩), rfl, hle.d rfl⟩
     refine ⟨⟨5 :: 9 :: 2 :: 4 :: 6 :: 8 :: 1 :: 3 :: 7 :: 0 :: [], (by decide +kernel), fun S hle hfr => ?_⟩, ?_⟩
     · exact .inr ⟨.inr (.inl ⟨_, _, _, _, rfl, rfl, (hle.ev (x := .tmp _) rfl (by nofun)), (by rw [hle.nt]; rfl), (by first | rfl | (rw [q50]; rfl))⟩), rfl, hle.d rfl⟩
     refine ⟨⟨10 :: 5 :: 2 :: 9 :: 4 :: 1 :: 6 :: 8 :: 3 :: 0 :: 7 :: [], (by decide +kernel), fun S hle hfr => ?_⟩, ?_⟩
     · exact .inr ⟨.inr (.inl ⟨_, _, _, _, rfl, rfl, (hle.ev (x := .tmp _) rfl (by nofun)), (by rw [hle.nt]; rfl), (by first | rfl | (rw [q50]; rfl))⟩), rfl, hle.d rfl⟩
     refine ⟨⟨11 :: 10 :: 5 :: 2 :: 9 :: 4 :: 1 :: 6 :: 8 :: 3 :: 0 :: 7 :: [], (by decide +kernel), fun S hle hfr => ?_⟩, ?_⟩
     · exact .inr ⟨.inr (.inr ⟨_, _, _, rfl, rfl, (hle.ev (x := .tmp _) rfl (by nofun)), (by rw [hle.nt]; rfl), rfl⟩), rfl, hle.d rfl⟩
     refine ⟨⟨11 :: 10 :: 5 :: 2 :: 9 :: 4 :: 1 :: 6 :: 8 :: 3 :: 0 :: 7 :: [], (by decide +kernel), fun S hle hfr => ?_⟩, ?_⟩
     · exact .inr ⟨.inr (.inr ⟨_, _, _, rfl, rfl, (hle.ev (x := .tmp _) rfl (by nofun)), (by rw [hle.nt]; rfl), rfl⟩), rfl, hle.d rfl⟩
     refine ⟨⟨12 :: 13 :: 11 :: 10 :: 5 :: 2 :: 9 :: 4 :: 1 :: 6 :: 8 :: 3 :: 0 :: 7 :: [], (by decide +kernel), fun S hle hfr => ?_⟩, ?_⟩
     · exact .inr ⟨.inr (.inr ⟨_, _, _, rfl, rfl, (hle.ev (x := .tmp _) rfl (by nofun)), (by rw [hle.nt]; rfl), rfl⟩), rfl, hle.d rfl⟩
     refine ⟨⟨11 :: 10 :: 5 :: 2 :: 9 :: 4 :: 1 :: 6 :: 8 :: 3 :: 0 :: 7 :: [], (by decide +kernel), fun S hle hfr => ?_⟩, ?_⟩
     · exact .inr ⟨.inr (.inr ⟨_, _, _, rfl, rfl, (hle.ev (x := .tmp _) rfl (by nofun)), (by rw [hle.nt]; rfl), rfl⟩), rfl, hle.d rfl⟩
     refine ⟨⟨15 :: 11 :: 10 :: 5 :: 2 :: 9 :: 4 :: 1 :: 6 :: 8 :: 3 :: 0 :: 7 :: [], (by decide +kernel), fun S hle hfr => ?_⟩, ?_⟩
     · exact .inr ⟨.inr (.inr ⟨_, _, _, rfl, rfl, (hle.ev (x := .tmp _) rfl (by nofun)), (by rw [hle.nt]; rfl), rfl⟩), rfl, hle.d rfl⟩
     exact trivial
    case hk42x => rfl
    case hf42x => rfl
    refine aops_und rfl rfl rfl rfl rfl ?_
    refine aops_und rfl rfl rfl rfl rfl ?_
    refine aops_no rfl rfl rfl rfl rfl (by first | decide | (rw [q50]; decide)) ?_
    refine aops_step1 rfl (st_pick_no rfl (by first | rfl | exact q50) rfl rfl) ?_
    refine aops_nil ?_
    refine aw_no rfl (rfl) ?_
    refine aw_skip ?_
    show ∃ _x : Unit, _ = _ ∧ Weak _ _
    exact ⟨(), Option.some.inj j5, (by (refine weak_mk rfl rfl ?_ ?_ rfl <;> repeat' (first | exact trivial | refine ⟨?_, ?_⟩ | exact VLe.refl _ | exact BLe.refl _ | refine VLe.one (CLe.val ?_) | exact VLe.one (CLe.nil _) | exact VLe.one (CLe.emp _))))⟩
  refine aw_seq ?_
  refine aw_region ?_
  refine aops_step1 rfl (st_move rfl rfl) ?_
  obtain ⟨x58, hx58, j4⟩ := Md.bind_s j4
  refine aops_step1 rfl (ev_call_v (wire_Uint_fn k a0 x58 hx58) rfl [] (by repeat' (first | exact All2.nil | refine All2.cons ?_ ?_ | refine ArgV.one ?_ | refine ArgV.agg ?_ | exact ArgC.mk rfl | exact ArgC.lend rfl (by simp) | exact ArgC.le (CLe.nil _) rfl | exact ArgC.le (CLe.emp _) rfl | exact ArgC.le (CLe.any _) rfl)) rfl rfl rfl (.inl rfl) rfl) ?_
  refine aops_step1 rfl (st_movet rfl rfl) ?_
  refine aops_step1 rfl (ev_extract rfl rfl rfl) ?_
  refine aops_step1 rfl (ev_extract rfl rfl rfl) ?_
  refine aops_step1 rfl (ev_extract rfl rfl rfl) ?_
  refine aops_step1 rfl (st_assign rfl rfl) ?_
  refine aops_step1 rfl (st_assign rfl rfl) ?_
  refine aops_step1 rfl (st_assign rfl rfl) ?_
  refine aops_nil ?_
  rcases Md.bool_or ((x58.2.2 == 0)) with q59 | q59
  · replace j4 := Md.cond_t j4 q59
    rcases Md.bool_or ((decide (x58.2.1 < 1))) with q60 | q60
    · replace j4 := Md.cond_t j4 q60
      refine aw_seq ?_
      apply aw_draw 17 ((⟨[], .one (.val (.int .i64 x58.2.2))⟩ : Add) :: ⟨[], .one (.val (.bool (x58.2.2 == 0)))⟩ :: ⟨[], .one (.val (.bool (x58.2.2 == 0)))⟩ :: ⟨[], .one (.val (.int .i64 x58.2.1))⟩ :: ⟨[], .one (.val (.bool (decide (x58.2.1 < 1))))⟩ :: ⟨[], .one (.val (.bool (decide (x58.2.1 < 1))))⟩ :: ⟨[], .tup []⟩ :: ⟨[], .tup []⟩ :: ⟨[], .tup []⟩ :: ⟨[], .tup []⟩ :: ⟨[], .one (.val (.bool true))⟩ :: ⟨[], .one (.val (.bool true))⟩ :: ⟨[], .tup []⟩ :: ⟨[], .tup []⟩ :: ⟨[], .tup []⟩ :: ⟨[], .tup []⟩ :: ⟨[], .tup []⟩ :: []) (by decide) rfl ?hk43x ?hf43x ?ho43x ?hr43x
      case ho43x =>
       refine ⟨⟨[], (by decide +kernel), fun S hle hfr => ?_⟩, ?_⟩
       · exact .inl ⟨.inl ⟨rfl, rfl⟩, st_move (hle.ev rfl (by nofun)) (hle.d rfl)⟩
       refine ⟨⟨0 :: [], (by decide +kernel), fun S hle hfr => ?_⟩, ?_⟩
       · exact .inl ⟨.inl ⟨rfl, rfl⟩, ev_cmp (hle.ev rfl (by nofun)) (hle.ev rfl (by nofun)) (hle.d rfl) rfl⟩
       refine ⟨⟨1 :: 0 :: [], (by decide +kernel), fun S hle hfr => ?_⟩, ?_⟩
       · exact .inl ⟨.inl ⟨rfl, rfl⟩, st_move (hle.ev rfl (by nofun)) (hle.d rfl)⟩
       refine ⟨⟨2 :: 1 :: 0 :: [], (by decide +kernel), fun S hle hfr => ?_⟩, ?_⟩
       · exact .inl ⟨.inr (.inl ⟨_, _, _, _, rfl, rfl, (hle.ev (x := .tmp _) rfl (by nofun)), (by rw [hle.nt]; rfl), (by first | rfl | (rw [q59]; rfl))⟩), st_move (hle.ev rfl (by nofun)) (hle.d rfl)⟩
       refine ⟨⟨3 :: 2 :: 1 :: 0 :: [], (by decide +kernel), fun S hle hfr => ?_⟩, ?_⟩
       · exact .inl ⟨.inr (.inl ⟨_, _, _, _, rfl, rfl, (hle.ev (x := .tmp _) rfl (by nofun)), (by rw [hle.nt]; rfl), (by first | rfl | (rw [q59]; rfl))⟩), ev_cmp (hle.ev rfl (by nofun)) (hle.ev rfl (by nofun)) (hle.d rfl) rfl⟩
       refine ⟨⟨4 :: 2 :: 3 :: 1 :: 0 :: [], (by decide +kernel), fun S hle hfr => ?_⟩, ?_⟩
       · exact .inl ⟨.inr (.inl ⟨_, _, _, _, rfl, rfl, (hle.ev (x := .tmp _) rfl (by nofun)), (by rw [hle.nt]; rfl), (by first | rfl | (rw [q59]; rfl))⟩), st_move (hle.ev rfl (by nofun)) (hle.d rfl)⟩
       refine ⟨⟨5 :: 4 :: 2 :: 3 :: 1 :: 0 :: [], (by decide +kernel), fun S hle hfr => ?_⟩, ?_⟩
       · exact .inr ⟨.inr (.inl ⟨_, _, _, _, rfl, rfl, (hle.ev (x := .tmp _) rfl (by nofun)), (by rw [hle.nt]; rfl), (by first | rfl | (rw [q60]; rfl))⟩), rfl, hle.d rfl⟩
       refine ⟨⟨5 :: 4 :: 2 :: 3 :: 1 :: 0 :: [], (by decide +kernel), fun S hle hfr => ?_⟩, ?_⟩
       · exact .inr ⟨.inr (.inl ⟨_, _, _, _, rfl, rfl, (hle.ev (x := .tmp _) rfl (by nofun)), (by rw [hle.nt]; rfl), (by first | rfl | (rw [q60]; rfl))⟩), rfl, hle.d rfl⟩
       refine ⟨⟨7 :: 5 :: 4 :: 2 :: 3 :: 1 :: 0 :: [], (by decide +kernel), fun S hle hfr => ?_⟩, ?_⟩
       · exact .inr ⟨.inr (.inl ⟨_, _, _, _, rfl, rfl, (hle.ev (x := .tmp _) rfl (by nofun)), (by rw [hle.nt]; rfl), (by first | rfl | (rw [q60]; rfl))⟩), rfl, hle.d rfl⟩
       refine ⟨⟨6 :: 8 :: 5 :: 7 :: 4 :: 2 :: 3 :: 1 :: 0 :: [], (by decide +kernel), fun S hle hfr => ?_⟩, ?_⟩
       · exact .inr ⟨.inr (.inl ⟨_, _, _, _, rfl, rfl, (hle.ev (x := .tmp _) rfl (by nofun)), (by rw [hle.nt]; rfl), (by first | rfl | (rw [q60]; rfl))⟩), rfl, hle.d rfl⟩
       refine ⟨⟨5 :: 9 :: 2 :: 4 :: 6 :: 8 :: 1 :: 3 :: 7 :: 0 :: [], (by decide +kernel), fun S hle hfr => ?_⟩, ?_⟩
       · exact .inl ⟨.inr (.inl ⟨_, _, _, _, rfl, rfl, (hle.ev (x := .tmp _) rfl (by nofun)), (by rw [hle.nt]; rfl), (by first | rfl | (rw [q59]; rfl))⟩), st_pick_yes (hle.ev rfl (by nofun)) (by first | rfl | exact q60) (hle.ev rfl (by nofun)) (hle.d rfl)⟩
       refine ⟨⟨10 :: 5 :: 2 :: 9 :: 4 :: 1 :: 6 :: 8 :: 3 :: 0 :: 7 :: [], (by decide +kernel), fun S hle hfr => ?_⟩, ?_⟩
       · exact .inl ⟨.inr (.inl ⟨_, _, _, _, rfl, rfl, (hle.ev (x := .tmp _) rfl (by nofun)), (by rw [hle.nt]; rfl), (by first | rfl | (rw [q59]; rfl))⟩), st_move (hle.ev rfl (by nofun)) (hle.d rfl)⟩
       refine ⟨⟨11 :: 10 :: 5 :: 2 :: 9 :: 4 :: 1 :: 6 :: 8 :: 3 :: 0 :: 7 :: [], (by decide +kernel), fun S hle hfr => ?_⟩, ?_⟩
       · exact .inr ⟨.inr (.inl ⟨_, _, _, _, rfl, rfl, (hle.ev (x := .tmp _) rfl (by nofun)), (by rw [hle.nt]; rfl), (by first | rfl | (rw [rfl]; rfl))⟩), rfl, hle.d rfl⟩
       refine ⟨⟨11 :: 10 :: 5 :: 2 :: 9 :: 4 :: 1 :: 6 :: 8 :: 3 :: 0 :: 7 :: [], (by decide +kernel), fun S hle hfr => ?_⟩, ?_⟩
       · exact .inr ⟨.inr (.inl ⟨_, _, _, _, rfl, rfl, (hle.ev (x := .tmp _) rfl (by nofun)), (by rw [hle.nt]; rfl), (by first | rfl | (rw [rfl]; rfl))⟩), rfl, hle.d rfl⟩
       refine ⟨⟨12 :: 13 :: 11 :: 10 :: 5 :: 2 :: 9 :: 4 :: 1 :: 6 :: 8 :: 3 :: 0 :: 7 :: [], (by decide +kernel), fun S hle hfr => ?_⟩, ?_⟩
       · exact .inr ⟨.inr (.inl ⟨_, _, _, _, rfl, rfl, (hle.ev (x := .tmp _) rfl (by nofun)), (by rw [hle.nt]; rfl), (by first | rfl | (rw [rfl]; rfl))⟩), rfl, hle.d rfl⟩
       refine ⟨⟨11 :: 10 :: 5 :: 2 :: 9 :: 4 :: 1 :: 6 :: 8 :: 3 :: 0 :: 7 :: [], (by decide +kernel), fun S hle hfr => ?_⟩, ?_⟩
       · exact .inr ⟨.inr (.inl ⟨_, _, _, _, rfl, rfl, (hle.ev (x := .tmp _) rfl (by nofun)), (by rw [hle.nt]; rfl), (by first | rfl | (rw [rfl]; rfl))⟩), rfl, hle.d rfl⟩
       refine ⟨⟨15 :: 11 :: 10 :: 5 :: 2 :: 9 :: 4 :: 1 :: 6 :: 8 :: 3 :: 0 :: 7 :: [], (by decide +kernel), fun S hle hfr => ?_⟩, ?_⟩
       · exact .inr ⟨.inr (.inl ⟨_, _, _, _, rfl, rfl, (hle.ev (x := .tmp _) rfl (by nofun)), (by rw [hle.nt]; rfl), (by first | rfl | (rw [rfl]; rfl))⟩), rfl, hle.d rfl⟩
       exact trivial
      case hk43x => rfl
      case hf43x => rfl
      refine aops_no rfl rfl rfl rfl rfl (by decide) ?_
      refine aops_no rfl rfl rfl rfl rfl (by decide) ?_
      refine aops_yes rfl rfl rfl rfl q59 (st_pick_yes rfl (by first | rfl | exact rfl) rfl rfl) ?_
      refine aops_step1 rfl (st_pick_yes rfl (by first | rfl | exact q59) rfl rfl) ?_
      refine aops_nil ?_
      refine aw_yes rfl (rfl) ?_
      refine aw_seq ?_
      refine aw_region ?_
      refine aops_step1 rfl (st_assign rfl rfl) ?_
      refine aops_nil ?_
      cases Option.some.inj j4
      replace h := Md.onS_r h
      cases Option.some.inj h
      refine aw_ret ⟨rfl, ret_v (.inl ⟨_, rfl, rfl, fun _ e => nomatch e⟩) rfl rfl rfl ?_⟩
      (repeat' (first | exact TLe.refl _ | exact VLe.refl _ | exact CLe.refl _ | exact All2.nil | refine TLe.tup ?_ | refine TLe.v ?_ | refine All2.cons ?_ ?_ | refine VLe.agg ?_ | refine VLe.one ?_ | exact CLe.nil _ | exact CLe.emp _ | refine CLe.val ?_ | refine CLe.slc ?_ ?_))
    replace j4 := Md.cond_f j4 q60
    rcases Md.bool_or ((decide (x58.2.1 > ((a0.length : Nat) : Int)))) with q61 | q61
    · replace j4 := Md.cond_t j4 q61
      refine aw_seq ?_
      apply aw_draw 17 ((⟨[], .one (.val (.int .i64 x58.2.2))⟩ : Add) :: ⟨[], .one (.val (.bool (x58.2.2 == 0)))⟩ :: ⟨[], .one (.val (.bool (x58.2.2 == 0)))⟩ :: ⟨[], .one (.val (.int .i64 x58.2.1))⟩ :: ⟨[], .one (.val (.bool (decide (x58.2.1 < 1))))⟩ :: ⟨[], .one (.val (.bool (decide (x58.2.1 < 1))))⟩ :: ⟨[], .one (.val (.int .i64 x58.2.1))⟩ :: ⟨[], .one (CV.ls byC a0)⟩ :: ⟨[], .one (.val (.int .i64 ((a0.length : Nat) : Int)))⟩ :: ⟨[], .one (.val (.bool (decide (x58.2.1 > ((a0.length : Nat) : Int)))))⟩ :: ⟨[], .one (.val (.bool (decide (x58.2.1 > ((a0.length : Nat) : Int)))))⟩ :: ⟨[], .one (.val (.bool (decide (x58.2.1 > ((a0.length : Nat) : Int)))))⟩ :: ⟨[], .tup []⟩ :: ⟨[], .tup []⟩ :: ⟨[], .tup []⟩ :: ⟨[], .tup []⟩ :: ⟨[], .tup []⟩ :: []) (by decide) rfl ?hk44x ?hf44x ?ho44x ?hr44x
      case ho44x =>
       refine ⟨⟨[], (by decide +kernel), fun S hle hfr => ?_⟩, ?_⟩
       · exact .inl ⟨.inl ⟨rfl, rfl⟩, st_move (hle.ev rfl (by nofun)) (hle.d rfl)⟩
       refine ⟨⟨0 :: [], (by decide +kernel), fun S hle hfr => ?_⟩, ?_⟩
       · exact .inl ⟨.inl ⟨rfl, rfl⟩, ev_cmp (hle.ev rfl (by nofun)) (hle.ev rfl (by nofun)) (hle.d rfl) rfl⟩
       refine ⟨⟨1 :: 0 :: [], (by decide +kernel), fun S hle hfr => ?_⟩, ?_⟩
       · exact .inl ⟨.inl ⟨rfl, rfl⟩, st_move (hle.ev rfl (by nofun)) (hle.d rfl)⟩
       refine ⟨⟨2 :: 1 :: 0 :: [], (by decide +kernel), fun S hle hfr => ?_⟩, ?_⟩
       · exact .inl ⟨.inr (.inl ⟨_, _, _, _, rfl, rfl, (hle.ev (x := .tmp _) rfl (by nofun)), (by rw [hle.nt]; rfl), (by first | rfl | (rw [q59]; rfl))⟩), st_move (hle.ev rfl (by nofun)) (hle.d rfl)⟩
       refine ⟨⟨3 :: 2 :: 1 :: 0 :: [], (by decide +kernel), fun S hle hfr => ?_⟩, ?_⟩
       · exact .inl ⟨.inr (.inl ⟨_, _, _, _, rfl, rfl, (hle.ev (x := .tmp _) rfl (by nofun)), (by rw [hle.nt]; rfl), (by first | rfl | (rw [q59]; rfl))⟩), ev_cmp (hle.ev rfl (by nofun)) (hle.ev rfl (by nofun)) (hle.d rfl) rfl⟩
       refine ⟨⟨4 :: 2 :: 3 :: 1 :: 0 :: [], (by decide +kernel), fun S hle hfr => ?_⟩, ?_⟩
       · exact .inl ⟨.inr (.inl ⟨_, _, _, _, rfl, rfl, (hle.ev (x := .tmp _) rfl (by nofun)), (by rw [hle.nt]; rfl), (by first | rfl | (rw [q59]; rfl))⟩), st_move (hle.ev rfl (by nofun)) (hle.d rfl)⟩
       refine ⟨⟨5 :: 4 :: 2 :: 3 :: 1 :: 0 :: [], (by decide +kernel), fun S hle hfr => ?_⟩, ?_⟩
       · exact .inl ⟨.inr (.inl ⟨_, _, _, _, rfl, rfl, (hle.ev (x := .tmp _) rfl (by nofun)), (by rw [hle.nt]; rfl), (by first | rfl | (rw [q60]; rfl))⟩), st_move (hle.ev rfl (by nofun)) (hle.d rfl)⟩
       refine ⟨⟨5 :: 4 :: 2 :: 3 :: 1 :: 0 :: [], (by decide +kernel), fun S hle hfr => ?_⟩, ?_⟩
       · exact .inl ⟨.inr (.inl ⟨_, _, _, _, rfl, rfl, (hle.ev (x := .tmp _) rfl (by nofun)), (by rw [hle.nt]; rfl), (by first | rfl | (rw [q60]; rfl))⟩), st_move (hle.ev rfl (by nofun)) (hle.d rfl)⟩
       refine ⟨⟨7 :: 5 :: 4 :: 2 :: 3 :: 1 :: 0 :: [], (by decide +kernel), fun S hle hfr => ?_⟩, ?_⟩
       · exact .inl ⟨.inr (.inl ⟨_, _, _, _, rfl, rfl, (hle.ev (x := .tmp _) rfl (by nofun)), (by rw [hle.nt]; rfl), (by first | rfl | (rw [q60]; rfl))⟩), ev_len_slc (hle.ev rfl (by nofun)) (hle.d rfl)⟩
       refine ⟨⟨6 :: 8 :: 5 :: 7 :: 4 :: 2 :: 3 :: 1 :: 0 :: [], (by decide +kernel), fun S hle hfr => ?_⟩, ?_⟩
       · exact .inl ⟨.inr (.inl ⟨_, _, _, _, rfl, rfl, (hle.ev (x := .tmp _) rfl (by nofun)), (by rw [hle.nt]; rfl), (by first | rfl | (rw [q60]; rfl))⟩), ev_cmp (hle.ev rfl (by nofun)) (hle.ev rfl (by nofun)) (hle.d rfl) rfl⟩
       refine ⟨⟨5 :: 9 :: 2 :: 4 :: 6 :: 8 :: 1 :: 3 :: 7 :: 0 :: [], (by decide +kernel), fun S hle hfr => ?_⟩, ?_⟩
       · exact .inl ⟨.inr (.inl ⟨_, _, _, _, rfl, rfl, (hle.ev (x := .tmp _) rfl (by nofun)), (by rw [hle.nt]; rfl), (by first | rfl | (rw [q59]; rfl))⟩), st_pick_no (hle.ev rfl (by nofun)) (by first | rfl | exact q60) (hle.ev rfl (by nofun)) (hle.d rfl)⟩
       refine ⟨⟨10 :: 5 :: 2 :: 9 :: 4 :: 1 :: 6 :: 8 :: 3 :: 0 :: 7 :: [], (by decide +kernel), fun S hle hfr => ?_⟩, ?_⟩
       · exact .inl ⟨.inr (.inl ⟨_, _, _, _, rfl, rfl, (hle.ev (x := .tmp _) rfl (by nofun)), (by rw [hle.nt]; rfl), (by first | rfl | (rw [q59]; rfl))⟩), st_move (hle.ev rfl (by nofun)) (hle.d rfl)⟩
       refine ⟨⟨11 :: 10 :: 5 :: 2 :: 9 :: 4 :: 1 :: 6 :: 8 :: 3 :: 0 :: 7 :: [], (by decide +kernel), fun S hle hfr => ?_⟩, ?_⟩
       · exact .inr ⟨.inr (.inl ⟨_, _, _, _, rfl, rfl, (hle.ev (x := .tmp _) rfl (by nofun)), (by rw [hle.nt]; rfl), (by first | rfl | (rw [q61]; rfl))⟩), rfl, hle.d rfl⟩
       refine ⟨⟨11 :: 10 :: 5 :: 2 :: 9 :: 4 :: 1 :: 6 :: 8 :: 3 :: 0 :: 7 :: [], (by decide +kernel), fun S hle hfr => ?_⟩, ?_⟩
       · exact .inr ⟨.inr (.inl ⟨_, _, _, _, rfl, rfl, (hle.ev (x := .tmp _) rfl (by nofun)), (by rw [hle.nt]; rfl), (by first | rfl | (rw [q61]; rfl))⟩), rfl, hle.d rfl⟩
       refine ⟨⟨12 :: 13 :: 11 :: 10 :: 5 :: 2 :: 9 :: 4 :: 1 :: 6 :: 8 :: 3 :: 0 :: 7 :: [], (by decide +kernel), fun S hle hfr => ?_⟩, ?_⟩
       · exact .inr ⟨.inr (.inl ⟨_, _, _, _, rfl, rfl, (hle.ev (x := .tmp _) rfl (by nofun)), (by rw [hle.nt]; rfl), (by first | rfl | (rw [q61]; rfl))⟩), rfl, hle.d rfl⟩
       refine ⟨⟨11 :: 10 :: 5 :: 2 :: 9 :: 4 :: 1 :: 6 :: 8 :: 3 :: 0 :: 7 :: [], (by decide +kernel), fun S hle hfr => ?_⟩, ?_⟩
       · exact .inr ⟨.inr (.inl ⟨_, _, _, _, rfl, rfl, (hle.ev (x := .tmp _) rfl (by nofun)), (by rw [hle.nt]; rfl), (by first | rfl | (rw [q61]; rfl))⟩), rfl, hle.d rfl⟩
       refine ⟨⟨15 :: 11 :: 10 :: 5 :: 2 :: 9 :: 4 :: 1 :: 6 :: 8 :: 3 :: 0 :: 7 :: [], (by decide +kernel), fun S hle hfr => ?_⟩, ?_⟩
       · exact .inr ⟨.inr (.inl ⟨_, _, _, _, rfl, rfl, (hle.ev (x := .tmp _) rfl (by nofun)), (by rw [hle.nt]; rfl), (by first | rfl | (rw [q61]; rfl))⟩), rfl, hle.d rfl⟩
       exact trivial
      case hk44x => rfl
      case hf44x => rfl
      refine aops_no rfl rfl rfl rfl rfl (by first | decide | (rw [q61]; decide)) ?_
      refine aops_no rfl rfl rfl rfl rfl (by first | decide | (rw [q61]; decide)) ?_
      refine aops_yes rfl rfl rfl rfl q59 (st_pick_yes rfl (by first | rfl | exact q61) rfl rfl) ?_
      refine aops_step1 rfl (st_pick_yes rfl (by first | rfl | exact q59) rfl rfl) ?_
      refine aops_nil ?_
      refine aw_yes rfl (rfl) ?_
      refine aw_seq ?_
      refine aw_region ?_
      refine aops_step1 rfl (st_assign rfl rfl) ?_
      refine aops_nil ?_
      cases Option.some.inj j4
      replace h := Md.onS_r h
      cases Option.some.inj h
      refine aw_ret ⟨rfl, ret_v (.inl ⟨_, rfl, rfl, fun _ e => nomatch e⟩) rfl rfl rfl ?_⟩
      (repeat' (first | exact TLe.refl _ | exact VLe.refl _ | exact CLe.refl _ | exact All2.nil | refine TLe.tup ?_ | refine TLe.v ?_ | refine All2.cons ?_ ?_ | refine VLe.agg ?_ | refine VLe.one ?_ | exact CLe.nil _ | exact CLe.emp _ | refine CLe.val ?_ | refine CLe.slc ?_ ?_))
    replace j4 := Md.cond_f j4 q61
    obtain ⟨g62, j4⟩ := Md.ifp_s j4
    obtain ⟨g63, j4⟩ := Md.ifp_s j4
    obtain ⟨x64, hx64, j4⟩ := Md.bind_s j4
    obtain ⟨x65, hx65, j4⟩ := Md.bind_s j4
    refine aw_seq ?_
    apply aw_draw 17 ((⟨[], .one (.val (.int .i64 x58.2.2))⟩ : Add) :: ⟨[], .one (.val (.bool (x58.2.2 == 0)))⟩ :: ⟨[], .one (.val (.bool (x58.2.2 == 0)))⟩ :: ⟨[], .one (.val (.int .i64 x58.2.1))⟩ :: ⟨[], .one (.val (.bool (decide (x58.2.1 < 1))))⟩ :: ⟨[], .one (.val (.bool (decide (x58.2.1 < 1))))⟩ :: ⟨[], .one (.val (.int .i64 x58.2.1))⟩ :: ⟨[], .one (CV.ls byC a0)⟩ :: ⟨[], .one (.val (.int .i64 ((a0.length : Nat) : Int)))⟩ :: ⟨[], .one (.val (.bool (decide (x58.2.1 > ((a0.length : Nat) : Int)))))⟩ :: ⟨[], .one (.val (.bool (decide (x58.2.1 > ((a0.length : Nat) : Int)))))⟩ :: ⟨[], .one (.val (.bool (decide (x58.2.1 > ((a0.length : Nat) : Int)))))⟩ :: ⟨[], .one (CV.ls byC a0)⟩ :: ⟨[], .one (.val (.int .i64 x58.2.1))⟩ :: ⟨[], .one (CV.ls byC (a0.take ((x58.2.1).toNat)))⟩ :: ⟨[], .one (.val (.int .u64 (x58.1.toNat : Int)))⟩ :: ⟨[], .one (CV.ls byC x64)⟩ :: []) (by decide) rfl ?hk45x ?hf45x ?ho45x ?hr45x
    case ho45x =>
     refine ⟨⟨[], (by decide +kernel), fun S hle hfr => ?_⟩, ?_⟩
     · exact .inl ⟨.inl ⟨rfl, rfl⟩, st_move (hle.ev rfl (by nofun)) (hle.d rfl)⟩
     refine ⟨⟨0 :: [], (by decide +kernel), fun S hle hfr => ?_⟩, ?_⟩
     · exact .inl ⟨.inl ⟨rfl, rfl⟩, ev_cmp (hle.ev rfl (by nofun)) (hle.ev rfl (by nofun)) (hle.d rfl) rfl⟩
     refine ⟨⟨1 :: 0 :: [], (by decide +kernel), fun S hle hfr => ?_⟩, ?_⟩
     · exact .inl ⟨.inl ⟨rfl, rfl⟩, st_move (hle.ev rfl (by nofun)) (hle.d rfl)⟩
     refine ⟨⟨2 :: 1 :: 0 :: [], (by decide +kernel), fun S hle hfr => ?_⟩, ?_⟩
     · exact .inl ⟨.inr (.inl ⟨_, _, _, _, rfl, rfl, (hle.ev (x := .tmp _) rfl (by nofun)), (by rw [hle.nt]; rfl), (by first | rfl | (rw [q59]; rfl))⟩), st_move (hle.ev rfl (by nofun)) (hle.d rfl)⟩
     refine ⟨⟨3 :: 2 :: 1 :: 0 :: [], (by decide +kernel), fun S hle hfr => ?_⟩, ?_⟩
     · exact .inl ⟨.inr (.inl ⟨_, _, _, _, rfl, rfl, (hle.ev (x := .tmp _) rfl (by nofun)), (by rw [hle.nt]; rfl), (by first | rfl | (rw [q59]; rfl))⟩), ev_cmp (hle.ev rfl (by nofun)) (hle.ev rfl (by nofun)) (hle.d rfl) rfl⟩
     refine ⟨⟨4 :: 2 :: 3 :: 1 :: 0 :: [], (by decide +kernel), fun S hle hfr => ?_⟩, ?_⟩
     · exact .inl ⟨.inr (.inl ⟨_, _, _, _, rfl, rfl, (hle.ev (x := .tmp _) rfl (by nofun)), (by rw [hle.nt]; rfl), (by first | rfl | (rw [q59]; rfl))⟩), st_move (hle.ev rfl (by nofun)) (hle.d rfl)⟩
     refine ⟨⟨5 :: 4 :: 2 :: 3 :: 1 :: 0 :: [], (by decide +kernel), fun S hle hfr => ?_⟩, ?_⟩
     · exact .inl ⟨.inr (.inl ⟨_, _, _, _, rfl, rfl, (hle.ev (x := .tmp _) rfl (by nofun)), (by rw [hle.nt]; rfl), (by first | rfl | (rw [q60]; rfl))⟩), st_move (hle.ev rfl (by nofun)) (hle.d rfl)⟩
     refine ⟨⟨5 :: 4 :: 2 :: 3 :: 1 :: 0 :: [], (by decide +kernel), fun S hle hfr => ?_⟩, ?_⟩
     · exact .inl ⟨.inr (.inl ⟨_, _, _, _, rfl, rfl, (hle.ev (x := .tmp _) rfl (by nofun)), (by rw [hle.nt]; rfl), (by first | rfl | (rw [q60]; rfl))⟩), st_move (hle.ev rfl (by nofun)) (hle.d rfl)⟩
     refine ⟨⟨7 :: 5 :: 4 :: 2 :: 3 :: 1 :: 0 :: [], (by decide +kernel), fun S hle hfr => ?_⟩, ?_⟩
     · exact .inl ⟨.inr (.inl ⟨_, _, _, _, rfl, rfl, (hle.ev (x := .tmp _) rfl (by nofun)), (by rw [hle.nt]; rfl), (by first | rfl | (rw [q60]; rfl))⟩), ev_len_slc (hle.ev rfl (by nofun)) (hle.d rfl)⟩
     refine ⟨⟨6 :: 8 :: 5 :: 7 :: 4 :: 2 :: 3 :: 1 :: 0 :: [], (by decide +kernel), fun S hle hfr => ?_⟩, ?_⟩
     · exact .inl ⟨.inr (.inl ⟨_, _, _, _, rfl, rfl, (hle.ev (x := .tmp _) rfl (by nofun)), (by rw [hle.nt]; rfl), (by first | rfl | (rw [q60]; rfl))⟩), ev_cmp (hle.ev rfl (by nofun)) (hle.ev rfl (by nofun)) (hle.d rfl) rfl⟩
     refine ⟨⟨5 :: 9 :: 2 :: 4 :: 6 :: 8 :: 1 :: 3 :: 7 :: 0 :: [], (by decide +kernel), fun S hle hfr => ?_⟩, ?_⟩
     · exact .inl ⟨.inr (.inl ⟨_, _, _, _, rfl, rfl, (hle.ev (x := .tmp _) rfl (by nofun)), (by rw [hle.nt]; rfl), (by first | rfl | (rw [q59]; rfl))⟩), st_pick_no (hle.ev rfl (by nofun)) (by first | rfl | exact q60) (hle.ev rfl (by nofun)) (hle.d rfl)⟩
     refine ⟨⟨10 :: 5 :: 2 :: 9 :: 4 :: 1 :: 6 :: 8 :: 3 :: 0 :: 7 :: [], (by decide +kernel), fun S hle hfr => ?_⟩, ?_⟩
     · exact .inl ⟨.inr (.inl ⟨_, _, _, _, rfl, rfl, (hle.ev (x := .tmp _) rfl (by nofun)), (by rw [hle.nt]; rfl), (by first | rfl | (rw [q59]; rfl))⟩), st_move (hle.ev rfl (by nofun)) (hle.d rfl)⟩
     refine ⟨⟨11 :: 10 :: 5 :: 2 :: 9 :: 4 :: 1 :: 6 :: 8 :: 3 :: 0 :: 7 :: [], (by decide +kernel), fun S hle hfr => ?_⟩, ?_⟩
     · exact .inl ⟨.inr (.inl ⟨_, _, _, _, rfl, rfl, (hle.ev (x := .tmp _) rfl (by nofun)), (by rw [hle.nt]; rfl), (by first | rfl | (rw [q61]; rfl))⟩), st_move (hle.ev rfl (by nofun)) (hle.d rfl)⟩
     refine ⟨⟨11 :: 10 :: 5 :: 2 :: 9 :: 4 :: 1 :: 6 :: 8 :: 3 :: 0 :: 7 :: [], (by decide +kernel), fun S hle hfr => ?_⟩, ?_⟩
     · exact .inl ⟨.inr (.inl ⟨_, _, _, _, rfl, rfl, (hle.ev (x := .tmp _) rfl (by nofun)), (by rw [hle.nt]; rfl), (by first | rfl | (rw [q61]; rfl))⟩), st_move (hle.ev rfl (by nofun)) (hle.d rfl)⟩
     refine ⟨⟨12 :: 13 :: 11 :: 10 :: 5 :: 2 :: 9 :: 4 :: 1 :: 6 :: 8 :: 3 :: 0 :: 7 :: [], (by decide +kernel), fun S hle hfr => ?_⟩, ?_⟩
     · exact .inl ⟨.inr (.inl ⟨_, _, _, _, rfl, rfl, (hle.ev (x := .tmp _) rfl (by nofun)), (by rw [hle.nt]; rfl), (by first | rfl | (rw [q61]; rfl))⟩), st_cut_hi (f := byC) (fun _ => rfl) (hle.ev rfl (by nofun)) ⟨_, _, (hle.ev rfl (by nofun)), (Md.nn_eq g62)⟩ g63 (hle.d rfl)⟩
     refine ⟨⟨11 :: 10 :: 5 :: 2 :: 9 :: 4 :: 1 :: 6 :: 8 :: 3 :: 0 :: 7 :: [], (by decide +kernel), fun S hle hfr => ?_⟩, ?_⟩
     · exact .inl ⟨.inr (.inl ⟨_, _, _, _, rfl, rfl, (hle.ev (x := .tmp _) rfl (by nofun)), (by rw [hle.nt]; rfl), (by first | rfl | (rw [q61]; rfl))⟩), st_move (hle.ev rfl (by nofun)) (hle.d rfl)⟩
     refine ⟨⟨15 :: 11 :: 10 :: 5 :: 2 :: 9 :: 4 :: 1 :: 6 :: 8 :: 3 :: 0 :: 7 :: [], (by decide +kernel), fun S hle hfr => ?_⟩, ?_⟩
     · exact .inl ⟨.inr (.inl ⟨_, _, _, _, rfl, rfl, (hle.ev (x := .tmp _) rfl (by nofun)), (by rw [hle.nt]; rfl), (by first | rfl | (rw [q61]; rfl))⟩), st_call_z (wire_AppendUint_fn k ([] : List UInt8) x58.1 x64 hx64) (map_ev (.cons (hle.ev rfl (by nofun)) (.cons (hle.ev rfl (by nofun)) (.nil)))) [] (fun _ => (by repeat' (first | exact All2.nil | refine All2.cons ?_ ?_ | refine ArgV.one ?_ | refine ArgV.agg ?_ | exact ArgC.mk rfl | exact ArgC.lend (hle.heap _ _ rfl) (by simp) | exact ArgC.le (CLe.nil _) rfl | exact ArgC.le (CLe.emp _) rfl | exact ArgC.le (CLe.any _) rfl))) rfl (.inl rfl) (hle.d rfl)⟩
     exact trivial
    case hk45x => rfl
    case hf45x => rfl
    refine aops_yes rfl rfl rfl rfl q61 (ev_call_v (actorgridlaw1_same_fn k (a0.take ((x58.2.1).toNat)) x64 x65 hx65) rfl [] (by repeat' (first | exact All2.nil | refine All2.cons ?_ ?_ | refine ArgV.one ?_ | refine ArgV.agg ?_ | exact ArgC.mk rfl | exact ArgC.lend rfl (by simp) | exact ArgC.le (CLe.nil _) rfl | exact ArgC.le (CLe.emp _) rfl | exact ArgC.le (CLe.any _) rfl)) rfl rfl rfl (.inl rfl) rfl) ?_
    refine aops_yes rfl rfl rfl rfl q61 (ev_not rfl rfl) ?_
    refine aops_yes rfl rfl rfl rfl q59 (st_pick_no rfl (by first | rfl | exact q61) rfl rfl) ?_
    refine aops_step1 rfl (st_pick_yes rfl (by first | rfl | exact q59) rfl rfl) ?_
    refine aops_nil ?_
    refine aw_cond rfl (fun c66 => ?_) (fun c66 => ?_)
    · replace j4 := Md.cond_t j4 c66
      refine aw_seq ?_
      refine aw_region ?_
      refine aops_step1 rfl (st_assign rfl rfl) ?_
      refine aops_nil ?_
      cases Option.some.inj j4
      replace h := Md.onS_r h
      cases Option.some.inj h
      refine aw_ret ⟨rfl, ret_v (.inl ⟨_, rfl, rfl, fun _ e => nomatch e⟩) rfl rfl rfl ?_⟩
      (repeat' (first | exact TLe.refl _ | exact VLe.refl _ | exact CLe.refl _ | exact All2.nil | refine TLe.tup ?_ | refine TLe.v ?_ | refine All2.cons ?_ ?_ | refine VLe.agg ?_ | refine VLe.one ?_ | exact CLe.nil _ | exact CLe.emp _ | refine CLe.val ?_ | refine CLe.slc ?_ ?_))
    replace j4 := Md.cond_f j4 c66
    refine aw_skip ?_
    show ∃ _x : Unit, _ = _ ∧ Weak _ _
    exact ⟨(), Option.some.inj j4, (by (refine weak_mk rfl rfl ?_ ?_ rfl <;> repeat' (first | exact trivial | refine ⟨?_, ?_⟩ | exact VLe.refl _ | exact BLe.refl _ | refine VLe.one (CLe.val ?_) | exact VLe.one (CLe.nil _) | exact VLe.one (CLe.emp _))))⟩
  replace j4 := Md.cond_f j4 q59
  refine aw_seq ?_
  apply aw_draw 17 ((⟨[], .one (.val (.int .i64 x58.2.2))⟩ : Add) :: ⟨[], .one (.val (.bool (x58.2.2 == 0)))⟩ :: ⟨[], .one (.val (.bool (x58.2.2 == 0)))⟩ :: ⟨[], .tup []⟩ :: ⟨[], .tup []⟩ :: ⟨[], .tup []⟩ :: ⟨[], .tup []⟩ :: ⟨[], .tup []⟩ :: ⟨[], .tup []⟩ :: ⟨[], .tup []⟩ :: ⟨[], .tup []⟩ :: ⟨[], .tup []⟩ :: ⟨[], .tup []⟩ :: ⟨[], .tup []⟩ :: ⟨[], .tup []⟩ :: ⟨[], .tup []⟩ :: ⟨[], .tup []⟩ :: []) (by decide) rfl ?hk46x ?hf46x ?ho46x ?hr46x
  case ho46x =>
   refine ⟨⟨[], (by decide +kernel), fun S hle hfr => ?_⟩, ?_⟩
   · exact .inl ⟨.inl ⟨rfl, rfl⟩, st_move (hle.ev rfl (by nofun)) (hle.d rfl)⟩
   refine ⟨⟨0 :: [], (by decide +kernel), fun S hle hfr => ?_⟩, ?_⟩
   · exact .inl ⟨.inl ⟨rfl, rfl⟩, ev_cmp (hle.ev rfl (by nofun)) (hle.ev rfl (by nofun)) (hle.d rfl) rfl⟩
   refine ⟨⟨1 :: 0 :: [], (by decide +kernel), fun S hle hfr => ?_⟩, ?_⟩
   · exact .inl ⟨.inl ⟨rfl, rfl⟩, st_move (hle.ev rfl (by nofun)) (hle.d rfl)⟩
   refine ⟨⟨2 :: 1 :: 0 :: [], (by decide +kernel), fun S hle hfr => ?_⟩, ?_⟩
   · exact .inr ⟨.inr (.inl ⟨_, _, _, _, rfl, rfl, (hle.ev (x := .tmp _) rfl (by nofun)), (by rw [hle.nt]; rfl), (by first | rfl | (rw [q59]; rfl))⟩), rfl, hle.d rfl⟩
   refine ⟨⟨3 :: 2 :: 1 :: 0 :: [], (by decide +kernel), fun S hle hfr => ?_⟩, ?_⟩
   · exact .inr ⟨.inr (.inl ⟨_, _, _, _, rfl, rfl, (hle.ev (x := .tmp _) rfl (by nofun)), (by rw [hle.nt]; rfl), (by first | rfl | (rw [q59]; rfl))⟩), rfl, hle.d rfl⟩
   refine ⟨⟨4 :: 2 :: 3 :: 1 :: 0 :: [], (by decide +kernel), fun S hle hfr => ?_⟩, ?_⟩
   · exact .inr ⟨.inr (.inl ⟨_, _, _, _, rfl, rfl, (hle.ev (x := .tmp _) rfl (by nofun)), (by rw [hle.nt]; rfl), (by first | rfl | (rw [q59]; rfl))⟩), rfl, hle.d rfl⟩
   refine ⟨⟨5 :: 4 :: 2 :: 3 :: 1 :: 0 :: [], (by decide +kernel), fun S hle hfr => ?_⟩, ?_⟩
   · exact .inr ⟨.inr (.inr ⟨_, _, _, rfl, rfl, (hle.ev (x := .tmp _) rfl (by nofun)), (by rw [hle.nt]; rfl), rfl⟩), rfl, hle.d rfl⟩
   refine ⟨⟨5 :: 4 :: 2 :: 3 :: 1 :: 0 :: [], (by decide +kernel), fun S hle hfr => ?_⟩, ?_⟩
   · exact .inr ⟨.inr (.inr ⟨_, _, _, rfl, rfl, (hle.ev (x := .tmp _) rfl (by nofun)), (by rw [hle.nt]; rfl), rfl⟩), rfl, hle.d rfl⟩
   refine ⟨⟨7 :: 5 :: 4 :: 2 :: 3 :: 1 :: 0 :: [], (by decide +kernel), fun S hle hfr => ?_⟩, ?_⟩
   · exact .inr ⟨.inr (.inr ⟨_, _, _, rfl, rfl, (hle.ev (x := .tmp _) rfl (by nofun)), (by rw [hle.nt]; rfl), rfl⟩), rfl, hle.d rfl⟩
   refine ⟨⟨6 :: 8 :: 5 :: 7 :: 4 :: 2 :: 3 :: 1 :: 0 :: [], (by decide +kernel), fun S hle hfr => ?_⟩, ?_⟩
   · exact .inr ⟨.inr (.inr ⟨_, _, _, rfl, rfl, (hle.ev (x := .tmp _) rfl (by nofun)), (by rw [hle.nt]; rfl), rfl⟩), rfl, hle.d rfl⟩
   refine ⟨⟨5 :: 9 :: 2 :: 4 :: 6 :: 8 :: 1 :: 3 :: 7 :: 0 :: [], (by decide +kernel), fun S hle hfr => ?_⟩, ?_⟩
   · exact .inr ⟨.inr (.inl ⟨_, _, _, _, rfl, rfl, (hle.ev (x := .tmp _) rfl (by nofun)), (by rw [hle.nt]; rfl), (by first | rfl | (rw [q59]; rfl))⟩), rfl, hle.d rfl⟩
   refine ⟨⟨10 :: 5 :: 2 :: 9 :: 4 :: 1 :: 6 :: 8 :: 3 :: 0 :: 7 :: [], (by decide +kernel), fun S hle hfr => ?_⟩, ?_⟩
   · exact .inr ⟨.inr (.inl ⟨_, _, _, _, rfl, rfl, (hle.ev (x := .tmp _) rfl (by nofun)), (by rw [hle.nt]; rfl), (by first | rfl | (rw [q59]; rfl))⟩), rfl, hle.d rfl⟩
   refine ⟨⟨11 :: 10 :: 5 :: 2 :: 9 :: 4 :: 1 :: 6 :: 8 :: 3 :: 0 :: 7 :: [], (by decide +kernel), fun S hle hfr => ?_⟩, ?_⟩
   · exact .inr ⟨.inr (.inr ⟨_, _, _, rfl, rfl, (hle.ev (x := .tmp _) rfl (by nofun)), (by rw [hle.nt]; rfl), rfl⟩), rfl, hle.d rfl⟩
   refine ⟨⟨11 :: 10 :: 5 :: 2 :: 9 :: 4 :: 1 :: 6 :: 8 :: 3 :: 0 :: 7 :: [], (by decide +kernel), fun S hle hfr => ?_⟩, ?_⟩
   · exact .inr ⟨.inr (.inr ⟨_, _, _, rfl, rfl, (hle.ev (x := .tmp _) rfl (by nofun)), (by rw [hle.nt]; rfl), rfl⟩), rfl, hle.d rfl⟩
   refine ⟨⟨12 :: 13 :: 11 :: 10 :: 5 :: 2 :: 9 :: 4 :: 1 :: 6 :: 8 :: 3 :: 0 :: 7 :: [], (by decide +kernel), fun S hle hfr => ?_⟩, ?_⟩
   · exact .inr ⟨.inr (.inr ⟨_, _, _, rfl, rfl, (hle.ev (x := .tmp _) rfl (by nofun)), (by rw [hle.nt]; rfl), rfl⟩), rfl, hle.d rfl⟩
   refine ⟨⟨11 :: 10 :: 5 :: 2 :: 9 :: 4 :: 1 :: 6 :: 8 :: 3 :: 0 :: 7 :: [], (by decide +kernel), fun S hle hfr => ?_⟩, ?_⟩
   · exact .inr ⟨.inr (.inr ⟨_, _, _, rfl, rfl, (hle.ev (x := .tmp _) rfl (by nofun)), (by rw [hle.nt]; rfl), rfl⟩), rfl, hle.d rfl⟩
   refine ⟨⟨15 :: 11 :: 10 :: 5 :: 2 :: 9 :: 4 :: 1 :: 6 :: 8 :: 3 :: 0 :: 7 :: [], (by decide +kernel), fun S hle hfr => ?_⟩, ?_⟩
   · exact .inr ⟨.inr (.inr ⟨_, _, _, rfl, rfl, (hle.ev (x := .tmp _) rfl (by nofun)), (by rw [hle.nt]; rfl), rfl⟩), rfl, hle.d rfl⟩
   exact trivial
  case hk46x => rfl
  case hf46x => rfl
  refine aops_und rfl rfl rfl rfl rfl ?_
  refine aops_und rfl rfl rfl rfl rfl ?_
  refine aops_no rfl rfl rfl rfl rfl (by first | decide | (rw [q59]; decide)) ?_
  refine aops_step1 rfl (st_pick_no rfl (by first | rfl | exact q59) rfl rfl) ?_
  refine aops_nil ?_
  refine aw_no rfl (rfl) ?_
  refine aw_skip ?_
  show ∃ _x : Unit, _ = _ ∧ Weak _ _
  exact ⟨(), Option.some.inj j4, (by (refine weak_mk rfl rfl ?_ ?_ rfl <;> repeat' (first | exact trivial | refine ⟨?_, ?_⟩ | exact VLe.refl _ | exact BLe.refl _ | refine VLe.one (CLe.val ?_) | exact VLe.one (CLe.nil _) | exact VLe.one (CLe.emp _))))⟩
end Md
end Go.Proofs.Ytbnjdkpangmneaa
