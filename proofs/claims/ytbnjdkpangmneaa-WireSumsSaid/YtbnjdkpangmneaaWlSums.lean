/-
  WlSums: where a function's model gives a value, the function returns what reads as it (printed by wip/tools/auto.py). Condition of each: the model gives a value.
-/
import Derived.Test.YtbnjdkpangmneaaWlSumsM
import Derived.Test.YtbnjdkpangmneaaWireL
namespace Go.Proofs.Ytbnjdkpangmneaa
open Go.ChangeShapes Go.WideShapes Go.RowKit
open Abs
set_option linter.unusedVariables false
set_option linter.unusedSimpArgs false
set_option maxRecDepth 10000
namespace Md
set_option maxHeartbeats 2000000 in
theorem actorgridlaw1_WireSums_fn (k : Nat) (a0 : List UInt8) (a1 : List UInt8) (r : Bool) (h : actorgridlaw1_WireSums k a0 a1 = some r) : FnC Try.prog 7 [.one (CV.ls byC a0), .one (CV.ls byC a1)] [] (Det (.one (.val (.bool r))) []) := by
  unfold actorgridlaw1_WireSums at h
  refine fn_intro' 61 Try.func7 rfl rfl rfl ?_
  refine aw_seq ?_
  refine aw_region ?_
  refine aops_step1 rfl (st_assign rfl rfl) ?_
  refine aops_nil ?_
  refine aw_seq ?_
  refine aw_seq ?_
  refine aw_region ?_
  obtain ⟨x1, hx1, h⟩ := Md.bind_s h
  refine aops_step1 rfl (ev_call_v (actorgridlaw1_awake_fn k x1 hx1) rfl [] (by repeat' (first | exact All2.nil | refine All2.cons ?_ ?_ | refine ArgV.one ?_ | refine ArgV.agg ?_ | exact ArgC.mk rfl | exact ArgC.lend rfl (by simp) | exact ArgC.le (CLe.nil _) rfl | exact ArgC.le (CLe.emp _) rfl | exact ArgC.le (CLe.any _) rfl)) rfl rfl rfl (.inl rfl) rfl) ?_
  refine aops_step1 rfl (ev_not rfl rfl) ?_
  refine aops_nil ?_
  refine aw_cond rfl (fun c2 => ?_) (fun c2 => ?_)
  · replace h := Md.cond_t h c2
    refine aw_seq ?_
    refine aw_region ?_
    refine aops_step1 rfl (st_assign rfl rfl) ?_
    refine aops_nil ?_
    cases Option.some.inj h
    refine aw_ret ⟨rfl, ret_v (.inl ⟨_, rfl, rfl, fun _ e => nomatch e⟩) rfl rfl rfl ?_⟩
    (repeat' (first | exact TLe.refl _ | exact VLe.refl _ | exact CLe.refl _ | exact All2.nil | refine TLe.tup ?_ | refine TLe.v ?_ | refine All2.cons ?_ ?_ | refine VLe.agg ?_ | refine VLe.one ?_ | exact CLe.nil _ | exact CLe.emp _ | refine CLe.val ?_ | refine CLe.slc ?_ ?_))
  replace h := Md.cond_f h c2
  refine aw_skip ?_
  refine aw_seq ?_
  refine aw_seq ?_
  refine aw_region ?_
  refine aops_step1 rfl (st_move rfl rfl) ?_
  refine aops_step1 rfl (ev_len_slc rfl rfl) ?_
  refine aops_step1 rfl (ev_cmp rfl rfl rfl rfl) ?_
  refine aops_step1 rfl (st_move rfl rfl) ?_
  refine aops_mid 6 (⟨61, [], [(0, .one (CV.ls byC a0)), (1, .one (CV.ls byC a1)), (18, .one (.val (.bool ((decide (((a0.length : Nat) : Int) > 500)) || (decide (((a1.length : Nat) : Int) < ((a0.length : Nat) : Int)))))))], []⟩ : ASt) ?_ ?_
  · rcases Md.bool_or ((decide (((a0.length : Nat) : Int) > 500))) with q3 | q3
    · skip
      refine aops_no rfl rfl rfl rfl rfl (by first | decide | (rw [q3]; decide)) ?_
      refine aops_no rfl rfl rfl rfl rfl (by first | decide | (rw [q3]; decide)) ?_
      refine aops_no rfl rfl rfl rfl rfl (by first | decide | (rw [q3]; decide)) ?_
      refine aops_no rfl rfl rfl rfl rfl (by first | decide | (rw [q3]; decide)) ?_
      refine aops_no rfl rfl rfl rfl rfl (by first | decide | (rw [q3]; decide)) ?_
      refine aops_step1 rfl (st_pick_yes rfl (by first | rfl | exact q3) rfl rfl) ?_
      refine aops_nil ?_
      show Weak _ _
      (refine weak_mk rfl rfl ?_ ?_ rfl <;> repeat' (first | exact trivial | refine ⟨?_, ?_⟩ | exact VLe.refl _ | exact BLe.refl _ | refine VLe.one (CLe.val ?_) | exact VLe.one (CLe.nil _) | exact VLe.one (CLe.emp _))) <;> (first | (rw [q3]; done) | (rw [q3]; rfl) | (simp [q3]; done))
    refine aops_yes rfl rfl rfl rfl q3 (st_move rfl rfl) ?_
    refine aops_yes rfl rfl rfl rfl q3 (ev_len_slc rfl rfl) ?_
    refine aops_yes rfl rfl rfl rfl q3 (st_move rfl rfl) ?_
    refine aops_yes rfl rfl rfl rfl q3 (ev_len_slc rfl rfl) ?_
    refine aops_yes rfl rfl rfl rfl q3 (ev_cmp rfl rfl rfl rfl) ?_
    refine aops_step1 rfl (st_pick_no rfl (by first | rfl | exact q3) rfl rfl) ?_
    refine aops_nil ?_
    show Weak _ _
    (refine weak_mk rfl rfl ?_ ?_ rfl <;> repeat' (first | exact trivial | refine ⟨?_, ?_⟩ | exact VLe.refl _ | exact BLe.refl _ | refine VLe.one (CLe.val ?_) | exact VLe.one (CLe.nil _) | exact VLe.one (CLe.emp _))) <;> (first | (rw [q3]; done) | (rw [q3]; rfl) | (simp [q3]; done))
  change AOps _ _ _ (⟨61, [], [(0, .one (CV.ls byC a0)), (1, .one (CV.ls byC a1)), (18, .one (.val (.bool ((decide (((a0.length : Nat) : Int) > 500)) || (decide (((a1.length : Nat) : Int) < ((a0.length : Nat) : Int)))))))], []⟩ : ASt) _
  refine aops_step1 rfl (st_move rfl rfl) ?_
  refine aops_mid 4 (⟨61, [], [(0, .one (CV.ls byC a0)), (1, .one (CV.ls byC a1)), (23, .one (.val (.bool (((decide (((a0.length : Nat) : Int) > 500)) || (decide (((a1.length : Nat) : Int) < ((a0.length : Nat) : Int)))) || (decide (((a1.length : Nat) : Int) > 500))))))], []⟩ : ASt) ?_ ?_
  · rcases Md.bool_or (((decide (((a0.length : Nat) : Int) > 500)) || (decide (((a1.length : Nat) : Int) < ((a0.length : Nat) : Int))))) with q4 | q4
    · skip
      refine aops_no rfl rfl rfl rfl rfl (by first | decide | (rw [q4]; decide)) ?_
      refine aops_no rfl rfl rfl rfl rfl (by first | decide | (rw [q4]; decide)) ?_
      refine aops_no rfl rfl rfl rfl rfl (by first | decide | (rw [q4]; decide)) ?_
      refine aops_step1 rfl (st_pick_yes rfl (by first | rfl | exact q4) rfl rfl) ?_
      refine aops_nil ?_
      show Weak _ _
      (refine weak_mk rfl rfl ?_ ?_ rfl <;> repeat' (first | exact trivial | refine ⟨?_, ?_⟩ | exact VLe.refl _ | exact BLe.refl _ | refine VLe.one (CLe.val ?_) | exact VLe.one (CLe.nil _) | exact VLe.one (CLe.emp _))) <;> (first | (rw [q4]; done) | (rw [q4]; rfl) | (simp [q4]; done))
    refine aops_yes rfl rfl rfl rfl q4 (st_move rfl rfl) ?_
    refine aops_yes rfl rfl rfl rfl q4 (ev_len_slc rfl rfl) ?_
    refine aops_yes rfl rfl rfl rfl q4 (ev_cmp rfl rfl rfl rfl) ?_
    refine aops_step1 rfl (st_pick_no rfl (by first | rfl | exact q4) rfl rfl) ?_
    refine aops_nil ?_
    show Weak _ _
    (refine weak_mk rfl rfl ?_ ?_ rfl <;> repeat' (first | exact trivial | refine ⟨?_, ?_⟩ | exact VLe.refl _ | exact BLe.refl _ | refine VLe.one (CLe.val ?_) | exact VLe.one (CLe.nil _) | exact VLe.one (CLe.emp _))) <;> (first | (rw [q4]; done) | (rw [q4]; rfl) | (simp [q4]; done))
  change AOps _ _ _ (⟨61, [], [(0, .one (CV.ls byC a0)), (1, .one (CV.ls byC a1)), (23, .one (.val (.bool (((decide (((a0.length : Nat) : Int) > 500)) || (decide (((a1.length : Nat) : Int) < ((a0.length : Nat) : Int)))) || (decide (((a1.length : Nat) : Int) > 500))))))], []⟩ : ASt) _
  refine aops_nil ?_
  refine aw_cond rfl (fun c5 => ?_) (fun c5 => ?_)
  · replace h := Md.cond_t h c5
    refine aw_seq ?_
    refine aw_region ?_
    refine aops_step1 rfl (st_assign rfl rfl) ?_
    refine aops_nil ?_
    cases Option.some.inj h
    refine aw_ret ⟨rfl, ret_v (.inl ⟨_, rfl, rfl, fun _ e => nomatch e⟩) rfl rfl rfl ?_⟩
    (repeat' (first | exact TLe.refl _ | exact VLe.refl _ | exact CLe.refl _ | exact All2.nil | refine TLe.tup ?_ | refine TLe.v ?_ | refine All2.cons ?_ ?_ | refine VLe.agg ?_ | refine VLe.one ?_ | exact CLe.nil _ | exact CLe.emp _ | refine CLe.val ?_ | refine CLe.slc ?_ ?_))
  replace h := Md.cond_f h c5
  refine aw_skip ?_
  refine aw_seq ?_
  refine aw_region ?_
  refine aops_step1 rfl (st_move rfl rfl) ?_
  refine aops_step1 rfl (ev_len_slc rfl rfl) ?_
  obtain ⟨g6, h⟩ := Md.ifp_s h
  refine aops_step1 rfl (st_make (f := byC) 0 a0.length a0.length (0 : UInt8) rfl rfl rfl (Nat.le_refl _) g6 rfl rfl rfl (fun _ => rfl) (by decide) rfl) ?_
  refine aops_step1 rfl (st_assign rfl rfl) ?_
  refine aops_nil ?_
  refine aw_seq ?_
  refine aw_seq ?_
  refine aw_region ?_
  refine aops_step1 rfl (st_assign rfl rfl) ?_
  refine aops_nil ?_
  refine aw_block ?_
  obtain ⟨o7, ho7, h⟩ := Md.bind_s h
  refine aw_loop_x (ι := {p : Nat × Nat × (List UInt8) // actorgridlaw1_WireSums_loop1 k a0 a1 p.1 p.2.1 p.2.2 = some o7}) (fun p => (⟨61, [], [(0, .one (CV.ls byC a0)), (1, .one (CV.ls byC a1)), (5, .one (.own 0)), (6, .one (.val (.int .i64 ((p.1.2.1 : Nat) : Int))))], [(0, some (.row 5 1 p.1.2.2.length (lsEl byC p.1.2.2)))]⟩ : ASt)) (fun p => p.1.1) ⟨(k, 0, (List.replicate a0.length (0 : UInt8))), ho7⟩ (by (refine weak_mk rfl rfl ?_ ?_ rfl <;> repeat' (first | exact trivial | refine ⟨?_, ?_⟩ | exact VLe.refl _ | exact BLe.refl _ | refine VLe.one (CLe.val ?_) | exact VLe.one (CLe.nil _) | exact VLe.one (CLe.emp _)))) 0 (ε := (List UInt8)) (fun x => (⟨61, [], [(0, .one (CV.ls byC a0)), (1, .one (CV.ls byC a1)), (5, .one (.own 0))], [(0, some (.row 5 1 x.length (lsEl byC x)))]⟩ : ASt)) (fun x => x = o7) (fun _ _ w h => aw_weak w h) ?_ ?_
  · intro x7_0 hI7
    subst hI7
    change AW _ _ (⟨61, [], [(0, .one (CV.ls byC a0)), (1, .one (CV.ls byC a1)), (5, .one (.own 0))], [(0, some (.row 5 1 x7_0.length (lsEl byC x7_0)))]⟩ : ASt) _
    obtain ⟨x8, hx8, h⟩ := Md.bind_s h
    obtain ⟨x9, hx9, h⟩ := Md.bind_s h
    obtain ⟨g10, h⟩ := Md.ifp_s h
    obtain ⟨x11, hx11, h⟩ := Md.bind_s h
    obtain ⟨g12, h⟩ := Md.ifp_s h
    obtain ⟨x13, hx13, h⟩ := Md.bind_s h
    refine aw_seq ?_
    apply aw_draw 14 ((⟨[], .one (.own 0)⟩ : Add) :: ⟨[], .one (.val (.int .u32 (x8.toNat : Int)))⟩ :: ⟨[], .one (CV.ls byC a0)⟩ :: ⟨[], .one (.val (.int .u32 (x9.toNat : Int)))⟩ :: ⟨[], .one (CV.ls byC a1)⟩ :: ⟨[], .one (CV.ls byC a0)⟩ :: ⟨[], .one (.val (.int .i64 ((a0.length : Nat) : Int)))⟩ :: ⟨[], .one (CV.ls byC (a1.take a0.length))⟩ :: ⟨[], .one (.val (.int .u32 (x11.toNat : Int)))⟩ :: ⟨[], .one (.val (.int .u32 (((x9 ^^^ x11)).toNat : Int)))⟩ :: ⟨[], .one (CV.ls byC a0)⟩ :: ⟨[], .one (.val (.int .i64 ((a0.length : Nat) : Int)))⟩ :: ⟨[(1, some (.row 5 1 (List.replicate a0.length (0 : UInt8)).length (lsEl byC (List.replicate a0.length (0 : UInt8)))))], .one (.own 1)⟩ :: ⟨[], .one (.val (.int .u32 (x13.toNat : Int)))⟩ :: []) (by decide) rfl ?hk5x ?hf5x ?ho5x ?hr5x
    case ho5x =>
     refine ⟨⟨[], (by decide +kernel), fun S hle hfr => ?_⟩, ?_⟩
     · exact .inl ⟨.inl ⟨rfl, rfl⟩, st_move (hle.ev rfl (by nofun)) (hle.d rfl)⟩
     refine ⟨⟨0 :: [], (by decide +kernel), fun S hle hfr => ?_⟩, ?_⟩
     · exact .inl ⟨.inl ⟨rfl, rfl⟩, ev_call_v (wire_Checksum_fn k x7_0 x8 hx8) (map_ev (.cons (hle.ev rfl (by nofun)) (.nil))) [0] (by repeat' (first | exact All2.nil | refine All2.cons ?_ ?_ | refine ArgV.one ?_ | refine ArgV.agg ?_ | exact ArgC.mk rfl | exact ArgC.lend (hle.heap _ _ rfl) (by simp) | exact ArgC.le (CLe.nil _) rfl | exact ArgC.le (CLe.emp _) rfl | exact ArgC.le (CLe.any _) rfl)) rfl rfl rfl (.inr rfl) (hle.d rfl)⟩
     refine ⟨⟨[], (by decide +kernel), fun S hle hfr => ?_⟩, ?_⟩
     · exact .inl ⟨.inl ⟨rfl, rfl⟩, st_move (hle.ev rfl (by nofun)) (hle.d rfl)⟩
     refine ⟨⟨2 :: 1 :: 0 :: [], (by decide +kernel), fun S hle hfr => ?_⟩, ?_⟩
     · exact .inl ⟨.inl ⟨rfl, rfl⟩, ev_call_v (wire_Checksum_fn k a0 x9 hx9) (map_ev (.cons (hle.ev rfl (by nofun)) (.nil))) [] (by repeat' (first | exact All2.nil | refine All2.cons ?_ ?_ | refine ArgV.one ?_ | refine ArgV.agg ?_ | exact ArgC.mk rfl | exact ArgC.lend (hle.heap _ _ rfl) (by simp) | exact ArgC.le (CLe.nil _) rfl | exact ArgC.le (CLe.emp _) rfl | exact ArgC.le (CLe.any _) rfl)) rfl rfl rfl (.inl rfl) (hle.d rfl)⟩
     refine ⟨⟨[], (by decide +kernel), fun S hle hfr => ?_⟩, ?_⟩
     · exact .inl ⟨.inl ⟨rfl, rfl⟩, st_move (hle.ev rfl (by nofun)) (hle.d rfl)⟩
     refine ⟨⟨[], (by decide +kernel), fun S hle hfr => ?_⟩, ?_⟩
     · exact .inl ⟨.inl ⟨rfl, rfl⟩, st_move (hle.ev rfl (by nofun)) (hle.d rfl)⟩
     refine ⟨⟨5 :: [], (by decide +kernel), fun S hle hfr => ?_⟩, ?_⟩
     · exact .inl ⟨.inl ⟨rfl, rfl⟩, ev_len_slc (hle.ev rfl (by nofun)) (hle.d rfl)⟩
     refine ⟨⟨4 :: 6 :: 5 :: [], (by decide +kernel), fun S hle hfr => ?_⟩, ?_⟩
     · exact .inl ⟨.inl ⟨rfl, rfl⟩, st_cut_hi (f := byC) (fun _ => rfl) (hle.ev rfl (by nofun)) ⟨_, _, (hle.ev rfl (by nofun)), rfl⟩ g10 (hle.d rfl)⟩
     refine ⟨⟨7 :: 3 :: 4 :: 6 :: 2 :: 1 :: 5 :: 0 :: [], (by decide +kernel), fun S hle hfr => ?_⟩, ?_⟩
     · exact .inl ⟨.inl ⟨rfl, rfl⟩, ev_call_v (wire_Checksum_fn k (a1.take a0.length) x11 hx11) (map_ev (.cons (hle.ev rfl (by nofun)) (.nil))) [] (by repeat' (first | exact All2.nil | refine All2.cons ?_ ?_ | refine ArgV.one ?_ | refine ArgV.agg ?_ | exact ArgC.mk rfl | exact ArgC.lend (hle.heap _ _ rfl) (by simp) | exact ArgC.le (CLe.nil _) rfl | exact ArgC.le (CLe.emp _) rfl | exact ArgC.le (CLe.any _) rfl)) rfl rfl rfl (.inl rfl) (hle.d rfl)⟩
     refine ⟨⟨3 :: 8 :: 2 :: 1 :: 7 :: 0 :: 4 :: 6 :: 5 :: [], (by decide +kernel), fun S hle hfr => ?_⟩, ?_⟩
     · exact .inl ⟨.inl ⟨rfl, rfl⟩, ev_bits (hle.ev rfl (by nofun)) (hle.ev rfl (by nofun)) (hle.d rfl) rfl (Md.xor_u32 x9 x11)⟩
     refine ⟨⟨[], (by decide +kernel), fun S hle hfr => ?_⟩, ?_⟩
     · exact .inl ⟨.inl ⟨rfl, rfl⟩, st_move (hle.ev rfl (by nofun)) (hle.d rfl)⟩
     refine ⟨⟨10 :: [], (by decide +kernel), fun S hle hfr => ?_⟩, ?_⟩
     · exact .inl ⟨.inl ⟨rfl, rfl⟩, ev_len_slc (hle.ev rfl (by nofun)) (hle.d rfl)⟩
     refine ⟨⟨11 :: 10 :: [], (by decide +kernel), fun S hle hfr => ?_⟩, ?_⟩
     · exact .inl ⟨.inl ⟨rfl, rfl⟩, st_make (f := byC) 1 a0.length a0.length (0 : UInt8) (hfr _ (List.mem_singleton.2 rfl)) (hle.ev rfl (by nofun)) (hle.ev rfl (by nofun)) (Nat.le_refl _) g12 rfl rfl rfl (fun _ => rfl) (by decide) (hle.d rfl)⟩
     refine ⟨⟨12 :: 8 :: 11 :: 7 :: 3 :: 10 :: 4 :: 6 :: 2 :: 1 :: 5 :: 0 :: [], (by decide +kernel), fun S hle hfr => ?_⟩, ?_⟩
     · exact .inl ⟨.inl ⟨rfl, rfl⟩, ev_call_v (wire_Checksum_fn k (List.replicate a0.length (0 : UInt8)) x13 hx13) (map_ev (.cons (hle.ev rfl (by nofun)) (.nil))) [1] (by repeat' (first | exact All2.nil | refine All2.cons ?_ ?_ | refine ArgV.one ?_ | refine ArgV.agg ?_ | exact ArgC.mk rfl | exact ArgC.lend (hle.heap _ _ rfl) (by simp) | exact ArgC.le (CLe.nil _) rfl | exact ArgC.le (CLe.emp _) rfl | exact ArgC.le (CLe.any _) rfl)) rfl rfl rfl (.inr rfl) (hle.d rfl)⟩
     exact trivial
    case hk5x => rfl
    case hf5x => rfl
    refine aops_step1 rfl (ev_bits rfl rfl rfl rfl (Md.xor_u32 (x9 ^^^ x11) x13)) ?_
    refine aops_step1 rfl (ev_cmp rfl rfl rfl rfl) ?_
    refine aops_step1 rfl (st_assign rfl rfl) ?_
    refine aops_nil ?_
    cases Option.some.inj h
    refine aw_ret ⟨rfl, ret_v (.inl ⟨_, rfl, rfl, fun _ e => nomatch e⟩) rfl rfl rfl ?_⟩
    (repeat' (first | exact TLe.refl _ | exact VLe.refl _ | exact CLe.refl _ | exact All2.nil | refine TLe.tup ?_ | refine TLe.v ?_ | refine All2.cons ?_ ?_ | refine VLe.agg ?_ | refine VLe.one ?_ | exact CLe.nil _ | exact CLe.emp _ | refine CLe.val ?_ | refine CLe.slc ?_ ?_))
  intro p7
  obtain ⟨⟨n7, s7_0, s7_1⟩, l7⟩ := p7
  change AW _ _ (⟨61, [], [(0, .one (CV.ls byC a0)), (1, .one (CV.ls byC a1)), (5, .one (.own 0)), (6, .one (.val (.int .i64 ((s7_0 : Nat) : Int))))], [(0, some (.row 5 1 s7_1.length (lsEl byC s7_1)))]⟩ : ASt) _
  replace l7 : actorgridlaw1_WireSums_loop1 k a0 a1 n7 s7_0 s7_1 = some o7 := l7
  rcases n7 with _ | n7
  · exact absurd (show none = some o7 from l7) nofun
  rw [actorgridlaw1_WireSums_loop1] at l7
  refine aw_seq ?_
  refine aw_seq ?_
  refine aw_region ?_
  refine aops_step1 rfl (st_move rfl rfl) ?_
  refine aops_step1 rfl (st_move rfl rfl) ?_
  refine aops_step1 rfl (ev_len_slc rfl rfl) ?_
  refine aops_step1 rfl (ev_cmp rfl rfl rfl rfl) ?_
  refine aops_nil ?_
  refine aw_cond rfl (fun c14 => ?_) (fun c14 => ?_)
  · replace l7 := Md.cond_t l7 c14
    refine aw_skip ?_
    refine aw_seq ?_
    refine aw_block ?_
    obtain ⟨g15, l7⟩ := Md.ifp_s l7
    obtain ⟨g16, l7⟩ := Md.ifp_s l7
    obtain ⟨g17, l7⟩ := Md.ifp_s l7
    apply aw_draw 11 ((⟨[], .one (.own 0)⟩ : Add) :: ⟨[], .one (.val (.int .i64 ((s7_0 : Nat) : Int)))⟩ :: ⟨[], .one (CV.ls byC a0)⟩ :: ⟨[], .one (.val (.int .i64 ((s7_0 : Nat) : Int)))⟩ :: ⟨[], .one (.cptr _)⟩ :: ⟨[], .one (.val (.int .u8 (((a0.getD s7_0 default)).toNat : Int)))⟩ :: ⟨[], .one (CV.ls byC a1)⟩ :: ⟨[], .one (.val (.int .i64 ((s7_0 : Nat) : Int)))⟩ :: ⟨[], .one (.cptr _)⟩ :: ⟨[], .one (.val (.int .u8 (((a1.getD s7_0 default)).toNat : Int)))⟩ :: ⟨[], .one (.val (.int .u8 ((((a0.getD s7_0 default) ^^^ (a1.getD s7_0 default))).toNat : Int)))⟩ :: []) (by decide) rfl ?hk7x ?hf7x ?ho7x ?hr7x
    case ho7x =>
     refine ⟨⟨[], (by decide +kernel), fun S hle hfr => ?_⟩, ?_⟩
     · exact .inl ⟨.inl ⟨rfl, rfl⟩, st_move (hle.ev rfl (by nofun)) (hle.d rfl)⟩
     refine ⟨⟨[], (by decide +kernel), fun S hle hfr => ?_⟩, ?_⟩
     · exact .inl ⟨.inl ⟨rfl, rfl⟩, st_move (hle.ev rfl (by nofun)) (hle.d rfl)⟩
     refine ⟨⟨[], (by decide +kernel), fun S hle hfr => ?_⟩, ?_⟩
     · exact .inl ⟨.inl ⟨rfl, rfl⟩, st_move (hle.ev rfl (by nofun)) (hle.d rfl)⟩
     refine ⟨⟨[], (by decide +kernel), fun S hle hfr => ?_⟩, ?_⟩
     · exact .inl ⟨.inl ⟨rfl, rfl⟩, st_move (hle.ev rfl (by nofun)) (hle.d rfl)⟩
     refine ⟨⟨2 :: 3 :: [], (by decide +kernel), fun S hle hfr => ?_⟩, ?_⟩
     · exact .inl ⟨.inl ⟨rfl, rfl⟩, ev_index_in (hle.ev rfl (by nofun)) (hle.ev rfl (by nofun)) rfl g15 rfl (hle.d rfl)⟩
     refine ⟨⟨4 :: 2 :: 3 :: [], (by decide +kernel), fun S hle hfr => ?_⟩, ?_⟩
     · exact .inl ⟨.inl ⟨rfl, rfl⟩, ev_load_in (hle.ev rfl (by nofun)) rfl (hle.d rfl)⟩
     refine ⟨⟨[], (by decide +kernel), fun S hle hfr => ?_⟩, ?_⟩
     · exact .inl ⟨.inl ⟨rfl, rfl⟩, st_move (hle.ev rfl (by nofun)) (hle.d rfl)⟩
     refine ⟨⟨[], (by decide +kernel), fun S hle hfr => ?_⟩, ?_⟩
     · exact .inl ⟨.inl ⟨rfl, rfl⟩, st_move (hle.ev rfl (by nofun)) (hle.d rfl)⟩
     refine ⟨⟨6 :: 7 :: [], (by decide +kernel), fun S hle hfr => ?_⟩, ?_⟩
     · exact .inl ⟨.inl ⟨rfl, rfl⟩, ev_index_in (hle.ev rfl (by nofun)) (hle.ev rfl (by nofun)) rfl g16 rfl (hle.d rfl)⟩
     refine ⟨⟨8 :: 6 :: 7 :: [], (by decide +kernel), fun S hle hfr => ?_⟩, ?_⟩
     · exact .inl ⟨.inl ⟨rfl, rfl⟩, ev_load_in (hle.ev rfl (by nofun)) rfl (hle.d rfl)⟩
     refine ⟨⟨5 :: 9 :: 4 :: 8 :: 2 :: 3 :: 6 :: 7 :: [], (by decide +kernel), fun S hle hfr => ?_⟩, ?_⟩
     · exact .inl ⟨.inl ⟨rfl, rfl⟩, ev_bits (hle.ev rfl (by nofun)) (hle.ev rfl (by nofun)) (hle.d rfl) rfl (Md.xor_u8 (a0.getD s7_0 default) (a1.getD s7_0 default))⟩
     exact trivial
    case hk7x => rfl
    case hf7x => rfl
    refine aops_step1 rfl (ev_index_row rfl rfl rfl rfl g17 rfl) ?_
    refine aops_step1 rfl (st_store_row (l := s7_1) ((a0.getD s7_0 default) ^^^ (a1.getD s7_0 default)) (fun _ => rfl) rfl rfl g17 rfl rfl rfl rfl rfl) ?_
    refine aops_nil ?_
    refine aw_region ?_
    refine aops_step1 rfl (st_move rfl rfl) ?_
    obtain ⟨g18, l7⟩ := Md.ifp_s l7
    refine aops_step1 rfl (ev_add rfl rfl rfl (Md.nat_add g18)) ?_
    refine aops_step1 rfl (st_assign rfl rfl) ?_
    refine aops_nil ?_
    exact ⟨⟨(n7, (s7_0 + 1), (s7_1.set s7_0 ((a0.getD s7_0 default) ^^^ (a1.getD s7_0 default)))), l7⟩, Nat.lt_succ_self _, (by (refine weak_mk rfl rfl ?_ ?_ rfl <;> repeat' (first | exact trivial | refine ⟨?_, ?_⟩ | exact VLe.refl _ | exact BLe.refl _ | refine VLe.one (CLe.val ?_) | exact VLe.one (CLe.nil _) | exact VLe.one (CLe.emp _))))⟩
  replace l7 := Md.cond_f l7 c14
  refine aw_exit ?_
  show ∃ _x : (List UInt8), _ = _ ∧ Weak _ _
  exact ⟨s7_1, Option.some.inj l7, (by (refine weak_mk rfl rfl ?_ ?_ rfl <;> repeat' (first | exact trivial | refine ⟨?_, ?_⟩ | exact VLe.refl _ | exact BLe.refl _ | refine VLe.one (CLe.val ?_) | exact VLe.one (CLe.nil _) | exact VLe.one (CLe.emp _))))⟩
end Md
end Go.Proofs.Ytbnjdkpangmneaa
