/-
  DiskD: where a function's model gives a value, the function returns what reads as it (printed by wip/tools/auto.py). Condition of each: the model gives a value.
-/
import Derived.Test.YtkcfkcgclljncaaDiskDM
import Derived.Test.YtkcfkcgclljncaaDiskC
namespace Go.Proofs.Ytkcfkcgclljncaa
open Go.ChangeShapes Go.WideShapes Go.RowKit
open Abs
set_option linter.unusedVariables false
set_option linter.unusedSimpArgs false
set_option maxRecDepth 10000
namespace Md
def c_Actorgridlaw26Act (x : Actorgridlaw26Act) : List CV := [.val (.int .u8 (x.Kind.toNat : Int)), CV.ls byC x.B, .val (.int .u8 (x.N.toNat : Int)), .val (.int .u8 (x.Keep.toNat : Int))]
set_option maxHeartbeats 2000000 in
theorem actorgridlaw26_awake_fn (k : Nat) (r : Bool) (h : actorgridlaw26_awake k = some r) : FnC Try.prog 15 [] [] (Det (.one (.val (.bool r))) []) := by
  unfold actorgridlaw26_awake at h
  refine fn_intro' 62 Try.func15 rfl rfl rfl ?_
  refine aw_seq ?_
  refine aw_region ?_
  refine aops_step1 rfl (st_assign rfl rfl) ?_
  refine aops_nil ?_
  obtain ⟨x1, hx1, h⟩ := Md.bind_s h
  refine aw_seq ?_
  refine aw_region ?_
  refine aops_step1 rfl (ev_call_v (disk_New_fn k 10 x1 hx1) rfl [] (by repeat' (first | exact All2.nil | refine All2.cons ?_ ?_ | refine ArgV.one ?_ | refine ArgV.agg ?_ | exact ArgC.mk rfl | exact ArgC.lend rfl (by simp) | exact ArgC.le (CLe.nil _) rfl | exact ArgC.le (CLe.emp _) rfl | exact ArgC.le (CLe.any _) rfl)) rfl rfl rfl (.inl rfl) rfl) ?_
  refine aops_step1 rfl (st_movet rfl rfl) ?_
  refine aops_step1 rfl (ev_extract rfl rfl rfl) ?_
  refine aops_step1 rfl (ev_extract rfl rfl rfl) ?_
  refine aops_step1 rfl (st_alloc (cs := [.val (.slice none 0 0), .val (.int .i64 0), .val (.bool false), .val (.int .i64 0), .val (.int .i64 0), .val (.bool false)]) 0 rfl rfl rfl rfl rfl) ?_
  refine aops_step1 rfl (st_store (cs' := [_, _, _, _, _, _]) rfl rfl rfl rfl rfl rfl rfl rfl rfl) ?_
  refine aops_step1 rfl (st_assign rfl rfl) ?_
  refine aops_nil ?_
  refine aw_seq ?_
  refine aw_seq ?_
  refine aw_region ?_
  refine aops_step1 rfl (st_move rfl rfl) ?_
  refine aops_step1 rfl (ev_cmp rfl rfl rfl rfl) ?_
  refine aops_nil ?_
  refine aw_cond rfl (fun c2 => ?_) (fun c2 => ?_)
  · replace h := Md.cond_t h c2
    refine aw_seq ?_
    refine aw_region ?_
    refine aops_step1 rfl (st_assign rfl rfl) ?_
    refine aops_nil ?_
    cases Option.some.inj h
    refine aw_ret ⟨rfl, ret_v (.inl ⟨_, rfl, rfl, fun _ e => nomatch e⟩) rfl rfl rfl ?_⟩
    (repeat' (first | exact TLe.refl _ | exact VLe.refl _ | exact CLe.refl _ | exact All2.nil | refine TLe.tup ?_ | refine TLe.v ?_ | refine All2.cons ?_ ?_ | refine VLe.agg ?_ | refine VLe.one ?_ | exact CLe.nil _ | exact CLe.emp _ | refine CLe.val ?_ | refine CLe.slc ?_ ?_))
  replace h := Md.cond_f h c2
  refine aw_skip ?_
  obtain ⟨x3, hx3, h⟩ := Md.bind_s h
  refine aw_seq ?_
  refine aw_region ?_
  refine aops_step1 rfl (ev_loads (ds := [_, _, _, _, _, _]) rfl rfl rfl rfl rfl) ?_
  refine aops_step1 rfl (st_slice_lit (el := lsEl byC [(97 : UInt8), (98 : UInt8)]) 1 rfl rfl rfl rfl rfl rfl rfl rfl (lit_el byC 1 [(97 : UInt8), (98 : UInt8)] (fun _ => rfl)) rfl) ?_
  refine aops_step1 rfl (st_conv_own rfl rfl (by decide) Try.underlying24 Try.underlying5 rfl) ?_
  refine aops_step1 rfl (ev_call_v (disk_Append_fn k x1.1 [(97 : UInt8), (98 : UInt8)] x3 hx3) rfl [] (by repeat' (first | exact All2.nil | refine All2.cons ?_ ?_ | refine ArgV.one ?_ | refine ArgV.agg ?_ | exact ArgC.mk rfl | exact ArgC.lend rfl (by simp) | exact ArgC.le (CLe.nil _) rfl | exact ArgC.le (CLe.emp _) rfl | exact ArgC.le (CLe.any _) rfl)) rfl rfl rfl (.inl rfl) rfl) ?_
  refine aops_step1 rfl (st_movet rfl rfl) ?_
  refine aops_step1 rfl (ev_extract rfl rfl rfl) ?_
  refine aops_step1 rfl (ev_extract rfl rfl rfl) ?_
  refine aops_step1 rfl (st_store (cs' := [_, _, _, _, _, _]) rfl rfl rfl rfl rfl rfl rfl rfl rfl) ?_
  refine aops_step1 rfl (st_assign rfl rfl) ?_
  refine aops_nil ?_
  refine aw_seq ?_
  refine aw_seq ?_
  refine aw_region ?_
  refine aops_step1 rfl (st_move rfl rfl) ?_
  refine aops_step1 rfl (ev_cmp rfl rfl rfl rfl) ?_
  refine aops_nil ?_
  refine aw_cond rfl (fun c4 => ?_) (fun c4 => ?_)
  · replace h := Md.cond_t h c4
    refine aw_seq ?_
    refine aw_region ?_
    refine aops_step1 rfl (st_assign rfl rfl) ?_
    refine aops_nil ?_
    cases Option.some.inj h
    refine aw_ret ⟨rfl, ret_v (.inl ⟨_, rfl, rfl, fun _ e => nomatch e⟩) rfl rfl rfl ?_⟩
    (repeat' (first | exact TLe.refl _ | exact VLe.refl _ | exact CLe.refl _ | exact All2.nil | refine TLe.tup ?_ | refine TLe.v ?_ | refine All2.cons ?_ ?_ | refine VLe.agg ?_ | refine VLe.one ?_ | exact CLe.nil _ | exact CLe.emp _ | refine CLe.val ?_ | refine CLe.slc ?_ ?_))
  replace h := Md.cond_f h c4
  refine aw_skip ?_
  obtain ⟨x5, hx5, h⟩ := Md.bind_s h
  refine aw_seq ?_
  refine aw_region ?_
  refine aops_step1 rfl (ev_loads (ds := [_, _, _, _, _, _]) rfl rfl rfl rfl rfl) ?_
  refine aops_step1 rfl (ev_call_v (disk_Arm_fn k x3.1 0 1 x5 hx5) rfl [] (by repeat' (first | exact All2.nil | refine All2.cons ?_ ?_ | refine ArgV.one ?_ | refine ArgV.agg ?_ | exact ArgC.mk rfl | exact ArgC.lend rfl (by simp) | exact ArgC.le (CLe.nil _) rfl | exact ArgC.le (CLe.emp _) rfl | exact ArgC.le (CLe.any _) rfl)) rfl rfl rfl (.inl rfl) rfl) ?_
  refine aops_step1 rfl (st_movet rfl rfl) ?_
  refine aops_step1 rfl (ev_extract rfl rfl rfl) ?_
  refine aops_step1 rfl (ev_extract rfl rfl rfl) ?_
  refine aops_step1 rfl (st_store (cs' := [_, _, _, _, _, _]) rfl rfl rfl rfl rfl rfl rfl rfl rfl) ?_
  refine aops_step1 rfl (st_assign rfl rfl) ?_
  refine aops_nil ?_
  refine aw_seq ?_
  refine aw_seq ?_
  refine aw_region ?_
  refine aops_step1 rfl (st_move rfl rfl) ?_
  refine aops_step1 rfl (ev_cmp rfl rfl rfl rfl) ?_
  refine aops_nil ?_
  refine aw_cond rfl (fun c6 => ?_) (fun c6 => ?_)
  · replace h := Md.cond_t h c6
    refine aw_seq ?_
    refine aw_region ?_
    refine aops_step1 rfl (st_assign rfl rfl) ?_
    refine aops_nil ?_
    cases Option.some.inj h
    refine aw_ret ⟨rfl, ret_v (.inl ⟨_, rfl, rfl, fun _ e => nomatch e⟩) rfl rfl rfl ?_⟩
    (repeat' (first | exact TLe.refl _ | exact VLe.refl _ | exact CLe.refl _ | exact All2.nil | refine TLe.tup ?_ | refine TLe.v ?_ | refine All2.cons ?_ ?_ | refine VLe.agg ?_ | refine VLe.one ?_ | exact CLe.nil _ | exact CLe.emp _ | refine CLe.val ?_ | refine CLe.slc ?_ ?_))
  replace h := Md.cond_f h c6
  refine aw_skip ?_
  obtain ⟨x7, hx7, h⟩ := Md.bind_s h
  refine aw_seq ?_
  refine aw_region ?_
  refine aops_step1 rfl (ev_loads (ds := [_, _, _, _, _, _]) rfl rfl rfl rfl rfl) ?_
  refine aops_step1 rfl (st_slice_lit (el := lsEl byC [(99 : UInt8), (100 : UInt8)]) 2 rfl rfl rfl rfl rfl rfl rfl rfl (lit_el byC 1 [(99 : UInt8), (100 : UInt8)] (fun _ => rfl)) rfl) ?_
  refine aops_step1 rfl (st_conv_own rfl rfl (by decide) Try.underlying24 Try.underlying5 rfl) ?_
  refine aops_step1 rfl (ev_call_v (disk_Append_fn k x5.1 [(99 : UInt8), (100 : UInt8)] x7 hx7) rfl [] (by repeat' (first | exact All2.nil | refine All2.cons ?_ ?_ | refine ArgV.one ?_ | refine ArgV.agg ?_ | exact ArgC.mk rfl | exact ArgC.lend rfl (by simp) | exact ArgC.le (CLe.nil _) rfl | exact ArgC.le (CLe.emp _) rfl | exact ArgC.le (CLe.any _) rfl)) rfl rfl rfl (.inl rfl) rfl) ?_
  refine aops_step1 rfl (st_movet rfl rfl) ?_
  refine aops_step1 rfl (ev_extract rfl rfl rfl) ?_
  refine aops_step1 rfl (ev_extract rfl rfl rfl) ?_
  refine aops_step1 rfl (st_store (cs' := [_, _, _, _, _, _]) rfl rfl rfl rfl rfl rfl rfl rfl rfl) ?_
  refine aops_step1 rfl (st_assign rfl rfl) ?_
  refine aops_nil ?_
  refine aw_seq ?_
  rcases Md.bool_or ((x7.2 != 23)) with q8 | q8
  · replace h := Md.cond_t h q8
    refine aw_seq ?_
    refine aw_region ?_
    refine aops_step1 rfl (st_move rfl rfl) ?_
    refine aops_step1 rfl (ev_cmp rfl rfl rfl rfl) ?_
    refine aops_step1 rfl (st_move rfl rfl) ?_
    refine aops_no rfl rfl rfl rfl rfl (by first | decide | (rw [q8]; decide)) ?_
    refine aops_no rfl rfl rfl rfl rfl (by first | decide | (rw [q8]; decide)) ?_
    refine aops_no rfl rfl rfl rfl rfl (by first | decide | (rw [q8]; decide)) ?_
    refine aops_step1 rfl (st_pick_yes rfl (by first | rfl | exact q8) rfl rfl) ?_
    refine aops_nil ?_
    refine aw_yes rfl (rfl) ?_
    refine aw_seq ?_
    refine aw_region ?_
    refine aops_step1 rfl (st_assign rfl rfl) ?_
    refine aops_nil ?_
    cases Option.some.inj h
    refine aw_ret ⟨rfl, ret_v (.inl ⟨_, rfl, rfl, fun _ e => nomatch e⟩) rfl rfl rfl ?_⟩
    (repeat' (first | exact TLe.refl _ | exact VLe.refl _ | exact CLe.refl _ | exact All2.nil | refine TLe.tup ?_ | refine TLe.v ?_ | refine All2.cons ?_ ?_ | refine VLe.agg ?_ | refine VLe.one ?_ | exact CLe.nil _ | exact CLe.emp _ | refine CLe.val ?_ | refine CLe.slc ?_ ?_))
  replace h := Md.cond_f h q8
  refine aw_seq ?_
  refine aw_region ?_
  refine aops_step1 rfl (st_move rfl rfl) ?_
  refine aops_step1 rfl (ev_cmp rfl rfl rfl rfl) ?_
  refine aops_step1 rfl (st_move rfl rfl) ?_
  refine aops_yes rfl rfl rfl rfl q8 (ev_field rfl rfl rfl) ?_
  refine aops_yes rfl rfl rfl rfl q8 (ev_load rfl rfl rfl rfl) ?_
  refine aops_yes rfl rfl rfl rfl q8 (ev_not rfl rfl) ?_
  refine aops_step1 rfl (st_pick_no rfl (by first | rfl | exact q8) rfl rfl) ?_
  refine aops_nil ?_
  refine aw_cond rfl (fun c9 => ?_) (fun c9 => ?_)
  · replace h := Md.cond_t h c9
    refine aw_seq ?_
    refine aw_region ?_
    refine aops_step1 rfl (st_assign rfl rfl) ?_
    refine aops_nil ?_
    cases Option.some.inj h
    refine aw_ret ⟨rfl, ret_v (.inl ⟨_, rfl, rfl, fun _ e => nomatch e⟩) rfl rfl rfl ?_⟩
    (repeat' (first | exact TLe.refl _ | exact VLe.refl _ | exact CLe.refl _ | exact All2.nil | refine TLe.tup ?_ | refine TLe.v ?_ | refine All2.cons ?_ ?_ | refine VLe.agg ?_ | refine VLe.one ?_ | exact CLe.nil _ | exact CLe.emp _ | refine CLe.val ?_ | refine CLe.slc ?_ ?_))
  replace h := Md.cond_f h c9
  refine aw_skip ?_
  obtain ⟨x10, hx10, h⟩ := Md.bind_s h
  refine aw_seq ?_
  refine aw_region ?_
  refine aops_step1 rfl (ev_loads (ds := [_, _, _, _, _, _]) rfl rfl rfl rfl rfl) ?_
  refine aops_step1 rfl (ev_call_v (disk_Restart_fn k x7.1 x10 hx10) rfl [] (by repeat' (first | exact All2.nil | refine All2.cons ?_ ?_ | refine ArgV.one ?_ | refine ArgV.agg ?_ | exact ArgC.mk rfl | exact ArgC.lend rfl (by simp) | exact ArgC.le (CLe.nil _) rfl | exact ArgC.le (CLe.emp _) rfl | exact ArgC.le (CLe.any _) rfl)) rfl rfl rfl (.inl rfl) rfl) ?_
  refine aops_step1 rfl (st_movet rfl rfl) ?_
  refine aops_step1 rfl (ev_extract rfl rfl rfl) ?_
  refine aops_step1 rfl (ev_extract rfl rfl rfl) ?_
  refine aops_step1 rfl (st_store (cs' := [_, _, _, _, _, _]) rfl rfl rfl rfl rfl rfl rfl rfl rfl) ?_
  refine aops_step1 rfl (st_assign rfl rfl) ?_
  refine aops_nil ?_
  obtain ⟨x11, hx11, h⟩ := Md.bind_s h
  refine aw_seq ?_
  refine aw_region ?_
  refine aops_step1 rfl (ev_loads (ds := [_, _, _, _, _, _]) rfl rfl rfl rfl rfl) ?_
  refine aops_step1 rfl (ev_call_v (disk_Read_fn k x10.1 x11 hx11) rfl [] (by repeat' (first | exact All2.nil | refine All2.cons ?_ ?_ | refine ArgV.one ?_ | refine ArgV.agg ?_ | exact ArgC.mk rfl | exact ArgC.lend rfl (by simp) | exact ArgC.le (CLe.nil _) rfl | exact ArgC.le (CLe.emp _) rfl | exact ArgC.le (CLe.any _) rfl)) rfl rfl rfl (.inl rfl) rfl) ?_
  refine aops_step1 rfl (st_movet rfl rfl) ?_
  refine aops_step1 rfl (ev_extract rfl rfl rfl) ?_
  refine aops_step1 rfl (ev_extract rfl rfl rfl) ?_
  refine aops_step1 rfl (st_assign rfl rfl) ?_
  refine aops_step1 rfl (st_assign rfl rfl) ?_
  refine aops_nil ?_
  rcases Md.bool_or ((x10.2 == 0)) with q12 | q12
  · replace h := Md.cond_t h q12
    rcases Md.bool_or ((x11.2 == 0)) with q13 | q13
    · replace h := Md.cond_t h q13
      refine aw_seq ?_
      refine aw_region ?_
      refine aops_step1 rfl (st_move rfl rfl) ?_
      refine aops_step1 rfl (ev_cmp rfl rfl rfl rfl) ?_
      refine aops_step1 rfl (st_move rfl rfl) ?_
      refine aops_yes rfl rfl rfl rfl q12 (st_move rfl rfl) ?_
      refine aops_yes rfl rfl rfl rfl q12 (ev_cmp rfl rfl rfl rfl) ?_
      refine aops_step1 rfl (st_pick_yes rfl (by first | rfl | exact q12) rfl rfl) ?_
      refine aops_step1 rfl (st_move rfl rfl) ?_
      refine aops_yes rfl rfl rfl rfl q13 (st_move rfl rfl) ?_
      refine aops_yes rfl rfl rfl rfl q13 (ev_str_bytes (.inl rfl) Try.underlying24 Try.underlying5 Try.underlying9 rfl) ?_
      refine aops_yes rfl rfl rfl rfl q13 (st_str_eq rfl rfl rfl) ?_
      refine aops_step1 rfl (st_pick_yes rfl (by first | rfl | exact q13) rfl rfl) ?_
      refine aops_step1 rfl (st_assign rfl rfl) ?_
      refine aops_nil ?_
      cases Option.some.inj h
      refine aw_ret ⟨rfl, ret_v (.inl ⟨_, rfl, rfl, fun _ e => nomatch e⟩) rfl rfl rfl ?_⟩
      (repeat' (first | exact TLe.refl _ | exact VLe.refl _ | exact CLe.refl _ | exact All2.nil | refine TLe.tup ?_ | refine TLe.v ?_ | refine All2.cons ?_ ?_ | refine VLe.agg ?_ | refine VLe.one ?_ | exact CLe.nil _ | exact CLe.emp _ | refine CLe.val ?_ | refine CLe.slc ?_ ?_))
    replace h := Md.cond_f h q13
    refine aw_seq ?_
    refine aw_region ?_
    refine aops_step1 rfl (st_move rfl rfl) ?_
    refine aops_step1 rfl (ev_cmp rfl rfl rfl rfl) ?_
    refine aops_step1 rfl (st_move rfl rfl) ?_
    refine aops_yes rfl rfl rfl rfl q12 (st_move rfl rfl) ?_
    refine aops_yes rfl rfl rfl rfl q12 (ev_cmp rfl rfl rfl rfl) ?_
    refine aops_step1 rfl (st_pick_yes rfl (by first | rfl | exact q12) rfl rfl) ?_
    refine aops_step1 rfl (st_move rfl rfl) ?_
    refine aops_no rfl rfl rfl rfl rfl (by first | decide | (rw [q13]; decide)) ?_
    refine aops_no rfl rfl rfl rfl rfl (by first | decide | (rw [q13]; decide)) ?_
    refine aops_no rfl rfl rfl rfl rfl (by first | decide | (rw [q13]; decide)) ?_
    refine aops_step1 rfl (st_pick_no rfl (by first | rfl | exact q13) rfl rfl) ?_
    refine aops_step1 rfl (st_assign rfl rfl) ?_
    refine aops_nil ?_
    cases Option.some.inj h
    refine aw_ret ⟨rfl, ret_v (.inl ⟨_, rfl, rfl, fun _ e => nomatch e⟩) rfl rfl rfl ?_⟩
    (repeat' (first | exact TLe.refl _ | exact VLe.refl _ | exact CLe.refl _ | exact All2.nil | refine TLe.tup ?_ | refine TLe.v ?_ | refine All2.cons ?_ ?_ | refine VLe.agg ?_ | refine VLe.one ?_ | exact CLe.nil _ | exact CLe.emp _ | refine CLe.val ?_ | refine CLe.slc ?_ ?_))
  replace h := Md.cond_f h q12
  refine aw_seq ?_
  refine aw_region ?_
  refine aops_step1 rfl (st_move rfl rfl) ?_
  refine aops_step1 rfl (ev_cmp rfl rfl rfl rfl) ?_
  refine aops_step1 rfl (st_move rfl rfl) ?_
  refine aops_no rfl rfl rfl rfl rfl (by first | decide | (rw [q12]; decide)) ?_
  refine aops_no rfl rfl rfl rfl rfl (by first | decide | (rw [q12]; decide)) ?_
  refine aops_step1 rfl (st_pick_no rfl (by first | rfl | exact q12) rfl rfl) ?_
  refine aops_step1 rfl (st_move rfl rfl) ?_
  refine aops_no rfl rfl rfl rfl rfl (by decide) ?_
  refine aops_no rfl rfl rfl rfl rfl (by decide) ?_
  refine aops_no rfl rfl rfl rfl rfl (by decide) ?_
  refine aops_step1 rfl (st_pick_no rfl (by first | rfl | exact rfl) rfl rfl) ?_
  refine aops_step1 rfl (st_assign rfl rfl) ?_
  refine aops_nil ?_
  cases Option.some.inj h
  refine aw_ret ⟨rfl, ret_v (.inl ⟨_, rfl, rfl, fun _ e => nomatch e⟩) rfl rfl rfl ?_⟩
  (repeat' (first | exact TLe.refl _ | exact VLe.refl _ | exact CLe.refl _ | exact All2.nil | refine TLe.tup ?_ | refine TLe.v ?_ | refine All2.cons ?_ ?_ | refine VLe.agg ?_ | refine VLe.one ?_ | exact CLe.nil _ | exact CLe.emp _ | refine CLe.val ?_ | refine CLe.slc ?_ ?_))
set_option maxHeartbeats 2000000 in
theorem actorgridlaw26_DiskTorn_fn (k : Nat) (a0 : List (List UInt8)) (a1 : UInt8) (a2 : UInt8) (r : Bool) (h : actorgridlaw26_DiskTorn k a0 a1 a2 = some r) : FnC Try.prog 3 [.one (CV.ls c_LU8 a0), .one (.val (.int .u8 (a1.toNat : Int))), .one (.val (.int .u8 (a2.toNat : Int)))] [] (Det (.one (.val (.bool r))) []) := by
  unfold actorgridlaw26_DiskTorn at h
  refine fn_intro' 132 Try.func3 rfl rfl rfl ?_
  refine aw_seq ?_
  refine aw_region ?_
  refine aops_step1 rfl (st_assign rfl rfl) ?_
  refine aops_nil ?_
  refine aw_seq ?_
  obtain ⟨x1, hx1, h⟩ := Md.bind_s h
  refine aw_seq ?_
  refine aw_region ?_
  refine aops_step1 rfl (ev_call_v (actorgridlaw26_awake_fn k x1 hx1) rfl [] (by repeat' (first | exact All2.nil | refine All2.cons ?_ ?_ | refine ArgV.one ?_ | refine ArgV.agg ?_ | exact ArgC.mk rfl | exact ArgC.lend rfl (by simp) | exact ArgC.le (CLe.nil _) rfl | exact ArgC.le (CLe.emp _) rfl | exact ArgC.le (CLe.any _) rfl)) rfl rfl rfl (.inl rfl) rfl) ?_
  refine aops_step1 rfl (ev_not rfl rfl) ?_
  refine aops_nil ?_
  refine aw_cond rfl (fun c2 => ?_) (fun c2 => ?_)
  · replace h := Md.cond_t h c2
    refine aw_seq ?_
    refine aw_region ?_
    refine aops_step1 rfl (st_assign rfl rfl) ?_
    refine aops_nil ?_
    cases Option.some.inj h
    refine aw_ret ⟨rfl, ret_v (.inl ⟨_, rfl, rfl, fun _ e => nomatch e⟩) rfl rfl rfl ?_⟩
    (repeat' (first | exact TLe.refl _ | exact VLe.refl _ | exact CLe.refl _ | exact All2.nil | refine TLe.tup ?_ | refine TLe.v ?_ | refine All2.cons ?_ ?_ | refine VLe.agg ?_ | refine VLe.one ?_ | exact CLe.nil _ | exact CLe.emp _ | refine CLe.val ?_ | refine CLe.slc ?_ ?_))
  replace h := Md.cond_f h c2
  refine aw_skip ?_
  refine aw_seq ?_
  refine aw_seq ?_
  refine aw_region ?_
  refine aops_step1 rfl (st_move rfl rfl) ?_
  refine aops_step1 rfl (ev_len_slc rfl rfl) ?_
  refine aops_step1 rfl (ev_cmp rfl rfl rfl rfl) ?_
  refine aops_nil ?_
  refine aw_cond rfl (fun c3 => ?_) (fun c3 => ?_)
  · replace h := Md.cond_t h c3
    refine aw_seq ?_
    refine aw_region ?_
    refine aops_step1 rfl (st_assign rfl rfl) ?_
    refine aops_nil ?_
    cases Option.some.inj h
    refine aw_ret ⟨rfl, ret_v (.inl ⟨_, rfl, rfl, fun _ e => nomatch e⟩) rfl rfl rfl ?_⟩
    (repeat' (first | exact TLe.refl _ | exact VLe.refl _ | exact CLe.refl _ | exact All2.nil | refine TLe.tup ?_ | refine TLe.v ?_ | refine All2.cons ?_ ?_ | refine VLe.agg ?_ | refine VLe.one ?_ | exact CLe.nil _ | exact CLe.emp _ | refine CLe.val ?_ | refine CLe.slc ?_ ?_))
  replace h := Md.cond_f h c3
  refine aw_skip ?_
  obtain ⟨x4, hx4, h⟩ := Md.bind_s h
  refine aw_seq ?_
  refine aw_region ?_
  refine aops_step1 rfl (ev_call_v (disk_New_fn k 1048576 x4 hx4) rfl [] (by repeat' (first | exact All2.nil | refine All2.cons ?_ ?_ | refine ArgV.one ?_ | refine ArgV.agg ?_ | exact ArgC.mk rfl | exact ArgC.lend rfl (by simp) | exact ArgC.le (CLe.nil _) rfl | exact ArgC.le (CLe.emp _) rfl | exact ArgC.le (CLe.any _) rfl)) rfl rfl rfl (.inl rfl) rfl) ?_
  refine aops_step1 rfl (st_movet rfl rfl) ?_
  refine aops_step1 rfl (ev_extract rfl rfl rfl) ?_
  refine aops_step1 rfl (ev_extract rfl rfl rfl) ?_
  refine aops_step1 rfl (st_alloc (cs := [.val (.slice none 0 0), .val (.int .i64 0), .val (.bool false), .val (.int .i64 0), .val (.int .i64 0), .val (.bool false)]) 0 rfl rfl rfl rfl rfl) ?_
  refine aops_step1 rfl (st_store (cs' := [_, _, _, _, _, _]) rfl rfl rfl rfl rfl rfl rfl rfl rfl) ?_
  refine aops_step1 rfl (st_assign rfl rfl) ?_
  refine aops_nil ?_
  refine aw_seq ?_
  refine aw_seq ?_
  refine aw_region ?_
  refine aops_step1 rfl (st_move rfl rfl) ?_
  refine aops_step1 rfl (ev_cmp rfl rfl rfl rfl) ?_
  refine aops_nil ?_
  refine aw_cond rfl (fun c5 => ?_) (fun c5 => ?_)
  · replace h := Md.cond_t h c5
    refine aw_seq ?_
    refine aw_region ?_
    refine aops_step1 rfl (st_assign rfl rfl) ?_
    refine aops_nil ?_
    cases Option.some.inj h
    refine aw_ret ⟨rfl, ret_v (.inl ⟨_, rfl, rfl, fun _ e => nomatch e⟩) rfl rfl rfl ?_⟩
    (repeat' (first | exact TLe.refl _ | exact VLe.refl _ | exact CLe.refl _ | exact All2.nil | refine TLe.tup ?_ | refine TLe.v ?_ | refine All2.cons ?_ ?_ | refine VLe.agg ?_ | refine VLe.one ?_ | exact CLe.nil _ | exact CLe.emp _ | refine CLe.val ?_ | refine CLe.slc ?_ ?_))
  replace h := Md.cond_f h c5
  refine aw_skip ?_
  obtain ⟨x6, hx6, h⟩ := Md.bind_s h
  refine aw_seq ?_
  refine aw_region ?_
  refine aops_step1 rfl (ev_loads (ds := [_, _, _, _, _, _]) rfl rfl rfl rfl rfl) ?_
  refine aops_step1 rfl (st_move rfl rfl) ?_
  refine aops_step1 rfl (st_conv_int rfl rfl Try.underlying5 Try.underlying3 (Md.conv_u8_i64 a1)) ?_
  refine aops_step1 rfl (st_move rfl rfl) ?_
  refine aops_step1 rfl (st_conv_int rfl rfl Try.underlying5 Try.underlying3 (Md.conv_u8_i64 a2)) ?_
  refine aops_step1 rfl (ev_call_v (disk_Arm_fn k x4.1 ((a1.toNat : Nat) : Int) ((a2.toNat : Nat) : Int) x6 hx6) rfl [] (by repeat' (first | exact All2.nil | refine All2.cons ?_ ?_ | refine ArgV.one ?_ | refine ArgV.agg ?_ | exact ArgC.mk rfl | exact ArgC.lend rfl (by simp) | exact ArgC.le (CLe.nil _) rfl | exact ArgC.le (CLe.emp _) rfl | exact ArgC.le (CLe.any _) rfl)) rfl rfl rfl (.inl rfl) rfl) ?_
  refine aops_step1 rfl (st_movet rfl rfl) ?_
  refine aops_step1 rfl (ev_extract rfl rfl rfl) ?_
  refine aops_step1 rfl (ev_extract rfl rfl rfl) ?_
  refine aops_step1 rfl (st_store (cs' := [_, _, _, _, _, _]) rfl rfl rfl rfl rfl rfl rfl rfl rfl) ?_
  refine aops_step1 rfl (st_assign rfl rfl) ?_
  refine aops_nil ?_
  refine aw_seq ?_
  refine aw_seq ?_
  refine aw_region ?_
  refine aops_step1 rfl (st_move rfl rfl) ?_
  refine aops_step1 rfl (ev_cmp rfl rfl rfl rfl) ?_
  refine aops_nil ?_
  refine aw_cond rfl (fun c7 => ?_) (fun c7 => ?_)
  · replace h := Md.cond_t h c7
    refine aw_seq ?_
    refine aw_region ?_
    refine aops_step1 rfl (st_assign rfl rfl) ?_
    refine aops_nil ?_
    cases Option.some.inj h
    refine aw_ret ⟨rfl, ret_v (.inl ⟨_, rfl, rfl, fun _ e => nomatch e⟩) rfl rfl rfl ?_⟩
    (repeat' (first | exact TLe.refl _ | exact VLe.refl _ | exact CLe.refl _ | exact All2.nil | refine TLe.tup ?_ | refine TLe.v ?_ | refine All2.cons ?_ ?_ | refine VLe.agg ?_ | refine VLe.one ?_ | exact CLe.nil _ | exact CLe.emp _ | refine CLe.val ?_ | refine CLe.slc ?_ ?_))
  replace h := Md.cond_f h c7
  refine aw_skip ?_
  refine aw_seq ?_
  refine aw_region ?_
  refine aops_step1 rfl (st_assign rfl rfl) ?_
  refine aops_step1 rfl (st_assign rfl rfl) ?_
  refine aops_nil ?_
  refine aw_seq ?_
  refine aw_seq ?_
  refine aw_region ?_
  refine aops_step1 rfl (st_assign rfl rfl) ?_
  refine aops_nil ?_
  refine aw_block ?_
  refine aw_own_nil 9 1 5 1 (lsEl byC []) rfl rfl ?_
  obtain ⟨o8, ho8, h⟩ := Md.bind_s h
  refine aw_loop_x (ι := {p : Nat × Nat × Disk × (List UInt8) // actorgridlaw26_DiskTorn_loop1 k a0 p.1 p.2.1 p.2.2.1 p.2.2.2 = some o8}) (fun p => (⟨132, [], [(0, .one (CV.ls c_LU8 a0)), (2, .one (.val (.int .u8 (a2.toNat : Int)))), (7, .one (.ptr 0 0)), (9, .one (.own 1)), (10, .one (.val (.slice none 0 0))), (11, .one (.val (.int .i64 ((p.1.2.1 : Nat) : Int))))], [(0, some (.box [CV.ls byC p.1.2.2.1.Data, .val (.int .i64 p.1.2.2.1.Capacity), .val (.bool p.1.2.2.1.Armed), .val (.int .i64 p.1.2.2.1.Writes), .val (.int .i64 p.1.2.2.1.Keep), .val (.bool p.1.2.2.1.Down)])), (1, some (.row 5 1 p.1.2.2.2.length (lsEl byC p.1.2.2.2)))]⟩ : ASt)) (fun p => p.1.1) ⟨(k, 0, x6.1, ([] : List UInt8)), ho8⟩ (by (refine weak_mk rfl rfl ?_ ?_ rfl <;> repeat' (first | exact trivial | refine ⟨?_, ?_⟩ | exact VLe.refl _ | exact BLe.refl _ | refine VLe.one (CLe.val ?_) | exact VLe.one (CLe.nil _) | exact VLe.one (CLe.emp _)))) 0 (ε := ((List UInt8) × Disk × (List UInt8))) (fun x => (⟨132, [], [(2, .one (.val (.int .u8 (a2.toNat : Int)))), (7, .one (.ptr 0 0)), (9, .one (.own 1)), (10, .one (CV.ls byC x.1))], [(0, some (.box [CV.ls byC x.2.1.Data, .val (.int .i64 x.2.1.Capacity), .val (.bool x.2.1.Armed), .val (.int .i64 x.2.1.Writes), .val (.int .i64 x.2.1.Keep), .val (.bool x.2.1.Down)])), (1, some (.row 5 1 x.2.2.length (lsEl byC x.2.2)))]⟩ : ASt)) (fun x => o8 = Sum.inl x) (fun _ _ w h => aw_weak w h) ?_ ?_
  · intro x8_0 hI8
    subst hI8
    replace h := Md.onS_l h
    change AW _ _ (⟨132, [], [(2, .one (.val (.int .u8 (a2.toNat : Int)))), (7, .one (.ptr 0 0)), (9, .one (.own 1)), (10, .one (CV.ls byC x8_0.1))], [(0, some (.box [CV.ls byC x8_0.2.1.Data, .val (.int .i64 x8_0.2.1.Capacity), .val (.bool x8_0.2.1.Armed), .val (.int .i64 x8_0.2.1.Writes), .val (.int .i64 x8_0.2.1.Keep), .val (.bool x8_0.2.1.Down)])), (1, some (.row 5 1 x8_0.2.2.length (lsEl byC x8_0.2.2)))]⟩ : ASt) _
    obtain ⟨x9, hx9, h⟩ := Md.bind_s h
    refine aw_seq ?_
    refine aw_region ?_
    refine aops_step1 rfl (ev_loads (ds := [_, _, _, _, _, _]) rfl rfl rfl rfl rfl) ?_
    refine aops_step1 rfl (ev_call_v (disk_Restart_fn k x8_0.2.1 x9 hx9) rfl [] (by repeat' (first | exact All2.nil | refine All2.cons ?_ ?_ | refine ArgV.one ?_ | refine ArgV.agg ?_ | exact ArgC.mk rfl | exact ArgC.lend rfl (by simp) | exact ArgC.le (CLe.nil _) rfl | exact ArgC.le (CLe.emp _) rfl | exact ArgC.le (CLe.any _) rfl)) rfl rfl rfl (.inl rfl) rfl) ?_
    refine aops_step1 rfl (st_movet rfl rfl) ?_
    refine aops_step1 rfl (ev_extract rfl rfl rfl) ?_
    refine aops_step1 rfl (ev_extract rfl rfl rfl) ?_
    refine aops_step1 rfl (st_store (cs' := [_, _, _, _, _, _]) rfl rfl rfl rfl rfl rfl rfl rfl rfl) ?_
    refine aops_step1 rfl (st_assign rfl rfl) ?_
    refine aops_nil ?_
    refine aw_seq ?_
    refine aw_seq ?_
    refine aw_region ?_
    refine aops_step1 rfl (st_move rfl rfl) ?_
    refine aops_step1 rfl (ev_cmp rfl rfl rfl rfl) ?_
    refine aops_nil ?_
    refine aw_cond rfl (fun c10 => ?_) (fun c10 => ?_)
    · replace h := Md.cond_t h c10
      refine aw_seq ?_
      refine aw_region ?_
      refine aops_step1 rfl (st_assign rfl rfl) ?_
      refine aops_nil ?_
      cases Option.some.inj h
      refine aw_ret ⟨rfl, ret_v (.inl ⟨_, rfl, rfl, fun _ e => nomatch e⟩) rfl rfl rfl ?_⟩
      (repeat' (first | exact TLe.refl _ | exact VLe.refl _ | exact CLe.refl _ | exact All2.nil | refine TLe.tup ?_ | refine TLe.v ?_ | refine All2.cons ?_ ?_ | refine VLe.agg ?_ | refine VLe.one ?_ | exact CLe.nil _ | exact CLe.emp _ | refine CLe.val ?_ | refine CLe.slc ?_ ?_))
    replace h := Md.cond_f h c10
    refine aw_skip ?_
    obtain ⟨x11, hx11, h⟩ := Md.bind_s h
    refine aw_seq ?_
    refine aw_region ?_
    refine aops_step1 rfl (ev_loads (ds := [_, _, _, _, _, _]) rfl rfl rfl rfl rfl) ?_
    refine aops_step1 rfl (ev_call_v (disk_Read_fn k x9.1 x11 hx11) rfl [] (by repeat' (first | exact All2.nil | refine All2.cons ?_ ?_ | refine ArgV.one ?_ | refine ArgV.agg ?_ | exact ArgC.mk rfl | exact ArgC.lend rfl (by simp) | exact ArgC.le (CLe.nil _) rfl | exact ArgC.le (CLe.emp _) rfl | exact ArgC.le (CLe.any _) rfl)) rfl rfl rfl (.inl rfl) rfl) ?_
    refine aops_step1 rfl (st_movet rfl rfl) ?_
    refine aops_step1 rfl (ev_extract rfl rfl rfl) ?_
    refine aops_step1 rfl (ev_extract rfl rfl rfl) ?_
    refine aops_step1 rfl (st_assign rfl rfl) ?_
    refine aops_step1 rfl (st_assign rfl rfl) ?_
    refine aops_nil ?_
    refine aw_seq ?_
    refine aw_region ?_
    refine aops_step1 rfl (st_move rfl rfl) ?_
    refine aops_step1 rfl (ev_len_slc rfl rfl) ?_
    refine aops_step1 rfl (st_move rfl rfl) ?_
    refine aops_step1 rfl (ev_len_own rfl rfl rfl) ?_
    refine aops_step1 rfl (ev_sub rfl rfl rfl (Md.wrap_W _)) ?_
    refine aops_step1 rfl (st_assign rfl rfl) ?_
    refine aops_nil ?_
    rcases Md.bool_or ((x11.2 == 0)) with q12 | q12
    · replace h := Md.cond_t h q12
      rcases Md.bool_or ((decide ((Md.W (((x11.1.length : Nat) : Int) - ((x8_0.2.2.length : Nat) : Int))) ≥ 0))) with q13 | q13
      · replace h := Md.cond_t h q13
        rcases Md.bool_or ((decide ((Md.W (((x11.1.length : Nat) : Int) - ((x8_0.2.2.length : Nat) : Int))) ≤ ((x8_0.1.length : Nat) : Int)))) with q14 | q14
        · replace h := Md.cond_t h q14
          rcases Md.bool_or ((decide ((Md.W (((x11.1.length : Nat) : Int) - ((x8_0.2.2.length : Nat) : Int))) ≤ (((max a2.toNat 0) : Nat) : Int)))) with q15 | q15
          · replace h := Md.cond_t h q15
            obtain ⟨g16, h⟩ := Md.ifp_s h
            rcases Md.bool_or ((decide ((x11.1.take x8_0.2.2.length) = x8_0.2.2))) with q17 | q17
            · replace h := Md.cond_t h q17
              obtain ⟨g18, h⟩ := Md.ifp_s h
              obtain ⟨g19, h⟩ := Md.ifp_s h
              obtain ⟨g20, h⟩ := Md.ifp_s h
              refine aw_seq ?_
              apply aw_draw 39 ((⟨[], .one (.val (.int .i64 x11.2))⟩ : Add) :: ⟨[], .one (.val (.bool (x11.2 == 0)))⟩ :: ⟨[], .one (.val (.bool (x11.2 == 0)))⟩ :: ⟨[], .one (.val (.int .i64 (Md.W (((x11.1.length : Nat) : Int) - ((x8_0.2.2.length : Nat) : Int)))))⟩ :: ⟨[], .one (.val (.bool (decide ((Md.W (((x11.1.length : Nat) : Int) - ((x8_0.2.2.length : Nat) : Int))) ≥ 0))))⟩ :: ⟨[], .one (.val (.bool (decide ((Md.W (((x11.1.length : Nat) : Int) - ((x8_0.2.2.length : Nat) : Int))) ≥ 0))))⟩ :: ⟨[], .one (.val (.bool (decide ((Md.W (((x11.1.length : Nat) : Int) - ((x8_0.2.2.length : Nat) : Int))) ≥ 0))))⟩ :: ⟨[], .one (.val (.int .i64 (Md.W (((x11.1.length : Nat) : Int) - ((x8_0.2.2.length : Nat) : Int)))))⟩ :: ⟨[], .one (CV.ls byC x8_0.1)⟩ :: ⟨[], .one (.val (.int .i64 ((x8_0.1.length : Nat) : Int)))⟩ :: ⟨[], .one (.val (.bool (decide ((Md.W (((x11.1.length : Nat) : Int) - ((x8_0.2.2.length : Nat) : Int))) ≤ ((x8_0.1.length : Nat) : Int)))))⟩ :: ⟨[], .one (.val (.bool (decide ((Md.W (((x11.1.length : Nat) : Int) - ((x8_0.2.2.length : Nat) : Int))) ≤ ((x8_0.1.length : Nat) : Int)))))⟩ :: ⟨[], .one (.val (.bool (decide ((Md.W (((x11.1.length : Nat) : Int) - ((x8_0.2.2.length : Nat) : Int))) ≤ ((x8_0.1.length : Nat) : Int)))))⟩ :: ⟨[], .one (.val (.int .i64 (Md.W (((x11.1.length : Nat) : Int) - ((x8_0.2.2.length : Nat) : Int)))))⟩ :: ⟨[], .one (.val (.int .u8 (a2.toNat : Int)))⟩ :: ⟨[], .one (.val (.int .i64 ((a2.toNat : Nat) : Int)))⟩ :: ⟨[], .one (.val (.int .i64 (((max a2.toNat 0) : Nat) : Int)))⟩ :: ⟨[], .one (.val (.bool (decide ((Md.W (((x11.1.length : Nat) : Int) - ((x8_0.2.2.length : Nat) : Int))) ≤ (((max a2.toNat 0) : Nat) : Int)))))⟩ :: ⟨[], .one (.val (.bool (decide ((Md.W (((x11.1.length : Nat) : Int) - ((x8_0.2.2.length : Nat) : Int))) ≤ (((max a2.toNat 0) : Nat) : Int)))))⟩ :: ⟨[], .one (.val (.bool (decide ((Md.W (((x11.1.length : Nat) : Int) - ((x8_0.2.2.length : Nat) : Int))) ≤ (((max a2.toNat 0) : Nat) : Int)))))⟩ :: ⟨[], .one (CV.ls byC x11.1)⟩ :: ⟨[], .one (.own 1)⟩ :: ⟨[], .one (.val (.int .i64 ((x8_0.2.2.length : Nat) : Int)))⟩ :: ⟨[], .one (CV.ls byC (x11.1.take x8_0.2.2.length))⟩ :: ⟨[], .one (.val (Sv (x11.1.take x8_0.2.2.length)))⟩ :: ⟨[], .one (.own 1)⟩ :: ⟨[], .one (.val (Sv x8_0.2.2))⟩ :: ⟨[], .one (.val (.bool (decide ((x11.1.take x8_0.2.2.length) = x8_0.2.2))))⟩ :: ⟨[], .one (.val (.bool (decide ((x11.1.take x8_0.2.2.length) = x8_0.2.2))))⟩ :: ⟨[], .one (.val (.bool (decide ((x11.1.take x8_0.2.2.length) = x8_0.2.2))))⟩ :: ⟨[], .one (CV.ls byC x11.1)⟩ :: ⟨[], .one (.own 1)⟩ :: ⟨[], .one (.val (.int .i64 ((x8_0.2.2.length : Nat) : Int)))⟩ :: ⟨[], .one (CV.ls byC (x11.1.drop x8_0.2.2.length))⟩ :: ⟨[], .one (.val (Sv (x11.1.drop x8_0.2.2.length)))⟩ :: ⟨[], .one (CV.ls byC x8_0.1)⟩ :: ⟨[], .one (.val (.int .i64 (Md.W (((x11.1.length : Nat) : Int) - ((x8_0.2.2.length : Nat) : Int)))))⟩ :: ⟨[], .one (CV.ls byC (x8_0.1.take (((Md.W (((x11.1.length : Nat) : Int) - ((x8_0.2.2.length : Nat) : Int)))).toNat)))⟩ :: ⟨[], .one (.val (Sv (x8_0.1.take (((Md.W (((x11.1.length : Nat) : Int) - ((x8_0.2.2.length : Nat) : Int)))).toNat))))⟩ :: []) (by decide) rfl ?hk4x ?hf4x ?ho4x ?hr4x
              case ho4x =>
               refine ⟨⟨[], (by decide +kernel), fun S hle hfr => ?_⟩, ?_⟩
               · exact .inl ⟨.inl ⟨rfl, rfl⟩, st_move (hle.ev rfl (by nofun)) (hle.d rfl)⟩
               refine ⟨⟨0 :: [], (by decide +kernel), fun S hle hfr => ?_⟩, ?_⟩
               · exact .inl ⟨.inl ⟨rfl, rfl⟩, ev_cmp (hle.ev rfl (by nofun)) (hle.ev rfl (by nofun)) (hle.d rfl) rfl⟩
               refine ⟨⟨1 :: 0 :: [], (by decide +kernel), fun S hle hfr => ?_⟩, ?_⟩
               · exact .inl ⟨.inl ⟨rfl, rfl⟩, st_move (hle.ev rfl (by nofun)) (hle.d rfl)⟩
               refine ⟨⟨2 :: 1 :: 0 :: [], (by decide +kernel), fun S hle hfr => ?_⟩, ?_⟩
               · exact .inl ⟨.inr (.inl ⟨_, _, _, _, rfl, rfl, (hle.ev (x := .tmp _) rfl (by nofun)), (by rw [hle.nt]; rfl), (by first | rfl | (rw [q12]; rfl))⟩), st_move (hle.ev rfl (by nofun)) (hle.d rfl)⟩
               refine ⟨⟨3 :: 2 :: 1 :: 0 :: [], (by decide +kernel), fun S hle hfr => ?_⟩, ?_⟩
               · exact .inl ⟨.inr (.inl ⟨_, _, _, _, rfl, rfl, (hle.ev (x := .tmp _) rfl (by nofun)), (by rw [hle.nt]; rfl), (by first | rfl | (rw [q12]; rfl))⟩), ev_cmp (hle.ev rfl (by nofun)) (hle.ev rfl (by nofun)) (hle.d rfl) rfl⟩
               refine ⟨⟨2 :: 4 :: 1 :: 3 :: 0 :: [], (by decide +kernel), fun S hle hfr => ?_⟩, ?_⟩
               · exact .inl ⟨.inl ⟨rfl, rfl⟩, st_pick_yes (hle.ev rfl (by nofun)) (by first | rfl | exact q12) (hle.ev rfl (by nofun)) (hle.d rfl)⟩
               refine ⟨⟨5 :: 2 :: 4 :: 1 :: 3 :: 0 :: [], (by decide +kernel), fun S hle hfr => ?_⟩, ?_⟩
               · exact .inl ⟨.inl ⟨rfl, rfl⟩, st_move (hle.ev rfl (by nofun)) (hle.d rfl)⟩
               refine ⟨⟨6 :: 5 :: 2 :: 4 :: 1 :: 3 :: 0 :: [], (by decide +kernel), fun S hle hfr => ?_⟩, ?_⟩
               · exact .inl ⟨.inr (.inl ⟨_, _, _, _, rfl, rfl, (hle.ev (x := .tmp _) rfl (by nofun)), (by rw [hle.nt]; rfl), (by first | rfl | (rw [q13]; rfl))⟩), st_move (hle.ev rfl (by nofun)) (hle.d rfl)⟩
               refine ⟨⟨6 :: 5 :: 2 :: 4 :: 1 :: 3 :: 0 :: [], (by decide +kernel), fun S hle hfr => ?_⟩, ?_⟩
               · exact .inl ⟨.inr (.inl ⟨_, _, _, _, rfl, rfl, (hle.ev (x := .tmp _) rfl (by nofun)), (by rw [hle.nt]; rfl), (by first | rfl | (rw [q13]; rfl))⟩), st_move (hle.ev rfl (by nofun)) (hle.d rfl)⟩
               refine ⟨⟨8 :: 6 :: 5 :: 2 :: 4 :: 1 :: 3 :: 0 :: [], (by decide +kernel), fun S hle hfr => ?_⟩, ?_⟩
               · exact .inl ⟨.inr (.inl ⟨_, _, _, _, rfl, rfl, (hle.ev (x := .tmp _) rfl (by nofun)), (by rw [hle.nt]; rfl), (by first | rfl | (rw [q13]; rfl))⟩), ev_len_slc (hle.ev rfl (by nofun)) (hle.d rfl)⟩
               refine ⟨⟨7 :: 9 :: 6 :: 8 :: 5 :: 2 :: 4 :: 1 :: 3 :: 0 :: [], (by decide +kernel), fun S hle hfr => ?_⟩, ?_⟩
               · exact .inl ⟨.inr (.inl ⟨_, _, _, _, rfl, rfl, (hle.ev (x := .tmp _) rfl (by nofun)), (by rw [hle.nt]; rfl), (by first | rfl | (rw [q13]; rfl))⟩), ev_cmp (hle.ev rfl (by nofun)) (hle.ev rfl (by nofun)) (hle.d rfl) rfl⟩
               refine ⟨⟨6 :: 10 :: 5 :: 2 :: 7 :: 9 :: 4 :: 1 :: 8 :: 3 :: 0 :: [], (by decide +kernel), fun S hle hfr => ?_⟩, ?_⟩
               · exact .inl ⟨.inl ⟨rfl, rfl⟩, st_pick_yes (hle.ev rfl (by nofun)) (by first | rfl | exact q13) (hle.ev rfl (by nofun)) (hle.d rfl)⟩
               refine ⟨⟨11 :: 6 :: 10 :: 5 :: 2 :: 7 :: 9 :: 4 :: 1 :: 8 :: 3 :: 0 :: [], (by decide +kernel), fun S hle hfr => ?_⟩, ?_⟩
               · exact .inl ⟨.inl ⟨rfl, rfl⟩, st_move (hle.ev rfl (by nofun)) (hle.d rfl)⟩
               refine ⟨⟨12 :: 11 :: 6 :: 10 :: 5 :: 2 :: 7 :: 9 :: 4 :: 1 :: 8 :: 3 :: 0 :: [], (by decide +kernel), fun S hle hfr => ?_⟩, ?_⟩
               · exact .inl ⟨.inr (.inl ⟨_, _, _, _, rfl, rfl, (hle.ev (x := .tmp _) rfl (by nofun)), (by rw [hle.nt]; rfl), (by first | rfl | (rw [q14]; rfl))⟩), st_move (hle.ev rfl (by nofun)) (hle.d rfl)⟩
               refine ⟨⟨12 :: 11 :: 6 :: 10 :: 5 :: 2 :: 7 :: 9 :: 4 :: 1 :: 8 :: 3 :: 0 :: [], (by decide +kernel), fun S hle hfr => ?_⟩, ?_⟩
               · exact .inl ⟨.inr (.inl ⟨_, _, _, _, rfl, rfl, (hle.ev (x := .tmp _) rfl (by nofun)), (by rw [hle.nt]; rfl), (by first | rfl | (rw [q14]; rfl))⟩), st_move (hle.ev rfl (by nofun)) (hle.d rfl)⟩
               refine ⟨⟨14 :: 12 :: 11 :: 6 :: 10 :: 5 :: 2 :: 7 :: 9 :: 4 :: 1 :: 8 :: 3 :: 0 :: [], (by decide +kernel), fun S hle hfr => ?_⟩, ?_⟩
               · exact .inl ⟨.inr (.inl ⟨_, _, _, _, rfl, rfl, (hle.ev (x := .tmp _) rfl (by nofun)), (by rw [hle.nt]; rfl), (by first | rfl | (rw [q14]; rfl))⟩), st_conv_int (hle.ev rfl (by nofun)) (hle.d rfl) Try.underlying5 Try.underlying3 (Md.conv_u8_i64 a2)⟩
               refine ⟨⟨15 :: 12 :: 14 :: 11 :: 6 :: 10 :: 5 :: 2 :: 7 :: 9 :: 4 :: 1 :: 8 :: 3 :: 0 :: [], (by decide +kernel), fun S hle hfr => ?_⟩, ?_⟩
               · exact .inl ⟨.inr (.inl ⟨_, _, _, _, rfl, rfl, (hle.ev (x := .tmp _) rfl (by nofun)), (by rw [hle.nt]; rfl), (by first | rfl | (rw [q14]; rfl))⟩), ev_max (hle.ev rfl (by nofun)) (hle.ev rfl (by nofun)) (hle.d rfl) (Md.nat_max _ _)⟩
               refine ⟨⟨13 :: 16 :: 12 :: 15 :: 11 :: 6 :: 14 :: 10 :: 5 :: 2 :: 7 :: 9 :: 4 :: 1 :: 8 :: 3 :: 0 :: [], (by decide +kernel), fun S hle hfr => ?_⟩, ?_⟩
               · exact .inl ⟨.inr (.inl ⟨_, _, _, _, rfl, rfl, (hle.ev (x := .tmp _) rfl (by nofun)), (by rw [hle.nt]; rfl), (by first | rfl | (rw [q14]; rfl))⟩), ev_cmp (hle.ev rfl (by nofun)) (hle.ev rfl (by nofun)) (hle.d rfl) rfl⟩
               refine ⟨⟨12 :: 17 :: 11 :: 6 :: 13 :: 16 :: 10 :: 5 :: 2 :: 15 :: 7 :: 9 :: 4 :: 1 :: 14 :: 8 :: 3 :: 0 :: [], (by decide +kernel), fun S hle hfr => ?_⟩, ?_⟩
               · exact .inl ⟨.inl ⟨rfl, rfl⟩, st_pick_yes (hle.ev rfl (by nofun)) (by first | rfl | exact q14) (hle.ev rfl (by nofun)) (hle.d rfl)⟩
               refine ⟨⟨18 :: 12 :: 17 :: 11 :: 6 :: 13 :: 16 :: 10 :: 5 :: 2 :: 15 :: 7 :: 9 :: 4 :: 1 :: 14 :: 8 :: 3 :: 0 :: [], (by decide +kernel), fun S hle hfr => ?_⟩, ?_⟩
               · exact .inl ⟨.inl ⟨rfl, rfl⟩, st_move (hle.ev rfl (by nofun)) (hle.d rfl)⟩
               refine ⟨⟨19 :: 18 :: 12 :: 17 :: 11 :: 6 :: 13 :: 16 :: 10 :: 5 :: 2 :: 15 :: 7 :: 9 :: 4 :: 1 :: 14 :: 8 :: 3 :: 0 :: [], (by decide +kernel), fun S hle hfr => ?_⟩, ?_⟩
               · exact .inl ⟨.inr (.inl ⟨_, _, _, _, rfl, rfl, (hle.ev (x := .tmp _) rfl (by nofun)), (by rw [hle.nt]; rfl), (by first | rfl | (rw [q15]; rfl))⟩), st_move (hle.ev rfl (by nofun)) (hle.d rfl)⟩
               refine ⟨⟨19 :: 18 :: 12 :: 17 :: 11 :: 6 :: 13 :: 16 :: 10 :: 5 :: 2 :: 15 :: 7 :: 9 :: 4 :: 1 :: 14 :: 8 :: 3 :: 0 :: [], (by decide +kernel), fun S hle hfr => ?_⟩, ?_⟩
               · exact .inl ⟨.inr (.inl ⟨_, _, _, _, rfl, rfl, (hle.ev (x := .tmp _) rfl (by nofun)), (by rw [hle.nt]; rfl), (by first | rfl | (rw [q15]; rfl))⟩), st_move (hle.ev rfl (by nofun)) (hle.d rfl)⟩
               refine ⟨⟨21 :: 19 :: 18 :: 12 :: 17 :: 11 :: 6 :: 13 :: 16 :: 10 :: 5 :: 2 :: 15 :: 7 :: 9 :: 4 :: 1 :: 14 :: 8 :: 3 :: 0 :: [], (by decide +kernel), fun S hle hfr => ?_⟩, ?_⟩
               · exact .inl ⟨.inr (.inl ⟨_, _, _, _, rfl, rfl, (hle.ev (x := .tmp _) rfl (by nofun)), (by rw [hle.nt]; rfl), (by first | rfl | (rw [q15]; rfl))⟩), ev_len_own (hle.ev rfl (by nofun)) (hle.heap _ _ rfl) (hle.d rfl)⟩
               refine ⟨⟨20 :: 22 :: 19 :: 21 :: 18 :: 12 :: 17 :: 11 :: 6 :: 13 :: 16 :: 10 :: 5 :: 2 :: 15 :: 7 :: 9 :: 4 :: 1 :: 14 :: 8 :: 3 :: 0 :: [], (by decide +kernel), fun S hle hfr => ?_⟩, ?_⟩
               · exact .inl ⟨.inr (.inl ⟨_, _, _, _, rfl, rfl, (hle.ev (x := .tmp _) rfl (by nofun)), (by rw [hle.nt]; rfl), (by first | rfl | (rw [q15]; rfl))⟩), st_cut_hi (f := byC) (fun _ => rfl) (hle.ev rfl (by nofun)) ⟨_, _, (hle.ev rfl (by nofun)), rfl⟩ g16 (hle.d rfl)⟩
               refine ⟨⟨23 :: 19 :: 20 :: 22 :: 18 :: 12 :: 21 :: 17 :: 11 :: 6 :: 13 :: 16 :: 10 :: 5 :: 2 :: 15 :: 7 :: 9 :: 4 :: 1 :: 14 :: 8 :: 3 :: 0 :: [], (by decide +kernel), fun S hle hfr => ?_⟩, ?_⟩
               · exact .inl ⟨.inr (.inl ⟨_, _, _, _, rfl, rfl, (hle.ev (x := .tmp _) rfl (by nofun)), (by rw [hle.nt]; rfl), (by first | rfl | (rw [q15]; rfl))⟩), ev_str_bytes (.inl (hle.ev rfl (by nofun))) Try.underlying24 Try.underlying5 Try.underlying9 (hle.d rfl)⟩
               refine ⟨⟨19 :: 18 :: 12 :: 17 :: 11 :: 6 :: 13 :: 16 :: 10 :: 5 :: 2 :: 15 :: 7 :: 9 :: 4 :: 1 :: 14 :: 8 :: 3 :: 0 :: [], (by decide +kernel), fun S hle hfr => ?_⟩, ?_⟩
               · exact .inl ⟨.inr (.inl ⟨_, _, _, _, rfl, rfl, (hle.ev (x := .tmp _) rfl (by nofun)), (by rw [hle.nt]; rfl), (by first | rfl | (rw [q15]; rfl))⟩), st_move (hle.ev rfl (by nofun)) (hle.d rfl)⟩
               refine ⟨⟨25 :: 19 :: 18 :: 12 :: 17 :: 11 :: 6 :: 13 :: 16 :: 10 :: 5 :: 2 :: 15 :: 7 :: 9 :: 4 :: 1 :: 14 :: 8 :: 3 :: 0 :: [], (by decide +kernel), fun S hle hfr => ?_⟩, ?_⟩
               · exact .inl ⟨.inr (.inl ⟨_, _, _, _, rfl, rfl, (hle.ev (x := .tmp _) rfl (by nofun)), (by rw [hle.nt]; rfl), (by first | rfl | (rw [q15]; rfl))⟩), ev_str_bytes (.inr ⟨_, _, (hle.ev rfl (by nofun)), (hle.heap _ _ rfl)⟩) Try.underlying24 Try.underlying5 Try.underlying9 (hle.d rfl)⟩
               refine ⟨⟨24 :: 26 :: 19 :: 23 :: 25 :: 18 :: 12 :: 20 :: 22 :: 17 :: 11 :: 6 :: 21 :: 13 :: 16 :: 10 :: 5 :: 2 :: 15 :: 7 :: 9 :: 4 :: 1 :: 14 :: 8 :: 3 :: 0 :: [], (by decide +kernel), fun S hle hfr => ?_⟩, ?_⟩
               · exact .inl ⟨.inr (.inl ⟨_, _, _, _, rfl, rfl, (hle.ev (x := .tmp _) rfl (by nofun)), (by rw [hle.nt]; rfl), (by first | rfl | (rw [q15]; rfl))⟩), st_str_eq (hle.ev rfl (by nofun)) (hle.ev rfl (by nofun)) (hle.d rfl)⟩
               refine ⟨⟨19 :: 27 :: 18 :: 12 :: 24 :: 26 :: 17 :: 11 :: 6 :: 23 :: 25 :: 13 :: 16 :: 10 :: 5 :: 2 :: 20 :: 22 :: 15 :: 7 :: 9 :: 4 :: 1 :: 21 :: 14 :: 8 :: 3 :: 0 :: [], (by decide +kernel), fun S hle hfr => ?_⟩, ?_⟩
               · exact .inl ⟨.inl ⟨rfl, rfl⟩, st_pick_yes (hle.ev rfl (by nofun)) (by first | rfl | exact q15) (hle.ev rfl (by nofun)) (hle.d rfl)⟩
               refine ⟨⟨28 :: 19 :: 27 :: 18 :: 12 :: 24 :: 26 :: 17 :: 11 :: 6 :: 23 :: 25 :: 13 :: 16 :: 10 :: 5 :: 2 :: 20 :: 22 :: 15 :: 7 :: 9 :: 4 :: 1 :: 21 :: 14 :: 8 :: 3 :: 0 :: [], (by decide +kernel), fun S hle hfr => ?_⟩, ?_⟩
               · exact .inl ⟨.inl ⟨rfl, rfl⟩, st_move (hle.ev rfl (by nofun)) (hle.d rfl)⟩
               refine ⟨⟨29 :: 28 :: 19 :: 27 :: 18 :: 12 :: 24 :: 26 :: 17 :: 11 :: 6 :: 23 :: 25 :: 13 :: 16 :: 10 :: 5 :: 2 :: 20 :: 22 :: 15 :: 7 :: 9 :: 4 :: 1 :: 21 :: 14 :: 8 :: 3 :: 0 :: [], (by decide +kernel), fun S hle hfr => ?_⟩, ?_⟩
               · exact .inl ⟨.inr (.inl ⟨_, _, _, _, rfl, rfl, (hle.ev (x := .tmp _) rfl (by nofun)), (by rw [hle.nt]; rfl), (by first | rfl | (rw [q17]; rfl))⟩), st_move (hle.ev rfl (by nofun)) (hle.d rfl)⟩
               refine ⟨⟨29 :: 28 :: 19 :: 27 :: 18 :: 12 :: 24 :: 26 :: 17 :: 11 :: 6 :: 23 :: 25 :: 13 :: 16 :: 10 :: 5 :: 2 :: 20 :: 22 :: 15 :: 7 :: 9 :: 4 :: 1 :: 21 :: 14 :: 8 :: 3 :: 0 :: [], (by decide +kernel), fun S hle hfr => ?_⟩, ?_⟩
               · exact .inl ⟨.inr (.inl ⟨_, _, _, _, rfl, rfl, (hle.ev (x := .tmp _) rfl (by nofun)), (by rw [hle.nt]; rfl), (by first | rfl | (rw [q17]; rfl))⟩), st_move (hle.ev rfl (by nofun)) (hle.d rfl)⟩
               refine ⟨⟨31 :: 29 :: 28 :: 19 :: 27 :: 18 :: 12 :: 24 :: 26 :: 17 :: 11 :: 6 :: 23 :: 25 :: 13 :: 16 :: 10 :: 5 :: 2 :: 20 :: 22 :: 15 :: 7 :: 9 :: 4 :: 1 :: 21 :: 14 :: 8 :: 3 :: 0 :: [], (by decide +kernel), fun S hle hfr => ?_⟩, ?_⟩
               · exact .inl ⟨.inr (.inl ⟨_, _, _, _, rfl, rfl, (hle.ev (x := .tmp _) rfl (by nofun)), (by rw [hle.nt]; rfl), (by first | rfl | (rw [q17]; rfl))⟩), ev_len_own (hle.ev rfl (by nofun)) (hle.heap _ _ rfl) (hle.d rfl)⟩
               refine ⟨⟨30 :: 32 :: 29 :: 31 :: 28 :: 19 :: 27 :: 18 :: 12 :: 24 :: 26 :: 17 :: 11 :: 6 :: 23 :: 25 :: 13 :: 16 :: 10 :: 5 :: 2 :: 20 :: 22 :: 15 :: 7 :: 9 :: 4 :: 1 :: 21 :: 14 :: 8 :: 3 :: 0 :: [], (by decide +kernel), fun S hle hfr => ?_⟩, ?_⟩
               · exact .inl ⟨.inr (.inl ⟨_, _, _, _, rfl, rfl, (hle.ev (x := .tmp _) rfl (by nofun)), (by rw [hle.nt]; rfl), (by first | rfl | (rw [q17]; rfl))⟩), st_cut_lo (f := byC) (fun _ => rfl) (hle.ev rfl (by nofun)) ⟨_, _, (hle.ev rfl (by nofun)), rfl⟩ g18 (hle.d rfl)⟩
               refine ⟨⟨33 :: 29 :: 30 :: 32 :: 28 :: 19 :: 31 :: 27 :: 18 :: 12 :: 24 :: 26 :: 17 :: 11 :: 6 :: 23 :: 25 :: 13 :: 16 :: 10 :: 5 :: 2 :: 20 :: 22 :: 15 :: 7 :: 9 :: 4 :: 1 :: 21 :: 14 :: 8 :: 3 :: 0 :: [], (by decide +kernel), fun S hle hfr => ?_⟩, ?_⟩
               · exact .inl ⟨.inr (.inl ⟨_, _, _, _, rfl, rfl, (hle.ev (x := .tmp _) rfl (by nofun)), (by rw [hle.nt]; rfl), (by first | rfl | (rw [q17]; rfl))⟩), ev_str_bytes (.inl (hle.ev rfl (by nofun))) Try.underlying24 Try.underlying5 Try.underlying9 (hle.d rfl)⟩
               refine ⟨⟨29 :: 28 :: 19 :: 27 :: 18 :: 12 :: 24 :: 26 :: 17 :: 11 :: 6 :: 23 :: 25 :: 13 :: 16 :: 10 :: 5 :: 2 :: 20 :: 22 :: 15 :: 7 :: 9 :: 4 :: 1 :: 21 :: 14 :: 8 :: 3 :: 0 :: [], (by decide +kernel), fun S hle hfr => ?_⟩, ?_⟩
               · exact .inl ⟨.inr (.inl ⟨_, _, _, _, rfl, rfl, (hle.ev (x := .tmp _) rfl (by nofun)), (by rw [hle.nt]; rfl), (by first | rfl | (rw [q17]; rfl))⟩), st_move (hle.ev rfl (by nofun)) (hle.d rfl)⟩
               refine ⟨⟨29 :: 28 :: 19 :: 27 :: 18 :: 12 :: 24 :: 26 :: 17 :: 11 :: 6 :: 23 :: 25 :: 13 :: 16 :: 10 :: 5 :: 2 :: 20 :: 22 :: 15 :: 7 :: 9 :: 4 :: 1 :: 21 :: 14 :: 8 :: 3 :: 0 :: [], (by decide +kernel), fun S hle hfr => ?_⟩, ?_⟩
               · exact .inl ⟨.inr (.inl ⟨_, _, _, _, rfl, rfl, (hle.ev (x := .tmp _) rfl (by nofun)), (by rw [hle.nt]; rfl), (by first | rfl | (rw [q17]; rfl))⟩), st_move (hle.ev rfl (by nofun)) (hle.d rfl)⟩
               refine ⟨⟨35 :: 36 :: 29 :: 28 :: 19 :: 27 :: 18 :: 12 :: 24 :: 26 :: 17 :: 11 :: 6 :: 23 :: 25 :: 13 :: 16 :: 10 :: 5 :: 2 :: 20 :: 22 :: 15 :: 7 :: 9 :: 4 :: 1 :: 21 :: 14 :: 8 :: 3 :: 0 :: [], (by decide +kernel), fun S hle hfr => ?_⟩, ?_⟩
               · exact .inl ⟨.inr (.inl ⟨_, _, _, _, rfl, rfl, (hle.ev (x := .tmp _) rfl (by nofun)), (by rw [hle.nt]; rfl), (by first | rfl | (rw [q17]; rfl))⟩), st_cut_hi (f := byC) (fun _ => rfl) (hle.ev rfl (by nofun)) ⟨_, _, (hle.ev rfl (by nofun)), (Md.nn_eq g19)⟩ g20 (hle.d rfl)⟩
               refine ⟨⟨37 :: 29 :: 35 :: 36 :: 28 :: 19 :: 27 :: 18 :: 12 :: 24 :: 26 :: 17 :: 11 :: 6 :: 23 :: 25 :: 13 :: 16 :: 10 :: 5 :: 2 :: 20 :: 22 :: 15 :: 7 :: 9 :: 4 :: 1 :: 21 :: 14 :: 8 :: 3 :: 0 :: [], (by decide +kernel), fun S hle hfr => ?_⟩, ?_⟩
               · exact .inl ⟨.inr (.inl ⟨_, _, _, _, rfl, rfl, (hle.ev (x := .tmp _) rfl (by nofun)), (by rw [hle.nt]; rfl), (by first | rfl | (rw [q17]; rfl))⟩), ev_str_bytes (.inl (hle.ev rfl (by nofun))) Try.underlying24 Try.underlying5 Try.underlying9 (hle.d rfl)⟩
               exact trivial
              case hk4x => rfl
              case hf4x => rfl
              refine aops_yes rfl rfl rfl rfl q17 (st_str_eq rfl rfl rfl) ?_
              refine aops_step1 rfl (st_pick_yes rfl (by first | rfl | exact q17) rfl rfl) ?_
              refine aops_step1 rfl (st_assign rfl rfl) ?_
              refine aops_nil ?_
              cases Option.some.inj h
              refine aw_ret ⟨rfl, ret_v (.inl ⟨_, rfl, rfl, fun _ e => nomatch e⟩) rfl rfl rfl ?_⟩
              (repeat' (first | exact TLe.refl _ | exact VLe.refl _ | exact CLe.refl _ | exact All2.nil | refine TLe.tup ?_ | refine TLe.v ?_ | refine All2.cons ?_ ?_ | refine VLe.agg ?_ | refine VLe.one ?_ | exact CLe.nil _ | exact CLe.emp _ | refine CLe.val ?_ | refine CLe.slc ?_ ?_))
            replace h := Md.cond_f h q17
            refine aw_seq ?_
            apply aw_draw 39 ((⟨[], .one (.val (.int .i64 x11.2))⟩ : Add) :: ⟨[], .one (.val (.bool (x11.2 == 0)))⟩ :: ⟨[], .one (.val (.bool (x11.2 == 0)))⟩ :: ⟨[], .one (.val (.int .i64 (Md.W (((x11.1.length : Nat) : Int) - ((x8_0.2.2.length : Nat) : Int)))))⟩ :: ⟨[], .one (.val (.bool (decide ((Md.W (((x11.1.length : Nat) : Int) - ((x8_0.2.2.length : Nat) : Int))) ≥ 0))))⟩ :: ⟨[], .one (.val (.bool (decide ((Md.W (((x11.1.length : Nat) : Int) - ((x8_0.2.2.length : Nat) : Int))) ≥ 0))))⟩ :: ⟨[], .one (.val (.bool (decide ((Md.W (((x11.1.length : Nat) : Int) - ((x8_0.2.2.length : Nat) : Int))) ≥ 0))))⟩ :: ⟨[], .one (.val (.int .i64 (Md.W (((x11.1.length : Nat) : Int) - ((x8_0.2.2.length : Nat) : Int)))))⟩ :: ⟨[], .one (CV.ls byC x8_0.1)⟩ :: ⟨[], .one (.val (.int .i64 ((x8_0.1.length : Nat) : Int)))⟩ :: ⟨[], .one (.val (.bool (decide ((Md.W (((x11.1.length : Nat) : Int) - ((x8_0.2.2.length : Nat) : Int))) ≤ ((x8_0.1.length : Nat) : Int)))))⟩ :: ⟨[], .one (.val (.bool (decide ((Md.W (((x11.1.length : Nat) : Int) - ((x8_0.2.2.length : Nat) : Int))) ≤ ((x8_0.1.length : Nat) : Int)))))⟩ :: ⟨[], .one (.val (.bool (decide ((Md.W (((x11.1.length : Nat) : Int) - ((x8_0.2.2.length : Nat) : Int))) ≤ ((x8_0.1.length : Nat) : Int)))))⟩ :: ⟨[], .one (.val (.int .i64 (Md.W (((x11.1.length : Nat) : Int) - ((x8_0.2.2.length : Nat) : Int)))))⟩ :: ⟨[], .one (.val (.int .u8 (a2.toNat : Int)))⟩ :: ⟨[], .one (.val (.int .i64 ((a2.toNat : Nat) : Int)))⟩ :: ⟨[], .one (.val (.int .i64 (((max a2.toNat 0) : Nat) : Int)))⟩ :: ⟨[], .one (.val (.bool (decide ((Md.W (((x11.1.length : Nat) : Int) - ((x8_0.2.2.length : Nat) : Int))) ≤ (((max a2.toNat 0) : Nat) : Int)))))⟩ :: ⟨[], .one (.val (.bool (decide ((Md.W (((x11.1.length : Nat) : Int) - ((x8_0.2.2.length : Nat) : Int))) ≤ (((max a2.toNat 0) : Nat) : Int)))))⟩ :: ⟨[], .one (.val (.bool (decide ((Md.W (((x11.1.length : Nat) : Int) - ((x8_0.2.2.length : Nat) : Int))) ≤ (((max a2.toNat 0) : Nat) : Int)))))⟩ :: ⟨[], .one (CV.ls byC x11.1)⟩ :: ⟨[], .one (.own 1)⟩ :: ⟨[], .one (.val (.int .i64 ((x8_0.2.2.length : Nat) : Int)))⟩ :: ⟨[], .one (CV.ls byC (x11.1.take x8_0.2.2.length))⟩ :: ⟨[], .one (.val (Sv (x11.1.take x8_0.2.2.length)))⟩ :: ⟨[], .one (.own 1)⟩ :: ⟨[], .one (.val (Sv x8_0.2.2))⟩ :: ⟨[], .one (.val (.bool (decide ((x11.1.take x8_0.2.2.length) = x8_0.2.2))))⟩ :: ⟨[], .one (.val (.bool (decide ((x11.1.take x8_0.2.2.length) = x8_0.2.2))))⟩ :: ⟨[], .one (.val (.bool (decide ((x11.1.take x8_0.2.2.length) = x8_0.2.2))))⟩ :: ⟨[], .tup []⟩ :: ⟨[], .tup []⟩ :: ⟨[], .tup []⟩ :: ⟨[], .tup []⟩ :: ⟨[], .tup []⟩ :: ⟨[], .tup []⟩ :: ⟨[], .tup []⟩ :: ⟨[], .tup []⟩ :: ⟨[], .tup []⟩ :: []) (by decide) rfl ?hk5x ?hf5x ?ho5x ?hr5x
            case ho5x =>
             refine ⟨⟨[], (by decide +kernel), fun S hle hfr => ?_⟩, ?_⟩
             · exact .inl ⟨.inl ⟨rfl, rfl⟩, st_move (hle.ev rfl (by nofun)) (hle.d rfl)⟩
             refine ⟨⟨0 :: [], (by decide +kernel), fun S hle hfr => ?_⟩, ?_⟩
             · exact .inl ⟨.inl ⟨rfl, rfl⟩, ev_cmp (hle.ev rfl (by nofun)) (hle.ev rfl (by nofun)) (hle.d rfl) rfl⟩
             refine ⟨⟨1 :: 0 :: [], (by decide +kernel), fun S hle hfr => ?_⟩, ?_⟩
             · exact .inl ⟨.inl ⟨rfl, rfl⟩, st_move (hle.ev rfl (by nofun)) (hle.d rfl)⟩
             refine ⟨⟨2 :: 1 :: 0 :: [], (by decide +kernel), fun S hle hfr => ?_⟩, ?_⟩
             · exact .inl ⟨.inr (.inl ⟨_, _, _, _, rfl, rfl, (hle.ev (x := .tmp _) rfl (by nofun)), (by rw [hle.nt]; rfl), (by first | rfl | (rw [q12]; rfl))⟩), st_move (hle.ev rfl (by nofun)) (hle.d rfl)⟩
             refine ⟨⟨3 :: 2 :: 1 :: 0 :: [], (by decide +kernel), fun S hle hfr => ?_⟩, ?_⟩
             · exact .inl ⟨.inr (.inl ⟨_, _, _, _, rfl, rfl, (hle.ev (x := .tmp _) rfl (by nofun)), (by rw [hle.nt]; rfl), (by first | rfl | (rw [q12]; rfl))⟩), ev_cmp (hle.ev rfl (by nofun)) (hle.ev rfl (by nofun)) (hle.d rfl) rfl⟩
             refine ⟨⟨2 :: 4 :: 1 :: 3 :: 0 :: [], (by decide +kernel), fun S hle hfr => ?_⟩, ?_⟩
             · exact .inl ⟨.inl ⟨rfl, rfl⟩, st_pick_yes (hle.ev rfl (by nofun)) (by first | rfl | exact q12) (hle.ev rfl (by nofun)) (hle.d rfl)⟩
             refine ⟨⟨5 :: 2 :: 4 :: 1 :: 3 :: 0 :: [], (by decide +kernel), fun S hle hfr => ?_⟩, ?_⟩
             · exact .inl ⟨.inl ⟨rfl, rfl⟩, st_move (hle.ev rfl (by nofun)) (hle.d rfl)⟩
             refine ⟨⟨6 :: 5 :: 2 :: 4 :: 1 :: 3 :: 0 :: [], (by decide +kernel), fun S hle hfr => ?_⟩, ?_⟩
             · exact .inl ⟨.inr (.inl ⟨_, _, _, _, rfl, rfl, (hle.ev (x := .tmp _) rfl (by nofun)), (by rw [hle.nt]; rfl), (by first | rfl | (rw [q13]; rfl))⟩), st_move (hle.ev rfl (by nofun)) (hle.d rfl)⟩
             refine ⟨⟨6 :: 5 :: 2 :: 4 :: 1 :: 3 :: 0 :: [], (by decide +kernel), fun S hle hfr => ?_⟩, ?_⟩
             · exact .inl ⟨.inr (.inl ⟨_, _, _, _, rfl, rfl, (hle.ev (x := .tmp _) rfl (by nofun)), (by rw [hle.nt]; rfl), (by first | rfl | (rw [q13]; rfl))⟩), st_move (hle.ev rfl (by nofun)) (hle.d rfl)⟩
             refine ⟨⟨8 :: 6 :: 5 :: 2 :: 4 :: 1 :: 3 :: 0 :: [], (by decide +kernel), fun S hle hfr => ?_⟩, ?_⟩
             · exact .inl ⟨.inr (.inl ⟨_, _, _, _, rfl, rfl, (hle.ev (x := .tmp _) rfl (by nofun)), (by rw [hle.nt]; rfl), (by first | rfl | (rw [q13]; rfl))⟩), ev_len_slc (hle.ev rfl (by nofun)) (hle.d rfl)⟩
             refine ⟨⟨7 :: 9 :: 6 :: 8 :: 5 :: 2 :: 4 :: 1 :: 3 :: 0 :: [], (by decide +kernel), fun S hle hfr => ?_⟩, ?_⟩
             · exact .inl ⟨.inr (.inl ⟨_, _, _, _, rfl, rfl, (hle.ev (x := .tmp _) rfl (by nofun)), (by rw [hle.nt]; rfl), (by first | rfl | (rw [q13]; rfl))⟩), ev_cmp (hle.ev rfl (by nofun)) (hle.ev rfl (by nofun)) (hle.d rfl) rfl⟩
             refine ⟨⟨6 :: 10 :: 5 :: 2 :: 7 :: 9 :: 4 :: 1 :: 8 :: 3 :: 0 :: [], (by decide +kernel), fun S hle hfr => ?_⟩, ?_⟩
             · exact .inl ⟨.inl ⟨rfl, rfl⟩, st_pick_yes (hle.ev rfl (by nofun)) (by first | rfl | exact q13) (hle.ev rfl (by nofun)) (hle.d rfl)⟩
             refine ⟨⟨11 :: 6 :: 10 :: 5 :: 2 :: 7 :: 9 :: 4 :: 1 :: 8 :: 3 :: 0 :: [], (by decide +kernel), fun S hle hfr => ?_⟩, ?_⟩
             · exact .inl ⟨.inl ⟨rfl, rfl⟩, st_move (hle.ev rfl (by nofun)) (hle.d rfl)⟩
             refine ⟨⟨12 :: 11 :: 6 :: 10 :: 5 :: 2 :: 7 :: 9 :: 4 :: 1 :: 8 :: 3 :: 0 :: [], (by decide +kernel), fun S hle hfr => ?_⟩, ?_⟩
             · exact .inl ⟨.inr (.inl ⟨_, _, _, _, rfl, rfl, (hle.ev (x := .tmp _) rfl (by nofun)), (by rw [hle.nt]; rfl), (by first | rfl | (rw [q14]; rfl))⟩), st_move (hle.ev rfl (by nofun)) (hle.d rfl)⟩
             refine ⟨⟨12 :: 11 :: 6 :: 10 :: 5 :: 2 :: 7 :: 9 :: 4 :: 1 :: 8 :: 3 :: 0 :: [], (by decide +kernel), fun S hle hfr => ?_⟩, ?_⟩
             · exact .inl ⟨.inr (.inl ⟨_, _, _, _, rfl, rfl, (hle.ev (x := .tmp _) rfl (by nofun)), (by rw [hle.nt]; rfl), (by first | rfl | (rw [q14]; rfl))⟩), st_move (hle.ev rfl (by nofun)) (hle.d rfl)⟩
             refine ⟨⟨14 :: 12 :: 11 :: 6 :: 10 :: 5 :: 2 :: 7 :: 9 :: 4 :: 1 :: 8 :: 3 :: 0 :: [], (by decide +kernel), fun S hle hfr => ?_⟩, ?_⟩
             · exact .inl ⟨.inr (.inl ⟨_, _, _, _, rfl, rfl, (hle.ev (x := .tmp _) rfl (by nofun)), (by rw [hle.nt]; rfl), (by first | rfl | (rw [q14]; rfl))⟩), st_conv_int (hle.ev rfl (by nofun)) (hle.d rfl) Try.underlying5 Try.underlying3 (Md.conv_u8_i64 a2)⟩
             refine ⟨⟨15 :: 12 :: 14 :: 11 :: 6 :: 10 :: 5 :: 2 :: 7 :: 9 :: 4 :: 1 :: 8 :: 3 :: 0 :: [], (by decide +kernel), fun S hle hfr => ?_⟩, ?_⟩
             · exact .inl ⟨.inr (.inl ⟨_, _, _, _, rfl, rfl, (hle.ev (x := .tmp _) rfl (by nofun)), (by rw [hle.nt]; rfl), (by first | rfl | (rw [q14]; rfl))⟩), ev_max (hle.ev rfl (by nofun)) (hle.ev rfl (by nofun)) (hle.d rfl) (Md.nat_max _ _)⟩
             refine ⟨⟨13 :: 16 :: 12 :: 15 :: 11 :: 6 :: 14 :: 10 :: 5 :: 2 :: 7 :: 9 :: 4 :: 1 :: 8 :: 3 :: 0 :: [], (by decide +kernel), fun S hle hfr => ?_⟩, ?_⟩
             · exact .inl ⟨.inr (.inl ⟨_, _, _, _, rfl, rfl, (hle.ev (x := .tmp _) rfl (by nofun)), (by rw [hle.nt]; rfl), (by first | rfl | (rw [q14]; rfl))⟩), ev_cmp (hle.ev rfl (by nofun)) (hle.ev rfl (by nofun)) (hle.d rfl) rfl⟩
             refine ⟨⟨12 :: 17 :: 11 :: 6 :: 13 :: 16 :: 10 :: 5 :: 2 :: 15 :: 7 :: 9 :: 4 :: 1 :: 14 :: 8 :: 3 :: 0 :: [], (by decide +kernel), fun S hle hfr => ?_⟩, ?_⟩
             · exact .inl ⟨.inl ⟨rfl, rfl⟩, st_pick_yes (hle.ev rfl (by nofun)) (by first | rfl | exact q14) (hle.ev rfl (by nofun)) (hle.d rfl)⟩
             refine ⟨⟨18 :: 12 :: 17 :: 11 :: 6 :: 13 :: 16 :: 10 :: 5 :: 2 :: 15 :: 7 :: 9 :: 4 :: 1 :: 14 :: 8 :: 3 :: 0 :: [], (by decide +kernel), fun S hle hfr => ?_⟩, ?_⟩
             · exact .inl ⟨.inl ⟨rfl, rfl⟩, st_move (hle.ev rfl (by nofun)) (hle.d rfl)⟩
             refine ⟨⟨19 :: 18 :: 12 :: 17 :: 11 :: 6 :: 13 :: 16 :: 10 :: 5 :: 2 :: 15 :: 7 :: 9 :: 4 :: 1 :: 14 :: 8 :: 3 :: 0 :: [], (by decide +kernel), fun S hle hfr => ?_⟩, ?_⟩
             · exact .inl ⟨.inr (.inl ⟨_, _, _, _, rfl, rfl, (hle.ev (x := .tmp _) rfl (by nofun)), (by rw [hle.nt]; rfl), (by first | rfl | (rw [q15]; rfl))⟩), st_move (hle.ev rfl (by nofun)) (hle.d rfl)⟩
             refine ⟨⟨19 :: 18 :: 12 :: 17 :: 11 :: 6 :: 13 :: 16 :: 10 :: 5 :: 2 :: 15 :: 7 :: 9 :: 4 :: 1 :: 14 :: 8 :: 3 :: 0 :: [], (by decide +kernel), fun S hle hfr => ?_⟩, ?_⟩
             · exact .inl ⟨.inr (.inl ⟨_, _, _, _, rfl, rfl, (hle.ev (x := .tmp _) rfl (by nofun)), (by rw [hle.nt]; rfl), (by first | rfl | (rw [q15]; rfl))⟩), st_move (hle.ev rfl (by nofun)) (hle.d rfl)⟩
             refine ⟨⟨21 :: 19 :: 18 :: 12 :: 17 :: 11 :: 6 :: 13 :: 16 :: 10 :: 5 :: 2 :: 15 :: 7 :: 9 :: 4 :: 1 :: 14 :: 8 :: 3 :: 0 :: [], (by decide +kernel), fun S hle hfr => ?_⟩, ?_⟩
             · exact .inl ⟨.inr (.inl ⟨_, _, _, _, rfl, rfl, (hle.ev (x := .tmp _) rfl (by nofun)), (by rw [hle.nt]; rfl), (by first | rfl | (rw [q15]; rfl))⟩), ev_len_own (hle.ev rfl (by nofun)) (hle.heap _ _ rfl) (hle.d rfl)⟩
             refine ⟨⟨20 :: 22 :: 19 :: 21 :: 18 :: 12 :: 17 :: 11 :: 6 :: 13 :: 16 :: 10 :: 5 :: 2 :: 15 :: 7 :: 9 :: 4 :: 1 :: 14 :: 8 :: 3 :: 0 :: [], (by decide +kernel), fun S hle hfr => ?_⟩, ?_⟩
             · exact .inl ⟨.inr (.inl ⟨_, _, _, _, rfl, rfl, (hle.ev (x := .tmp _) rfl (by nofun)), (by rw [hle.nt]; rfl), (by first | rfl | (rw [q15]; rfl))⟩), st_cut_hi (f := byC) (fun _ => rfl) (hle.ev rfl (by nofun)) ⟨_, _, (hle.ev rfl (by nofun)), rfl⟩ g16 (hle.d rfl)⟩
             refine ⟨⟨23 :: 19 :: 20 :: 22 :: 18 :: 12 :: 21 :: 17 :: 11 :: 6 :: 13 :: 16 :: 10 :: 5 :: 2 :: 15 :: 7 :: 9 :: 4 :: 1 :: 14 :: 8 :: 3 :: 0 :: [], (by decide +kernel), fun S hle hfr => ?_⟩, ?_⟩
             · exact .inl ⟨.inr (.inl ⟨_, _, _, _, rfl, rfl, (hle.ev (x := .tmp _) rfl (by nofun)), (by rw [hle.nt]; rfl), (by first | rfl | (rw [q15]; rfl))⟩), ev_str_bytes (.inl (hle.ev rfl (by nofun))) Try.underlying24 Try.underlying5 Try.underlying9 (hle.d rfl)⟩
             refine ⟨⟨19 :: 18 :: 12 :: 17 :: 11 :: 6 :: 13 :: 16 :: 10 :: 5 :: 2 :: 15 :: 7 :: 9 :: 4 :: 1 :: 14 :: 8 :: 3 :: 0 :: [], (by decide +kernel), fun S hle hfr => ?_⟩, ?_⟩
             · exact .inl ⟨.inr (.inl ⟨_, _, _, _, rfl, rfl, (hle.ev (x := .tmp _) rfl (by nofun)), (by rw [hle.nt]; rfl), (by first | rfl | (rw [q15]; rfl))⟩), st_move (hle.ev rfl (by nofun)) (hle.d rfl)⟩
             refine ⟨⟨25 :: 19 :: 18 :: 12 :: 17 :: 11 :: 6 :: 13 :: 16 :: 10 :: 5 :: 2 :: 15 :: 7 :: 9 :: 4 :: 1 :: 14 :: 8 :: 3 :: 0 :: [], (by decide +kernel), fun S hle hfr => ?_⟩, ?_⟩
             · exact .inl ⟨.inr (.inl ⟨_, _, _, _, rfl, rfl, (hle.ev (x := .tmp _) rfl (by nofun)), (by rw [hle.nt]; rfl), (by first | rfl | (rw [q15]; rfl))⟩), ev_str_bytes (.inr ⟨_, _, (hle.ev rfl (by nofun)), (hle.heap _ _ rfl)⟩) Try.underlying24 Try.underlying5 Try.underlying9 (hle.d rfl)⟩
             refine ⟨⟨24 :: 26 :: 19 :: 23 :: 25 :: 18 :: 12 :: 20 :: 22 :: 17 :: 11 :: 6 :: 21 :: 13 :: 16 :: 10 :: 5 :: 2 :: 15 :: 7 :: 9 :: 4 :: 1 :: 14 :: 8 :: 3 :: 0 :: [], (by decide +kernel), fun S hle hfr => ?_⟩, ?_⟩
             · exact .inl ⟨.inr (.inl ⟨_, _, _, _, rfl, rfl, (hle.ev (x := .tmp _) rfl (by nofun)), (by rw [hle.nt]; rfl), (by first | rfl | (rw [q15]; rfl))⟩), st_str_eq (hle.ev rfl (by nofun)) (hle.ev rfl (by nofun)) (hle.d rfl)⟩
             refine ⟨⟨19 :: 27 :: 18 :: 12 :: 24 :: 26 :: 17 :: 11 :: 6 :: 23 :: 25 :: 13 :: 16 :: 10 :: 5 :: 2 :: 20 :: 22 :: 15 :: 7 :: 9 :: 4 :: 1 :: 21 :: 14 :: 8 :: 3 :: 0 :: [], (by decide +kernel), fun S hle hfr => ?_⟩, ?_⟩
             · exact .inl ⟨.inl ⟨rfl, rfl⟩, st_pick_yes (hle.ev rfl (by nofun)) (by first | rfl | exact q15) (hle.ev rfl (by nofun)) (hle.d rfl)⟩
             refine ⟨⟨28 :: 19 :: 27 :: 18 :: 12 :: 24 :: 26 :: 17 :: 11 :: 6 :: 23 :: 25 :: 13 :: 16 :: 10 :: 5 :: 2 :: 20 :: 22 :: 15 :: 7 :: 9 :: 4 :: 1 :: 21 :: 14 :: 8 :: 3 :: 0 :: [], (by decide +kernel), fun S hle hfr => ?_⟩, ?_⟩
             · exact .inl ⟨.inl ⟨rfl, rfl⟩, st_move (hle.ev rfl (by nofun)) (hle.d rfl)⟩
             refine ⟨⟨29 :: 28 :: 19 :: 27 :: 18 :: 12 :: 24 :: 26 :: 17 :: 11 :: 6 :: 23 :: 25 :: 13 :: 16 :: 10 :: 5 :: 2 :: 20 :: 22 :: 15 :: 7 :: 9 :: 4 :: 1 :: 21 :: 14 :: 8 :: 3 :: 0 :: [], (by decide +kernel), fun S hle hfr => ?_⟩, ?_⟩
             · exact .inr ⟨.inr (.inl ⟨_, _, _, _, rfl, rfl, (hle.ev (x := .tmp _) rfl (by nofun)), (by rw [hle.nt]; rfl), (by first | rfl | (rw [q17]; rfl))⟩), rfl, hle.d rfl⟩
             refine ⟨⟨29 :: 28 :: 19 :: 27 :: 18 :: 12 :: 24 :: 26 :: 17 :: 11 :: 6 :: 23 :: 25 :: 13 :: 16 :: 10 :: 5 :: 2 :: 20 :: 22 :: 15 :: 7 :: 9 :: 4 :: 1 :: 21 :: 14 :: 8 :: 3 :: 0 :: [], (by decide +kernel), fun S hle hfr => ?_⟩, ?_⟩
             · exact .inr ⟨.inr (.inl ⟨_, _, _, _, rfl, rfl, (hle.ev (x := .tmp _) rfl (by nofun)), (by rw [hle.nt]; rfl), (by first | rfl | (rw [q17]; rfl))⟩), rfl, hle.d rfl⟩
             refine ⟨⟨31 :: 29 :: 28 :: 19 :: 27 :: 18 :: 12 :: 24 :: 26 :: 17 :: 11 :: 6 :: 23 :: 25 :: 13 :: 16 :: 10 :: 5 :: 2 :: 20 :: 22 :: 15 :: 7 :: 9 :: 4 :: 1 :: 21 :: 14 :: 8 :: 3 :: 0 :: [], (by decide +kernel), fun S hle hfr => ?_⟩, ?_⟩
             · exact .inr ⟨.inr (.inl ⟨_, _, _, _, rfl, rfl, (hle.ev (x := .tmp _) rfl (by nofun)), (by rw [hle.nt]; rfl), (by first | rfl | (rw [q17]; rfl))⟩), rfl, hle.d rfl⟩
             refine ⟨⟨30 :: 32 :: 29 :: 31 :: 28 :: 19 :: 27 :: 18 :: 12 :: 24 :: 26 :: 17 :: 11 :: 6 :: 23 :: 25 :: 13 :: 16 :: 10 :: 5 :: 2 :: 20 :: 22 :: 15 :: 7 :: 9 :: 4 :: 1 :: 21 :: 14 :: 8 :: 3 :: 0 :: [], (by decide +kernel), fun S hle hfr => ?_⟩, ?_⟩
             · exact .inr ⟨.inr (.inl ⟨_, _, _, _, rfl, rfl, (hle.ev (x := .tmp _) rfl (by nofun)), (by rw [hle.nt]; rfl), (by first | rfl | (rw [q17]; rfl))⟩), rfl, hle.d rfl⟩
             refine ⟨⟨33 :: 29 :: 30 :: 32 :: 28 :: 19 :: 31 :: 27 :: 18 :: 12 :: 24 :: 26 :: 17 :: 11 :: 6 :: 23 :: 25 :: 13 :: 16 :: 10 :: 5 :: 2 :: 20 :: 22 :: 15 :: 7 :: 9 :: 4 :: 1 :: 21 :: 14 :: 8 :: 3 :: 0 :: [], (by decide +kernel), fun S hle hfr => ?_⟩, ?_⟩
             · exact .inr ⟨.inr (.inl ⟨_, _, _, _, rfl, rfl, (hle.ev (x := .tmp _) rfl (by nofun)), (by rw [hle.nt]; rfl), (by first | rfl | (rw [q17]; rfl))⟩), rfl, hle.d rfl⟩
             refine ⟨⟨29 :: 28 :: 19 :: 27 :: 18 :: 12 :: 24 :: 26 :: 17 :: 11 :: 6 :: 23 :: 25 :: 13 :: 16 :: 10 :: 5 :: 2 :: 20 :: 22 :: 15 :: 7 :: 9 :: 4 :: 1 :: 21 :: 14 :: 8 :: 3 :: 0 :: [], (by decide +kernel), fun S hle hfr => ?_⟩, ?_⟩
             · exact .inr ⟨.inr (.inl ⟨_, _, _, _, rfl, rfl, (hle.ev (x := .tmp _) rfl (by nofun)), (by rw [hle.nt]; rfl), (by first | rfl | (rw [q17]; rfl))⟩), rfl, hle.d rfl⟩
             refine ⟨⟨29 :: 28 :: 19 :: 27 :: 18 :: 12 :: 24 :: 26 :: 17 :: 11 :: 6 :: 23 :: 25 :: 13 :: 16 :: 10 :: 5 :: 2 :: 20 :: 22 :: 15 :: 7 :: 9 :: 4 :: 1 :: 21 :: 14 :: 8 :: 3 :: 0 :: [], (by decide +kernel), fun S hle hfr => ?_⟩, ?_⟩
             · exact .inr ⟨.inr (.inl ⟨_, _, _, _, rfl, rfl, (hle.ev (x := .tmp _) rfl (by nofun)), (by rw [hle.nt]; rfl), (by first | rfl | (rw [q17]; rfl))⟩), rfl, hle.d rfl⟩
             refine ⟨⟨35 :: 36 :: 29 :: 28 :: 19 :: 27 :: 18 :: 12 :: 24 :: 26 :: 17 :: 11 :: 6 :: 23 :: 25 :: 13 :: 16 :: 10 :: 5 :: 2 :: 20 :: 22 :: 15 :: 7 :: 9 :: 4 :: 1 :: 21 :: 14 :: 8 :: 3 :: 0 :: [], (by decide +kernel), fun S hle hfr => ?_⟩, ?_⟩
             · exact .inr ⟨.inr (.inl ⟨_, _, _, _, rfl, rfl, (hle.ev (x := .tmp _) rfl (by nofun)), (by rw [hle.nt]; rfl), (by first | rfl | (rw [q17]; rfl))⟩), rfl, hle.d rfl⟩
             refine ⟨⟨37 :: 29 :: 35 :: 36 :: 28 :: 19 :: 27 :: 18 :: 12 :: 24 :: 26 :: 17 :: 11 :: 6 :: 23 :: 25 :: 13 :: 16 :: 10 :: 5 :: 2 :: 20 :: 22 :: 15 :: 7 :: 9 :: 4 :: 1 :: 21 :: 14 :: 8 :: 3 :: 0 :: [], (by decide +kernel), fun S hle hfr => ?_⟩, ?_⟩
             · exact .inr ⟨.inr (.inl ⟨_, _, _, _, rfl, rfl, (hle.ev (x := .tmp _) rfl (by nofun)), (by rw [hle.nt]; rfl), (by first | rfl | (rw [q17]; rfl))⟩), rfl, hle.d rfl⟩
             exact trivial
            case hk5x => rfl
            case hf5x => rfl
            refine aops_no rfl rfl rfl rfl rfl (by first | decide | (rw [q17]; decide)) ?_
            refine aops_step1 rfl (st_pick_no rfl (by first | rfl | exact q17) rfl rfl) ?_
            refine aops_step1 rfl (st_assign rfl rfl) ?_
            refine aops_nil ?_
            cases Option.some.inj h
            refine aw_ret ⟨rfl, ret_v (.inl ⟨_, rfl, rfl, fun _ e => nomatch e⟩) rfl rfl rfl ?_⟩
            (repeat' (first | exact TLe.refl _ | exact VLe.refl _ | exact CLe.refl _ | exact All2.nil | refine TLe.tup ?_ | refine TLe.v ?_ | refine All2.cons ?_ ?_ | refine VLe.agg ?_ | refine VLe.one ?_ | exact CLe.nil _ | exact CLe.emp _ | refine CLe.val ?_ | refine CLe.slc ?_ ?_))
          replace h := Md.cond_f h q15
          refine aw_seq ?_
          apply aw_draw 39 ((⟨[], .one (.val (.int .i64 x11.2))⟩ : Add) :: ⟨[], .one (.val (.bool (x11.2 == 0)))⟩ :: ⟨[], .one (.val (.bool (x11.2 == 0)))⟩ :: ⟨[], .one (.val (.int .i64 (Md.W (((x11.1.length : Nat) : Int) - ((x8_0.2.2.length : Nat) : Int)))))⟩ :: ⟨[], .one (.val (.bool (decide ((Md.W (((x11.1.length : Nat) : Int) - ((x8_0.2.2.length : Nat) : Int))) ≥ 0))))⟩ :: ⟨[], .one (.val (.bool (decide ((Md.W (((x11.1.length : Nat) : Int) - ((x8_0.2.2.length : Nat) : Int))) ≥ 0))))⟩ :: ⟨[], .one (.val (.bool (decide ((Md.W (((x11.1.length : Nat) : Int) - ((x8_0.2.2.length : Nat) : Int))) ≥ 0))))⟩ :: ⟨[], .one (.val (.int .i64 (Md.W (((x11.1.length : Nat) : Int) - ((x8_0.2.2.length : Nat) : Int)))))⟩ :: ⟨[], .one (CV.ls byC x8_0.1)⟩ :: ⟨[], .one (.val (.int .i64 ((x8_0.1.length : Nat) : Int)))⟩ :: ⟨[], .one (.val (.bool (decide ((Md.W (((x11.1.length : Nat) : Int) - ((x8_0.2.2.length : Nat) : Int))) ≤ ((x8_0.1.length : Nat) : Int)))))⟩ :: ⟨[], .one (.val (.bool (decide ((Md.W (((x11.1.length : Nat) : Int) - ((x8_0.2.2.length : Nat) : Int))) ≤ ((x8_0.1.length : Nat) : Int)))))⟩ :: ⟨[], .one (.val (.bool (decide ((Md.W (((x11.1.length : Nat) : Int) - ((x8_0.2.2.length : Nat) : Int))) ≤ ((x8_0.1.length : Nat) : Int)))))⟩ :: ⟨[], .one (.val (.int .i64 (Md.W (((x11.1.length : Nat) : Int) - ((x8_0.2.2.length : Nat) : Int)))))⟩ :: ⟨[], .one (.val (.int .u8 (a2.toNat : Int)))⟩ :: ⟨[], .one (.val (.int .i64 ((a2.toNat : Nat) : Int)))⟩ :: ⟨[], .one (.val (.int .i64 (((max a2.toNat 0) : Nat) : Int)))⟩ :: ⟨[], .one (.val (.bool (decide ((Md.W (((x11.1.length : Nat) : Int) - ((x8_0.2.2.length : Nat) : Int))) ≤ (((max a2.toNat 0) : Nat) : Int)))))⟩ :: ⟨[], .one (.val (.bool (decide ((Md.W (((x11.1.length : Nat) : Int) - ((x8_0.2.2.length : Nat) : Int))) ≤ (((max a2.toNat 0) : Nat) : Int)))))⟩ :: ⟨[], .one (.val (.bool (decide ((Md.W (((x11.1.length : Nat) : Int) - ((x8_0.2.2.length : Nat) : Int))) ≤ (((max a2.toNat 0) : Nat) : Int)))))⟩ :: ⟨[], .tup []⟩ :: ⟨[], .tup []⟩ :: ⟨[], .tup []⟩ :: ⟨[], .tup []⟩ :: ⟨[], .tup []⟩ :: ⟨[], .tup []⟩ :: ⟨[], .tup []⟩ :: ⟨[], .tup []⟩ :: ⟨[], .one (.val (.bool false))⟩ :: ⟨[], .one (.val (.bool false))⟩ :: ⟨[], .tup []⟩ :: ⟨[], .tup []⟩ :: ⟨[], .tup []⟩ :: ⟨[], .tup []⟩ :: ⟨[], .tup []⟩ :: ⟨[], .tup []⟩ :: ⟨[], .tup []⟩ :: ⟨[], .tup []⟩ :: ⟨[], .tup []⟩ :: []) (by decide) rfl ?hk6x ?hf6x ?ho6x ?hr6x
          case ho6x =>
           refine ⟨⟨[], (by decide +kernel), fun S hle hfr => ?_⟩, ?_⟩
           · exact .inl ⟨.inl ⟨rfl, rfl⟩, st_move (hle.ev rfl (by nofun)) (hle.d rfl)⟩
           refine ⟨⟨0 :: [], (by decide +kernel), fun S hle hfr => ?_⟩, ?_⟩
           · exact .inl ⟨.inl ⟨rfl, rfl⟩, ev_cmp (hle.ev rfl (by nofun)) (hle.ev rfl (by nofun)) (hle.d rfl) rfl⟩
           refine ⟨⟨1 :: 0 :: [], (by decide +kernel), fun S hle hfr => ?_⟩, ?_⟩
           · exact .inl ⟨.inl ⟨rfl, rfl⟩, st_move (hle.ev rfl (by nofun)) (hle.d rfl)⟩
           refine ⟨⟨2 :: 1 :: 0 :: [], (by decide +kernel), fun S hle hfr => ?_⟩, ?_⟩
           · exact .inl ⟨.inr (.inl ⟨_, _, _, _, rfl, rfl, (hle.ev (x := .tmp _) rfl (by nofun)), (by rw [hle.nt]; rfl), (by first | rfl | (rw [q12]; rfl))⟩), st_move (hle.ev rfl (by nofun)) (hle.d rfl)⟩
           refine ⟨⟨3 :: 2 :: 1 :: 0 :: [], (by decide +kernel), fun S hle hfr => ?_⟩, ?_⟩
           · exact .inl ⟨.inr (.inl ⟨_, _, _, _, rfl, rfl, (hle.ev (x := .tmp _) rfl (by nofun)), (by rw [hle.nt]; rfl), (by first | rfl | (rw [q12]; rfl))⟩), ev_cmp (hle.ev rfl (by nofun)) (hle.ev rfl (by nofun)) (hle.d rfl) rfl⟩
           refine ⟨⟨2 :: 4 :: 1 :: 3 :: 0 :: [], (by decide +kernel), fun S hle hfr => ?_⟩, ?_⟩
           · exact .inl ⟨.inl ⟨rfl, rfl⟩, st_pick_yes (hle.ev rfl (by nofun)) (by first | rfl | exact q12) (hle.ev rfl (by nofun)) (hle.d rfl)⟩
           refine ⟨⟨5 :: 2 :: 4 :: 1 :: 3 :: 0 :: [], (by decide +kernel), fun S hle hfr => ?_⟩, ?_⟩
           · exact .inl ⟨.inl ⟨rfl, rfl⟩, st_move (hle.ev rfl (by nofun)) (hle.d rfl)⟩
           refine ⟨⟨6 :: 5 :: 2 :: 4 :: 1 :: 3 :: 0 :: [], (by decide +kernel), fun S hle hfr => ?_⟩, ?_⟩
           · exact .inl ⟨.inr (.inl ⟨_, _, _, _, rfl, rfl, (hle.ev (x := .tmp _) rfl (by nofun)), (by rw [hle.nt]; rfl), (by first | rfl | (rw [q13]; rfl))⟩), st_move (hle.ev rfl (by nofun)) (hle.d rfl)⟩
           refine ⟨⟨6 :: 5 :: 2 :: 4 :: 1 :: 3 :: 0 :: [], (by decide +kernel), fun S hle hfr => ?_⟩, ?_⟩
           · exact .inl ⟨.inr (.inl ⟨_, _, _, _, rfl, rfl, (hle.ev (x := .tmp _) rfl (by nofun)), (by rw [hle.nt]; rfl), (by first | rfl | (rw [q13]; rfl))⟩), st_move (hle.ev rfl (by nofun)) (hle.d rfl)⟩
           refine ⟨⟨8 :: 6 :: 5 :: 2 :: 4 :: 1 :: 3 :: 0 :: [], (by decide +kernel), fun S hle hfr => ?_⟩, ?_⟩
           · exact .inl ⟨.inr (.inl ⟨_, _, _, _, rfl, rfl, (hle.ev (x := .tmp _) rfl (by nofun)), (by rw [hle.nt]; rfl), (by first | rfl | (rw [q13]; rfl))⟩), ev_len_slc (hle.ev rfl (by nofun)) (hle.d rfl)⟩
           refine ⟨⟨7 :: 9 :: 6 :: 8 :: 5 :: 2 :: 4 :: 1 :: 3 :: 0 :: [], (by decide +kernel), fun S hle hfr => ?_⟩, ?_⟩
           · exact .inl ⟨.inr (.inl ⟨_, _, _, _, rfl, rfl, (hle.ev (x := .tmp _) rfl (by nofun)), (by rw [hle.nt]; rfl), (by first | rfl | (rw [q13]; rfl))⟩), ev_cmp (hle.ev rfl (by nofun)) (hle.ev rfl (by nofun)) (hle.d rfl) rfl⟩
           refine ⟨⟨6 :: 10 :: 5 :: 2 :: 7 :: 9 :: 4 :: 1 :: 8 :: 3 :: 0 :: [], (by decide +kernel), fun S hle hfr => ?_⟩, ?_⟩
           · exact .inl ⟨.inl ⟨rfl, rfl⟩, st_pick_yes (hle.ev rfl (by nofun)) (by first | rfl | exact q13) (hle.ev rfl (by nofun)) (hle.d rfl)⟩
           refine ⟨⟨11 :: 6 :: 10 :: 5 :: 2 :: 7 :: 9 :: 4 :: 1 :: 8 :: 3 :: 0 :: [], (by decide +kernel), fun S hle hfr => ?_⟩, ?_⟩
           · exact .inl ⟨.inl ⟨rfl, rfl⟩, st_move (hle.ev rfl (by nofun)) (hle.d rfl)⟩
           refine ⟨⟨12 :: 11 :: 6 :: 10 :: 5 :: 2 :: 7 :: 9 :: 4 :: 1 :: 8 :: 3 :: 0 :: [], (by decide +kernel), fun S hle hfr => ?_⟩, ?_⟩
           · exact .inl ⟨.inr (.inl ⟨_, _, _, _, rfl, rfl, (hle.ev (x := .tmp _) rfl (by nofun)), (by rw [hle.nt]; rfl), (by first | rfl | (rw [q14]; rfl))⟩), st_move (hle.ev rfl (by nofun)) (hle.d rfl)⟩
           refine ⟨⟨12 :: 11 :: 6 :: 10 :: 5 :: 2 :: 7 :: 9 :: 4 :: 1 :: 8 :: 3 :: 0 :: [], (by decide +kernel), fun S hle hfr => ?_⟩, ?_⟩
           · exact .inl ⟨.inr (.inl ⟨_, _, _, _, rfl, rfl, (hle.ev (x := .tmp _) rfl (by nofun)), (by rw [hle.nt]; rfl), (by first | rfl | (rw [q14]; rfl))⟩), st_move (hle.ev rfl (by nofun)) (hle.d rfl)⟩
           refine ⟨⟨14 :: 12 :: 11 :: 6 :: 10 :: 5 :: 2 :: 7 :: 9 :: 4 :: 1 :: 8 :: 3 :: 0 :: [], (by decide +kernel), fun S hle hfr => ?_⟩, ?_⟩
           · exact .inl ⟨.inr (.inl ⟨_, _, _, _, rfl, rfl, (hle.ev (x := .tmp _) rfl (by nofun)), (by rw [hle.nt]; rfl), (by first | rfl | (rw [q14]; rfl))⟩), st_conv_int (hle.ev rfl (by nofun)) (hle.d rfl) Try.underlying5 Try.underlying3 (Md.conv_u8_i64 a2)⟩
           refine ⟨⟨15 :: 12 :: 14 :: 11 :: 6 :: 10 :: 5 :: 2 :: 7 :: 9 :: 4 :: 1 :: 8 :: 3 :: 0 :: [], (by decide +kernel), fun S hle hfr => ?_⟩, ?_⟩
           · exact .inl ⟨.inr (.inl ⟨_, _, _, _, rfl, rfl, (hle.ev (x := .tmp _) rfl (by nofun)), (by rw [hle.nt]; rfl), (by first | rfl | (rw [q14]; rfl))⟩), ev_max (hle.ev rfl (by nofun)) (hle.ev rfl (by nofun)) (hle.d rfl) (Md.nat_max _ _)⟩
           refine ⟨⟨13 :: 16 :: 12 :: 15 :: 11 :: 6 :: 14 :: 10 :: 5 :: 2 :: 7 :: 9 :: 4 :: 1 :: 8 :: 3 :: 0 :: [], (by decide +kernel), fun S hle hfr => ?_⟩, ?_⟩
           · exact .inl ⟨.inr (.inl ⟨_, _, _, _, rfl, rfl, (hle.ev (x := .tmp _) rfl (by nofun)), (by rw [hle.nt]; rfl), (by first | rfl | (rw [q14]; rfl))⟩), ev_cmp (hle.ev rfl (by nofun)) (hle.ev rfl (by nofun)) (hle.d rfl) rfl⟩
           refine ⟨⟨12 :: 17 :: 11 :: 6 :: 13 :: 16 :: 10 :: 5 :: 2 :: 15 :: 7 :: 9 :: 4 :: 1 :: 14 :: 8 :: 3 :: 0 :: [], (by decide +kernel), fun S hle hfr => ?_⟩, ?_⟩
           · exact .inl ⟨.inl ⟨rfl, rfl⟩, st_pick_yes (hle.ev rfl (by nofun)) (by first | rfl | exact q14) (hle.ev rfl (by nofun)) (hle.d rfl)⟩
           refine ⟨⟨18 :: 12 :: 17 :: 11 :: 6 :: 13 :: 16 :: 10 :: 5 :: 2 :: 15 :: 7 :: 9 :: 4 :: 1 :: 14 :: 8 :: 3 :: 0 :: [], (by decide +kernel), fun S hle hfr => ?_⟩, ?_⟩
           · exact .inl ⟨.inl ⟨rfl, rfl⟩, st_move (hle.ev rfl (by nofun)) (hle.d rfl)⟩
           refine ⟨⟨19 :: 18 :: 12 :: 17 :: 11 :: 6 :: 13 :: 16 :: 10 :: 5 :: 2 :: 15 :: 7 :: 9 :: 4 :: 1 :: 14 :: 8 :: 3 :: 0 :: [], (by decide +kernel), fun S hle hfr => ?_⟩, ?_⟩
           · exact .inr ⟨.inr (.inl ⟨_, _, _, _, rfl, rfl, (hle.ev (x := .tmp _) rfl (by nofun)), (by rw [hle.nt]; rfl), (by first | rfl | (rw [q15]; rfl))⟩), rfl, hle.d rfl⟩
           refine ⟨⟨19 :: 18 :: 12 :: 17 :: 11 :: 6 :: 13 :: 16 :: 10 :: 5 :: 2 :: 15 :: 7 :: 9 :: 4 :: 1 :: 14 :: 8 :: 3 :: 0 :: [], (by decide +kernel), fun S hle hfr => ?_⟩, ?_⟩
           · exact .inr ⟨.inr (.inl ⟨_, _, _, _, rfl, rfl, (hle.ev (x := .tmp _) rfl (by nofun)), (by rw [hle.nt]; rfl), (by first | rfl | (rw [q15]; rfl))⟩), rfl, hle.d rfl⟩
           refine ⟨⟨21 :: 19 :: 18 :: 12 :: 17 :: 11 :: 6 :: 13 :: 16 :: 10 :: 5 :: 2 :: 15 :: 7 :: 9 :: 4 :: 1 :: 14 :: 8 :: 3 :: 0 :: [], (by decide +kernel), fun S hle hfr => ?_⟩, ?_⟩
           · exact .inr ⟨.inr (.inl ⟨_, _, _, _, rfl, rfl, (hle.ev (x := .tmp _) rfl (by nofun)), (by rw [hle.nt]; rfl), (by first | rfl | (rw [q15]; rfl))⟩), rfl, hle.d rfl⟩
           refine ⟨⟨20 :: 22 :: 19 :: 21 :: 18 :: 12 :: 17 :: 11 :: 6 :: 13 :: 16 :: 10 :: 5 :: 2 :: 15 :: 7 :: 9 :: 4 :: 1 :: 14 :: 8 :: 3 :: 0 :: [], (by decide +kernel), fun S hle hfr => ?_⟩, ?_⟩
           · exact .inr ⟨.inr (.inl ⟨_, _, _, _, rfl, rfl, (hle.ev (x := .tmp _) rfl (by nofun)), (by rw [hle.nt]; rfl), (by first | rfl | (rw [q15]; rfl))⟩), rfl, hle.d rfl⟩
           refine ⟨⟨23 :: 19 :: 20 :: 22 :: 18 :: 12 :: 21 :: 17 :: 11 :: 6 :: 13 :: 16 :: 10 :: 5 :: 2 :: 15 :: 7 :: 9 :: 4 :: 1 :: 14 :: 8 :: 3 :: 0 :: [], (by decide +kernel), fun S hle hfr => ?_⟩, ?_⟩
           · exact .inr ⟨.inr (.inl ⟨_, _, _, _, rfl, rfl, (hle.ev (x := .tmp _) rfl (by nofun)), (by rw [hle.nt]; rfl), (by first | rfl | (rw [q15]; rfl))⟩), rfl, hle.d rfl⟩
           refine ⟨⟨19 :: 18 :: 12 :: 17 :: 11 :: 6 :: 13 :: 16 :: 10 :: 5 :: 2 :: 15 :: 7 :: 9 :: 4 :: 1 :: 14 :: 8 :: 3 :: 0 :: [], (by decide +kernel), fun S hle hfr => ?_⟩, ?_⟩
           · exact .inr ⟨.inr (.inl ⟨_, _, _, _, rfl, rfl, (hle.ev (x := .tmp _) rfl (by nofun)), (by rw [hle.nt]; rfl), (by first | rfl | (rw [q15]; rfl))⟩), rfl, hle.d rfl⟩
           refine ⟨⟨25 :: 19 :: 18 :: 12 :: 17 :: 11 :: 6 :: 13 :: 16 :: 10 :: 5 :: 2 :: 15 :: 7 :: 9 :: 4 :: 1 :: 14 :: 8 :: 3 :: 0 :: [], (by decide +kernel), fun S hle hfr => ?_⟩, ?_⟩
           · exact .inr ⟨.inr (.inl ⟨_, _, _, _, rfl, rfl, (hle.ev (x := .tmp _) rfl (by nofun)), (by rw [hle.nt]; rfl), (by first | rfl | (rw [q15]; rfl))⟩), rfl, hle.d rfl⟩
           refine ⟨⟨24 :: 26 :: 19 :: 23 :: 25 :: 18 :: 12 :: 20 :: 22 :: 17 :: 11 :: 6 :: 21 :: 13 :: 16 :: 10 :: 5 :: 2 :: 15 :: 7 :: 9 :: 4 :: 1 :: 14 :: 8 :: 3 :: 0 :: [], (by decide +kernel), fun S hle hfr => ?_⟩, ?_⟩
           · exact .inr ⟨.inr (.inl ⟨_, _, _, _, rfl, rfl, (hle.ev (x := .tmp _) rfl (by nofun)), (by rw [hle.nt]; rfl), (by first | rfl | (rw [q15]; rfl))⟩), rfl, hle.d rfl⟩
           refine ⟨⟨19 :: 27 :: 18 :: 12 :: 24 :: 26 :: 17 :: 11 :: 6 :: 23 :: 25 :: 13 :: 16 :: 10 :: 5 :: 2 :: 20 :: 22 :: 15 :: 7 :: 9 :: 4 :: 1 :: 21 :: 14 :: 8 :: 3 :: 0 :: [], (by decide +kernel), fun S hle hfr => ?_⟩, ?_⟩
           · exact .inl ⟨.inl ⟨rfl, rfl⟩, st_pick_no (hle.ev rfl (by nofun)) (by first | rfl | exact q15) (hle.ev rfl (by nofun)) (hle.d rfl)⟩
           refine ⟨⟨28 :: 19 :: 27 :: 18 :: 12 :: 24 :: 26 :: 17 :: 11 :: 6 :: 23 :: 25 :: 13 :: 16 :: 10 :: 5 :: 2 :: 20 :: 22 :: 15 :: 7 :: 9 :: 4 :: 1 :: 21 :: 14 :: 8 :: 3 :: 0 :: [], (by decide +kernel), fun S hle hfr => ?_⟩, ?_⟩
           · exact .inl ⟨.inl ⟨rfl, rfl⟩, st_move (hle.ev rfl (by nofun)) (hle.d rfl)⟩
           refine ⟨⟨29 :: 28 :: 19 :: 27 :: 18 :: 12 :: 24 :: 26 :: 17 :: 11 :: 6 :: 23 :: 25 :: 13 :: 16 :: 10 :: 5 :: 2 :: 20 :: 22 :: 15 :: 7 :: 9 :: 4 :: 1 :: 21 :: 14 :: 8 :: 3 :: 0 :: [], (by decide +kernel), fun S hle hfr => ?_⟩, ?_⟩
           · exact .inr ⟨.inr (.inl ⟨_, _, _, _, rfl, rfl, (hle.ev (x := .tmp _) rfl (by nofun)), (by rw [hle.nt]; rfl), (by first | rfl | (rw [rfl]; rfl))⟩), rfl, hle.d rfl⟩
           refine ⟨⟨29 :: 28 :: 19 :: 27 :: 18 :: 12 :: 24 :: 26 :: 17 :: 11 :: 6 :: 23 :: 25 :: 13 :: 16 :: 10 :: 5 :: 2 :: 20 :: 22 :: 15 :: 7 :: 9 :: 4 :: 1 :: 21 :: 14 :: 8 :: 3 :: 0 :: [], (by decide +kernel), fun S hle hfr => ?_⟩, ?_⟩
           · exact .inr ⟨.inr (.inl ⟨_, _, _, _, rfl, rfl, (hle.ev (x := .tmp _) rfl (by nofun)), (by rw [hle.nt]; rfl), (by first | rfl | (rw [rfl]; rfl))⟩), rfl, hle.d rfl⟩
           refine ⟨⟨31 :: 29 :: 28 :: 19 :: 27 :: 18 :: 12 :: 24 :: 26 :: 17 :: 11 :: 6 :: 23 :: 25 :: 13 :: 16 :: 10 :: 5 :: 2 :: 20 :: 22 :: 15 :: 7 :: 9 :: 4 :: 1 :: 21 :: 14 :: 8 :: 3 :: 0 :: [], (by decide +kernel), fun S hle hfr => ?_⟩, ?_⟩
           · exact .inr ⟨.inr (.inl ⟨_, _, _, _, rfl, rfl, (hle.ev (x := .tmp _) rfl (by nofun)), (by rw [hle.nt]; rfl), (by first | rfl | (rw [rfl]; rfl))⟩), rfl, hle.d rfl⟩
           refine ⟨⟨30 :: 32 :: 29 :: 31 :: 28 :: 19 :: 27 :: 18 :: 12 :: 24 :: 26 :: 17 :: 11 :: 6 :: 23 :: 25 :: 13 :: 16 :: 10 :: 5 :: 2 :: 20 :: 22 :: 15 :: 7 :: 9 :: 4 :: 1 :: 21 :: 14 :: 8 :: 3 :: 0 :: [], (by decide +kernel), fun S hle hfr => ?_⟩, ?_⟩
           · exact .inr ⟨.inr (.inl ⟨_, _, _, _, rfl, rfl, (hle.ev (x := .tmp _) rfl (by nofun)), (by rw [hle.nt]; rfl), (by first | rfl | (rw [rfl]; rfl))⟩), rfl, hle.d rfl⟩
           refine ⟨⟨33 :: 29 :: 30 :: 32 :: 28 :: 19 :: 31 :: 27 :: 18 :: 12 :: 24 :: 26 :: 17 :: 11 :: 6 :: 23 :: 25 :: 13 :: 16 :: 10 :: 5 :: 2 :: 20 :: 22 :: 15 :: 7 :: 9 :: 4 :: 1 :: 21 :: 14 :: 8 :: 3 :: 0 :: [], (by decide +kernel), fun S hle hfr => ?_⟩, ?_⟩
           · exact .inr ⟨.inr (.inl ⟨_, _, _, _, rfl, rfl, (hle.ev (x := .tmp _) rfl (by nofun)), (by rw [hle.nt]; rfl), (by first | rfl | (rw [rfl]; rfl))⟩), rfl, hle.d rfl⟩
           refine ⟨⟨29 :: 28 :: 19 :: 27 :: 18 :: 12 :: 24 :: 26 :: 17 :: 11 :: 6 :: 23 :: 25 :: 13 :: 16 :: 10 :: 5 :: 2 :: 20 :: 22 :: 15 :: 7 :: 9 :: 4 :: 1 :: 21 :: 14 :: 8 :: 3 :: 0 :: [], (by decide +kernel), fun S hle hfr => ?_⟩, ?_⟩
           · exact .inr ⟨.inr (.inl ⟨_, _, _, _, rfl, rfl, (hle.ev (x := .tmp _) rfl (by nofun)), (by rw [hle.nt]; rfl), (by first | rfl | (rw [rfl]; rfl))⟩), rfl, hle.d rfl⟩
           refine ⟨⟨29 :: 28 :: 19 :: 27 :: 18 :: 12 :: 24 :: 26 :: 17 :: 11 :: 6 :: 23 :: 25 :: 13 :: 16 :: 10 :: 5 :: 2 :: 20 :: 22 :: 15 :: 7 :: 9 :: 4 :: 1 :: 21 :: 14 :: 8 :: 3 :: 0 :: [], (by decide +kernel), fun S hle hfr => ?_⟩, ?_⟩
           · exact .inr ⟨.inr (.inl ⟨_, _, _, _, rfl, rfl, (hle.ev (x := .tmp _) rfl (by nofun)), (by rw [hle.nt]; rfl), (by first | rfl | (rw [rfl]; rfl))⟩), rfl, hle.d rfl⟩
           refine ⟨⟨35 :: 36 :: 29 :: 28 :: 19 :: 27 :: 18 :: 12 :: 24 :: 26 :: 17 :: 11 :: 6 :: 23 :: 25 :: 13 :: 16 :: 10 :: 5 :: 2 :: 20 :: 22 :: 15 :: 7 :: 9 :: 4 :: 1 :: 21 :: 14 :: 8 :: 3 :: 0 :: [], (by decide +kernel), fun S hle hfr => ?_⟩, ?_⟩
           · exact .inr ⟨.inr (.inl ⟨_, _, _, _, rfl, rfl, (hle.ev (x := .tmp _) rfl (by nofun)), (by rw [hle.nt]; rfl), (by first | rfl | (rw [rfl]; rfl))⟩), rfl, hle.d rfl⟩
           refine ⟨⟨37 :: 29 :: 35 :: 36 :: 28 :: 19 :: 27 :: 18 :: 12 :: 24 :: 26 :: 17 :: 11 :: 6 :: 23 :: 25 :: 13 :: 16 :: 10 :: 5 :: 2 :: 20 :: 22 :: 15 :: 7 :: 9 :: 4 :: 1 :: 21 :: 14 :: 8 :: 3 :: 0 :: [], (by decide +kernel), fun S hle hfr => ?_⟩, ?_⟩
           · exact .inr ⟨.inr (.inl ⟨_, _, _, _, rfl, rfl, (hle.ev (x := .tmp _) rfl (by nofun)), (by rw [hle.nt]; rfl), (by first | rfl | (rw [rfl]; rfl))⟩), rfl, hle.d rfl⟩
           exact trivial
          case hk6x => rfl
          case hf6x => rfl
          refine aops_no rfl rfl rfl rfl rfl (by decide) ?_
          refine aops_step1 rfl (st_pick_no rfl (by first | rfl | exact rfl) rfl rfl) ?_
          refine aops_step1 rfl (st_assign rfl rfl) ?_
          refine aops_nil ?_
          cases Option.some.inj h
          refine aw_ret ⟨rfl, ret_v (.inl ⟨_, rfl, rfl, fun _ e => nomatch e⟩) rfl rfl rfl ?_⟩
          (repeat' (first | exact TLe.refl _ | exact VLe.refl _ | exact CLe.refl _ | exact All2.nil | refine TLe.tup ?_ | refine TLe.v ?_ | refine All2.cons ?_ ?_ | refine VLe.agg ?_ | refine VLe.one ?_ | exact CLe.nil _ | exact CLe.emp _ | refine CLe.val ?_ | refine CLe.slc ?_ ?_))
        replace h := Md.cond_f h q14
        refine aw_seq ?_
        apply aw_draw 39 ((⟨[], .one (.val (.int .i64 x11.2))⟩ : Add) :: ⟨[], .one (.val (.bool (x11.2 == 0)))⟩ :: ⟨[], .one (.val (.bool (x11.2 == 0)))⟩ :: ⟨[], .one (.val (.int .i64 (Md.W (((x11.1.length : Nat) : Int) - ((x8_0.2.2.length : Nat) : Int)))))⟩ :: ⟨[], .one (.val (.bool (decide ((Md.W (((x11.1.length : Nat) : Int) - ((x8_0.2.2.length : Nat) : Int))) ≥ 0))))⟩ :: ⟨[], .one (.val (.bool (decide ((Md.W (((x11.1.length : Nat) : Int) - ((x8_0.2.2.length : Nat) : Int))) ≥ 0))))⟩ :: ⟨[], .one (.val (.bool (decide ((Md.W (((x11.1.length : Nat) : Int) - ((x8_0.2.2.length : Nat) : Int))) ≥ 0))))⟩ :: ⟨[], .one (.val (.int .i64 (Md.W (((x11.1.length : Nat) : Int) - ((x8_0.2.2.length : Nat) : Int)))))⟩ :: ⟨[], .one (CV.ls byC x8_0.1)⟩ :: ⟨[], .one (.val (.int .i64 ((x8_0.1.length : Nat) : Int)))⟩ :: ⟨[], .one (.val (.bool (decide ((Md.W (((x11.1.length : Nat) : Int) - ((x8_0.2.2.length : Nat) : Int))) ≤ ((x8_0.1.length : Nat) : Int)))))⟩ :: ⟨[], .one (.val (.bool (decide ((Md.W (((x11.1.length : Nat) : Int) - ((x8_0.2.2.length : Nat) : Int))) ≤ ((x8_0.1.length : Nat) : Int)))))⟩ :: ⟨[], .one (.val (.bool (decide ((Md.W (((x11.1.length : Nat) : Int) - ((x8_0.2.2.length : Nat) : Int))) ≤ ((x8_0.1.length : Nat) : Int)))))⟩ :: ⟨[], .tup []⟩ :: ⟨[], .tup []⟩ :: ⟨[], .tup []⟩ :: ⟨[], .tup []⟩ :: ⟨[], .tup []⟩ :: ⟨[], .one (.val (.bool false))⟩ :: ⟨[], .one (.val (.bool false))⟩ :: ⟨[], .tup []⟩ :: ⟨[], .tup []⟩ :: ⟨[], .tup []⟩ :: ⟨[], .tup []⟩ :: ⟨[], .tup []⟩ :: ⟨[], .tup []⟩ :: ⟨[], .tup []⟩ :: ⟨[], .tup []⟩ :: ⟨[], .one (.val (.bool false))⟩ :: ⟨[], .one (.val (.bool false))⟩ :: ⟨[], .tup []⟩ :: ⟨[], .tup []⟩ :: ⟨[], .tup []⟩ :: ⟨[], .tup []⟩ :: ⟨[], .tup []⟩ :: ⟨[], .tup []⟩ :: ⟨[], .tup []⟩ :: ⟨[], .tup []⟩ :: ⟨[], .tup []⟩ :: []) (by decide) rfl ?hk7x ?hf7x ?ho7x ?hr7x
        case ho7x =>
         refine ⟨⟨[], (by decide +kernel), fun S hle hfr => ?_⟩, ?_⟩
         · exact .inl ⟨.inl ⟨rfl, rfl⟩, st_move (hle.ev rfl (by nofun)) (hle.d rfl)⟩
         refine ⟨⟨0 :: [], (by decide +kernel), fun S hle hfr => ?_⟩, ?_⟩
         · exact .inl ⟨.inl ⟨rfl, rfl⟩, ev_cmp (hle.ev rfl (by nofun)) (hle.ev rfl (by nofun)) (hle.d rfl) rfl⟩
         refine ⟨⟨1 :: 0 :: [], (by decide +kernel), fun S hle hfr => ?_⟩, ?_⟩
         · exact .inl ⟨.inl ⟨rfl, rfl⟩, st_move (hle.ev rfl (by nofun)) (hle.d rfl)⟩
         refine ⟨⟨2 :: 1 :: 0 :: [], (by decide +kernel), fun S hle hfr => ?_⟩, ?_⟩
         · exact .inl ⟨.inr (.inl ⟨_, _, _, _, rfl, rfl, (hle.ev (x := .tmp _) rfl (by nofun)), (by rw [hle.nt]; rfl), (by first | rfl | (rw [q12]; rfl))⟩), st_move (hle.ev rfl (by nofun)) (hle.d rfl)⟩
         refine ⟨⟨3 :: 2 :: 1 :: 0 :: [], (by decide +kernel), fun S hle hfr => ?_⟩, ?_⟩
         · exact .inl ⟨.inr (.inl ⟨_, _, _, _, rfl, rfl, (hle.ev (x := .tmp _) rfl (by nofun)), (by rw [hle.nt]; rfl), (by first | rfl | (rw [q12]; rfl))⟩), ev_cmp (hle.ev rfl (by nofun)) (hle.ev rfl (by nofun)) (hle.d rfl) rfl⟩
         refine ⟨⟨2 :: 4 :: 1 :: 3 :: 0 :: [], (by decide +kernel), fun S hle hfr => ?_⟩, ?_⟩
         · exact .inl ⟨.inl ⟨rfl, rfl⟩, st_pick_yes (hle.ev rfl (by nofun)) (by first | rfl | exact q12) (hle.ev rfl (by nofun)) (hle.d rfl)⟩
         refine ⟨⟨5 :: 2 :: 4 :: 1 :: 3 :: 0 :: [], (by decide +kernel), fun S hle hfr => ?_⟩, ?_⟩
         · exact .inl ⟨.inl ⟨rfl, rfl⟩, st_move (hle.ev rfl (by nofun)) (hle.d rfl)⟩
         refine ⟨⟨6 :: 5 :: 2 :: 4 :: 1 :: 3 :: 0 :: [], (by decide +kernel), fun S hle hfr => ?_⟩, ?_⟩
         · exact .inl ⟨.inr (.inl ⟨_, _, _, _, rfl, rfl, (hle.ev (x := .tmp _) rfl (by nofun)), (by rw [hle.nt]; rfl), (by first | rfl | (rw [q13]; rfl))⟩), st_move (hle.ev rfl (by nofun)) (hle.d rfl)⟩
         refine ⟨⟨6 :: 5 :: 2 :: 4 :: 1 :: 3 :: 0 :: [], (by decide +kernel), fun S hle hfr => ?_⟩, ?_⟩
         · exact .inl ⟨.inr (.inl ⟨_, _, _, _, rfl, rfl, (hle.ev (x := .tmp _) rfl (by nofun)), (by rw [hle.nt]; rfl), (by first | rfl | (rw [q13]; rfl))⟩), st_move (hle.ev rfl (by nofun)) (hle.d rfl)⟩
         refine ⟨⟨8 :: 6 :: 5 :: 2 :: 4 :: 1 :: 3 :: 0 :: [], (by decide +kernel), fun S hle hfr => ?_⟩, ?_⟩
         · exact .inl ⟨.inr (.inl ⟨_, _, _, _, rfl, rfl, (hle.ev (x := .tmp _) rfl (by nofun)), (by rw [hle.nt]; rfl), (by first | rfl | (rw [q13]; rfl))⟩), ev_len_slc (hle.ev rfl (by nofun)) (hle.d rfl)⟩
         refine ⟨⟨7 :: 9 :: 6 :: 8 :: 5 :: 2 :: 4 :: 1 :: 3 :: 0 :: [], (by decide +kernel), fun S hle hfr => ?_⟩, ?_⟩
         · exact .inl ⟨.inr (.inl ⟨_, _, _, _, rfl, rfl, (hle.ev (x := .tmp _) rfl (by nofun)), (by rw [hle.nt]; rfl), (by first | rfl | (rw [q13]; rfl))⟩), ev_cmp (hle.ev rfl (by nofun)) (hle.ev rfl (by nofun)) (hle.d rfl) rfl⟩
         refine ⟨⟨6 :: 10 :: 5 :: 2 :: 7 :: 9 :: 4 :: 1 :: 8 :: 3 :: 0 :: [], (by decide +kernel), fun S hle hfr => ?_⟩, ?_⟩
         · exact .inl ⟨.inl ⟨rfl, rfl⟩, st_pick_yes (hle.ev rfl (by nofun)) (by first | rfl | exact q13) (hle.ev rfl (by nofun)) (hle.d rfl)⟩
         refine ⟨⟨11 :: 6 :: 10 :: 5 :: 2 :: 7 :: 9 :: 4 :: 1 :: 8 :: 3 :: 0 :: [], (by decide +kernel), fun S hle hfr => ?_⟩, ?_⟩
         · exact .inl ⟨.inl ⟨rfl, rfl⟩, st_move (hle.ev rfl (by nofun)) (hle.d rfl)⟩
         refine ⟨⟨12 :: 11 :: 6 :: 10 :: 5 :: 2 :: 7 :: 9 :: 4 :: 1 :: 8 :: 3 :: 0 :: [], (by decide +kernel), fun S hle hfr => ?_⟩, ?_⟩
         · exact .inr ⟨.inr (.inl ⟨_, _, _, _, rfl, rfl, (hle.ev (x := .tmp _) rfl (by nofun)), (by rw [hle.nt]; rfl), (by first | rfl | (rw [q14]; rfl))⟩), rfl, hle.d rfl⟩
         refine ⟨⟨12 :: 11 :: 6 :: 10 :: 5 :: 2 :: 7 :: 9 :: 4 :: 1 :: 8 :: 3 :: 0 :: [], (by decide +kernel), fun S hle hfr => ?_⟩, ?_⟩
         · exact .inr ⟨.inr (.inl ⟨_, _, _, _, rfl, rfl, (hle.ev (x := .tmp _) rfl (by nofun)), (by rw [hle.nt]; rfl), (by first | rfl | (rw [q14]; rfl))⟩), rfl, hle.d rfl⟩
         refine ⟨⟨14 :: 12 :: 11 :: 6 :: 10 :: 5 :: 2 :: 7 :: 9 :: 4 :: 1 :: 8 :: 3 :: 0 :: [], (by decide +kernel), fun S hle hfr => ?_⟩, ?_⟩
         · exact .inr ⟨.inr (.inl ⟨_, _, _, _, rfl, rfl, (hle.ev (x := .tmp _) rfl (by nofun)), (by rw [hle.nt]; rfl), (by first | rfl | (rw [q14]; rfl))⟩), rfl, hle.d rfl⟩
         refine ⟨⟨15 :: 12 :: 14 :: 11 :: 6 :: 10 :: 5 :: 2 :: 7 :: 9 :: 4 :: 1 :: 8 :: 3 :: 0 :: [], (by decide +kernel), fun S hle hfr => ?_⟩, ?_⟩
         · exact .inr ⟨.inr (.inl ⟨_, _, _, _, rfl, rfl, (hle.ev (x := .tmp _) rfl (by nofun)), (by rw [hle.nt]; rfl), (by first | rfl | (rw [q14]; rfl))⟩), rfl, hle.d rfl⟩
         refine ⟨⟨13 :: 16 :: 12 :: 15 :: 11 :: 6 :: 14 :: 10 :: 5 :: 2 :: 7 :: 9 :: 4 :: 1 :: 8 :: 3 :: 0 :: [], (by decide +kernel), fun S hle hfr => ?_⟩, ?_⟩
         · exact .inr ⟨.inr (.inl ⟨_, _, _, _, rfl, rfl, (hle.ev (x := .tmp _) rfl (by nofun)), (by rw [hle.nt]; rfl), (by first | rfl | (rw [q14]; rfl))⟩), rfl, hle.d rfl⟩
         refine ⟨⟨12 :: 17 :: 11 :: 6 :: 13 :: 16 :: 10 :: 5 :: 2 :: 15 :: 7 :: 9 :: 4 :: 1 :: 14 :: 8 :: 3 :: 0 :: [], (by decide +kernel), fun S hle hfr => ?_⟩, ?_⟩
         · exact .inl ⟨.inl ⟨rfl, rfl⟩, st_pick_no (hle.ev rfl (by nofun)) (by first | rfl | exact q14) (hle.ev rfl (by nofun)) (hle.d rfl)⟩
         refine ⟨⟨18 :: 12 :: 17 :: 11 :: 6 :: 13 :: 16 :: 10 :: 5 :: 2 :: 15 :: 7 :: 9 :: 4 :: 1 :: 14 :: 8 :: 3 :: 0 :: [], (by decide +kernel), fun S hle hfr => ?_⟩, ?_⟩
         · exact .inl ⟨.inl ⟨rfl, rfl⟩, st_move (hle.ev rfl (by nofun)) (hle.d rfl)⟩
         refine ⟨⟨19 :: 18 :: 12 :: 17 :: 11 :: 6 :: 13 :: 16 :: 10 :: 5 :: 2 :: 15 :: 7 :: 9 :: 4 :: 1 :: 14 :: 8 :: 3 :: 0 :: [], (by decide +kernel), fun S hle hfr => ?_⟩, ?_⟩
         · exact .inr ⟨.inr (.inl ⟨_, _, _, _, rfl, rfl, (hle.ev (x := .tmp _) rfl (by nofun)), (by rw [hle.nt]; rfl), (by first | rfl | (rw [rfl]; rfl))⟩), rfl, hle.d rfl⟩
         refine ⟨⟨19 :: 18 :: 12 :: 17 :: 11 :: 6 :: 13 :: 16 :: 10 :: 5 :: 2 :: 15 :: 7 :: 9 :: 4 :: 1 :: 14 :: 8 :: 3 :: 0 :: [], (by decide +kernel), fun S hle hfr => ?_⟩, ?_⟩
         · exact .inr ⟨.inr (.inl ⟨_, _, _, _, rfl, rfl, (hle.ev (x := .tmp _) rfl (by nofun)), (by rw [hle.nt]; rfl), (by first | rfl | (rw [rfl]; rfl))⟩), rfl, hle.d rfl⟩
         refine ⟨⟨21 :: 19 :: 18 :: 12 :: 17 :: 11 :: 6 :: 13 :: 16 :: 10 :: 5 :: 2 :: 15 :: 7 :: 9 :: 4 :: 1 :: 14 :: 8 :: 3 :: 0 :: [], (by decide +kernel), fun S hle hfr => ?_⟩, ?_⟩
         · exact .inr ⟨.inr (.inl ⟨_, _, _, _, rfl, rfl, (hle.ev (x := .tmp _) rfl (by nofun)), (by rw [hle.nt]; rfl), (by first | rfl | (rw [rfl]; rfl))⟩), rfl, hle.d rfl⟩
         refine ⟨⟨20 :: 22 :: 19 :: 21 :: 18 :: 12 :: 17 :: 11 :: 6 :: 13 :: 16 :: 10 :: 5 :: 2 :: 15 :: 7 :: 9 :: 4 :: 1 :: 14 :: 8 :: 3 :: 0 :: [], (by decide +kernel), fun S hle hfr => ?_⟩, ?_⟩
         · exact .inr ⟨.inr (.inl ⟨_, _, _, _, rfl, rfl, (hle.ev (x := .tmp _) rfl (by nofun)), (by rw [hle.nt]; rfl), (by first | rfl | (rw [rfl]; rfl))⟩), rfl, hle.d rfl⟩
         refine ⟨⟨23 :: 19 :: 20 :: 22 :: 18 :: 12 :: 21 :: 17 :: 11 :: 6 :: 13 :: 16 :: 10 :: 5 :: 2 :: 15 :: 7 :: 9 :: 4 :: 1 :: 14 :: 8 :: 3 :: 0 :: [], (by decide +kernel), fun S hle hfr => ?_⟩, ?_⟩
         · exact .inr ⟨.inr (.inl ⟨_, _, _, _, rfl, rfl, (hle.ev (x := .tmp _) rfl (by nofun)), (by rw [hle.nt]; rfl), (by first | rfl | (rw [rfl]; rfl))⟩), rfl, hle.d rfl⟩
         refine ⟨⟨19 :: 18 :: 12 :: 17 :: 11 :: 6 :: 13 :: 16 :: 10 :: 5 :: 2 :: 15 :: 7 :: 9 :: 4 :: 1 :: 14 :: 8 :: 3 :: 0 :: [], (by decide +kernel), fun S hle hfr => ?_⟩, ?_⟩
         · exact .inr ⟨.inr (.inl ⟨_, _, _, _, rfl, rfl, (hle.ev (x := .tmp _) rfl (by nofun)), (by rw [hle.nt]; rfl), (by first | rfl | (rw [rfl]; rfl))⟩), rfl, hle.d rfl⟩
         refine ⟨⟨25 :: 19 :: 18 :: 12 :: 17 :: 11 :: 6 :: 13 :: 16 :: 10 :: 5 :: 2 :: 15 :: 7 :: 9 :: 4 :: 1 :: 14 :: 8 :: 3 :: 0 :: [], (by decide +kernel), fun S hle hfr => ?_⟩, ?_⟩
         · exact .inr ⟨.inr (.inl ⟨_, _, _, _, rfl, rfl, (hle.ev (x := .tmp _) rfl (by nofun)), (by rw [hle.nt]; rfl), (by first | rfl | (rw [rfl]; rfl))⟩), rfl, hle.d rfl⟩
         refine ⟨⟨24 :: 26 :: 19 :: 23 :: 25 :: 18 :: 12 :: 20 :: 22 :: 17 :: 11 :: 6 :: 21 :: 13 :: 16 :: 10 :: 5 :: 2 :: 15 :: 7 :: 9 :: 4 :: 1 :: 14 :: 8 :: 3 :: 0 :: [], (by decide +kernel), fun S hle hfr => ?_⟩, ?_⟩
         · exact .inr ⟨.inr (.inl ⟨_, _, _, _, rfl, rfl, (hle.ev (x := .tmp _) rfl (by nofun)), (by rw [hle.nt]; rfl), (by first | rfl | (rw [rfl]; rfl))⟩), rfl, hle.d rfl⟩
         refine ⟨⟨19 :: 27 :: 18 :: 12 :: 24 :: 26 :: 17 :: 11 :: 6 :: 23 :: 25 :: 13 :: 16 :: 10 :: 5 :: 2 :: 20 :: 22 :: 15 :: 7 :: 9 :: 4 :: 1 :: 21 :: 14 :: 8 :: 3 :: 0 :: [], (by decide +kernel), fun S hle hfr => ?_⟩, ?_⟩
         · exact .inl ⟨.inl ⟨rfl, rfl⟩, st_pick_no (hle.ev rfl (by nofun)) (by first | rfl | exact rfl) (hle.ev rfl (by nofun)) (hle.d rfl)⟩
         refine ⟨⟨28 :: 19 :: 27 :: 18 :: 12 :: 24 :: 26 :: 17 :: 11 :: 6 :: 23 :: 25 :: 13 :: 16 :: 10 :: 5 :: 2 :: 20 :: 22 :: 15 :: 7 :: 9 :: 4 :: 1 :: 21 :: 14 :: 8 :: 3 :: 0 :: [], (by decide +kernel), fun S hle hfr => ?_⟩, ?_⟩
         · exact .inl ⟨.inl ⟨rfl, rfl⟩, st_move (hle.ev rfl (by nofun)) (hle.d rfl)⟩
         refine ⟨⟨29 :: 28 :: 19 :: 27 :: 18 :: 12 :: 24 :: 26 :: 17 :: 11 :: 6 :: 23 :: 25 :: 13 :: 16 :: 10 :: 5 :: 2 :: 20 :: 22 :: 15 :: 7 :: 9 :: 4 :: 1 :: 21 :: 14 :: 8 :: 3 :: 0 :: [], (by decide +kernel), fun S hle hfr => ?_⟩, ?_⟩
         · exact .inr ⟨.inr (.inl ⟨_, _, _, _, rfl, rfl, (hle.ev (x := .tmp _) rfl (by nofun)), (by rw [hle.nt]; rfl), (by first | rfl | (rw [rfl]; rfl))⟩), rfl, hle.d rfl⟩
         refine ⟨⟨29 :: 28 :: 19 :: 27 :: 18 :: 12 :: 24 :: 26 :: 17 :: 11 :: 6 :: 23 :: 25 :: 13 :: 16 :: 10 :: 5 :: 2 :: 20 :: 22 :: 15 :: 7 :: 9 :: 4 :: 1 :: 21 :: 14 :: 8 :: 3 :: 0 :: [], (by decide +kernel), fun S hle hfr => ?_⟩, ?_⟩
         · exact .inr ⟨.inr (.inl ⟨_, _, _, _, rfl, rfl, (hle.ev (x := .tmp _) rfl (by nofun)), (by rw [hle.nt]; rfl), (by first | rfl | (rw [rfl]; rfl))⟩), rfl, hle.d rfl⟩
         refine ⟨⟨31 :: 29 :: 28 :: 19 :: 27 :: 18 :: 12 :: 24 :: 26 :: 17 :: 11 :: 6 :: 23 :: 25 :: 13 :: 16 :: 10 :: 5 :: 2 :: 20 :: 22 :: 15 :: 7 :: 9 :: 4 :: 1 :: 21 :: 14 :: 8 :: 3 :: 0 :: [], (by decide +kernel), fun S hle hfr => ?_⟩, ?_⟩
         · exact .inr ⟨.inr (.inl ⟨_, _, _, _, rfl, rfl, (hle.ev (x := .tmp _) rfl (by nofun)), (by rw [hle.nt]; rfl), (by first | rfl | (rw [rfl]; rfl))⟩), rfl, hle.d rfl⟩
         refine ⟨⟨30 :: 32 :: 29 :: 31 :: 28 :: 19 :: 27 :: 18 :: 12 :: 24 :: 26 :: 17 :: 11 :: 6 :: 23 :: 25 :: 13 :: 16 :: 10 :: 5 :: 2 :: 20 :: 22 :: 15 :: 7 :: 9 :: 4 :: 1 :: 21 :: 14 :: 8 :: 3 :: 0 :: [], (by decide +kernel), fun S hle hfr => ?_⟩, ?_⟩
         · exact .inr ⟨.inr (.inl ⟨_, _, _, _, rfl, rfl, (hle.ev (x := .tmp _) rfl (by nofun)), (by rw [hle.nt]; rfl), (by first | rfl | (rw [rfl]; rfl))⟩), rfl, hle.d rfl⟩
         refine ⟨⟨33 :: 29 :: 30 :: 32 :: 28 :: 19 :: 31 :: 27 :: 18 :: 12 :: 24 :: 26 :: 17 :: 11 :: 6 :: 23 :: 25 :: 13 :: 16 :: 10 :: 5 :: 2 :: 20 :: 22 :: 15 :: 7 :: 9 :: 4 :: 1 :: 21 :: 14 :: 8 :: 3 :: 0 :: [], (by decide +kernel), fun S hle hfr => ?_⟩, ?_⟩
         · exact .inr ⟨.inr (.inl ⟨_, _, _, _, rfl, rfl, (hle.ev (x := .tmp _) rfl (by nofun)), (by rw [hle.nt]; rfl), (by first | rfl | (rw [rfl]; rfl))⟩), rfl, hle.d rfl⟩
         refine ⟨⟨29 :: 28 :: 19 :: 27 :: 18 :: 12 :: 24 :: 26 :: 17 :: 11 :: 6 :: 23 :: 25 :: 13 :: 16 :: 10 :: 5 :: 2 :: 20 :: 22 :: 15 :: 7 :: 9 :: 4 :: 1 :: 21 :: 14 :: 8 :: 3 :: 0 :: [], (by decide +kernel), fun S hle hfr => ?_⟩, ?_⟩
         · exact .inr ⟨.inr (.inl ⟨_, _, _, _, rfl, rfl, (hle.ev (x := .tmp _) rfl (by nofun)), (by rw [hle.nt]; rfl), (by first | rfl | (rw [rfl]; rfl))⟩), rfl, hle.d rfl⟩
         refine ⟨⟨29 :: 28 :: 19 :: 27 :: 18 :: 12 :: 24 :: 26 :: 17 :: 11 :: 6 :: 23 :: 25 :: 13 :: 16 :: 10 :: 5 :: 2 :: 20 :: 22 :: 15 :: 7 :: 9 :: 4 :: 1 :: 21 :: 14 :: 8 :: 3 :: 0 :: [], (by decide +kernel), fun S hle hfr => ?_⟩, ?_⟩
         · exact .inr ⟨.inr (.inl ⟨_, _, _, _, rfl, rfl, (hle.ev (x := .tmp _) rfl (by nofun)), (by rw [hle.nt]; rfl), (by first | rfl | (rw [rfl]; rfl))⟩), rfl, hle.d rfl⟩
         refine ⟨⟨35 :: 36 :: 29 :: 28 :: 19 :: 27 :: 18 :: 12 :: 24 :: 26 :: 17 :: 11 :: 6 :: 23 :: 25 :: 13 :: 16 :: 10 :: 5 :: 2 :: 20 :: 22 :: 15 :: 7 :: 9 :: 4 :: 1 :: 21 :: 14 :: 8 :: 3 :: 0 :: [], (by decide +kernel), fun S hle hfr => ?_⟩, ?_⟩
         · exact .inr ⟨.inr (.inl ⟨_, _, _, _, rfl, rfl, (hle.ev (x := .tmp _) rfl (by nofun)), (by rw [hle.nt]; rfl), (by first | rfl | (rw [rfl]; rfl))⟩), rfl, hle.d rfl⟩
         refine ⟨⟨37 :: 29 :: 35 :: 36 :: 28 :: 19 :: 27 :: 18 :: 12 :: 24 :: 26 :: 17 :: 11 :: 6 :: 23 :: 25 :: 13 :: 16 :: 10 :: 5 :: 2 :: 20 :: 22 :: 15 :: 7 :: 9 :: 4 :: 1 :: 21 :: 14 :: 8 :: 3 :: 0 :: [], (by decide +kernel), fun S hle hfr => ?_⟩, ?_⟩
         · exact .inr ⟨.inr (.inl ⟨_, _, _, _, rfl, rfl, (hle.ev (x := .tmp _) rfl (by nofun)), (by rw [hle.nt]; rfl), (by first | rfl | (rw [rfl]; rfl))⟩), rfl, hle.d rfl⟩
         exact trivial
        case hk7x => rfl
        case hf7x => rfl
        refine aops_no rfl rfl rfl rfl rfl (by decide) ?_
        refine aops_step1 rfl (st_pick_no rfl (by first | rfl | exact rfl) rfl rfl) ?_
        refine aops_step1 rfl (st_assign rfl rfl) ?_
        refine aops_nil ?_
        cases Option.some.inj h
        refine aw_ret ⟨rfl, ret_v (.inl ⟨_, rfl, rfl, fun _ e => nomatch e⟩) rfl rfl rfl ?_⟩
        (repeat' (first | exact TLe.refl _ | exact VLe.refl _ | exact CLe.refl _ | exact All2.nil | refine TLe.tup ?_ | refine TLe.v ?_ | refine All2.cons ?_ ?_ | refine VLe.agg ?_ | refine VLe.one ?_ | exact CLe.nil _ | exact CLe.emp _ | refine CLe.val ?_ | refine CLe.slc ?_ ?_))
      replace h := Md.cond_f h q13
      refine aw_seq ?_
      apply aw_draw 39 ((⟨[], .one (.val (.int .i64 x11.2))⟩ : Add) :: ⟨[], .one (.val (.bool (x11.2 == 0)))⟩ :: ⟨[], .one (.val (.bool (x11.2 == 0)))⟩ :: ⟨[], .one (.val (.int .i64 (Md.W (((x11.1.length : Nat) : Int) - ((x8_0.2.2.length : Nat) : Int)))))⟩ :: ⟨[], .one (.val (.bool (decide ((Md.W (((x11.1.length : Nat) : Int) - ((x8_0.2.2.length : Nat) : Int))) ≥ 0))))⟩ :: ⟨[], .one (.val (.bool (decide ((Md.W (((x11.1.length : Nat) : Int) - ((x8_0.2.2.length : Nat) : Int))) ≥ 0))))⟩ :: ⟨[], .one (.val (.bool (decide ((Md.W (((x11.1.length : Nat) : Int) - ((x8_0.2.2.length : Nat) : Int))) ≥ 0))))⟩ :: ⟨[], .tup []⟩ :: ⟨[], .tup []⟩ :: ⟨[], .tup []⟩ :: ⟨[], .tup []⟩ :: ⟨[], .one (.val (.bool false))⟩ :: ⟨[], .one (.val (.bool false))⟩ :: ⟨[], .tup []⟩ :: ⟨[], .tup []⟩ :: ⟨[], .tup []⟩ :: ⟨[], .tup []⟩ :: ⟨[], .tup []⟩ :: ⟨[], .one (.val (.bool false))⟩ :: ⟨[], .one (.val (.bool false))⟩ :: ⟨[], .tup []⟩ :: ⟨[], .tup []⟩ :: ⟨[], .tup []⟩ :: ⟨[], .tup []⟩ :: ⟨[], .tup []⟩ :: ⟨[], .tup []⟩ :: ⟨[], .tup []⟩ :: ⟨[], .tup []⟩ :: ⟨[], .one (.val (.bool false))⟩ :: ⟨[], .one (.val (.bool false))⟩ :: ⟨[], .tup []⟩ :: ⟨[], .tup []⟩ :: ⟨[], .tup []⟩ :: ⟨[], .tup []⟩ :: ⟨[], .tup []⟩ :: ⟨[], .tup []⟩ :: ⟨[], .tup []⟩ :: ⟨[], .tup []⟩ :: ⟨[], .tup []⟩ :: []) (by decide) rfl ?hk8x ?hf8x ?ho8x ?hr8x
      case ho8x =>
       refine ⟨⟨[], (by decide +kernel), fun S hle hfr => ?_⟩, ?_⟩
       · exact .inl ⟨.inl ⟨rfl, rfl⟩, st_move (hle.ev rfl (by nofun)) (hle.d rfl)⟩
       refine ⟨⟨0 :: [], (by decide +kernel), fun S hle hfr => ?_⟩, ?_⟩
       · exact .inl ⟨.inl ⟨rfl, rfl⟩, ev_cmp (hle.ev rfl (by nofun)) (hle.ev rfl (by nofun)) (hle.d rfl) rfl⟩
       refine ⟨⟨1 :: 0 :: [], (by decide +kernel), fun S hle hfr => ?_⟩, ?_⟩
       · exact .inl ⟨.inl ⟨rfl, rfl⟩, st_move (hle.ev rfl (by nofun)) (hle.d rfl)⟩
       refine ⟨⟨2 :: 1 :: 0 :: [], (by decide +kernel), fun S hle hfr => ?_⟩, ?_⟩
       · exact .inl ⟨.inr (.inl ⟨_, _, _, _, rfl, rfl, (hle.ev (x := .tmp _) rfl (by nofun)), (by rw [hle.nt]; rfl), (by first | rfl | (rw [q12]; rfl))⟩), st_move (hle.ev rfl (by nofun)) (hle.d rfl)⟩
       refine ⟨⟨3 :: 2 :: 1 :: 0 :: [], (by decide +kernel), fun S hle hfr => ?_⟩, ?_⟩
       · exact .inl ⟨.inr (.inl ⟨_, _, _, _, rfl, rfl, (hle.ev (x := .tmp _) rfl (by nofun)), (by rw [hle.nt]; rfl), (by first | rfl | (rw [q12]; rfl))⟩), ev_cmp (hle.ev rfl (by nofun)) (hle.ev rfl (by nofun)) (hle.d rfl) rfl⟩
       refine ⟨⟨2 :: 4 :: 1 :: 3 :: 0 :: [], (by decide +kernel), fun S hle hfr => ?_⟩, ?_⟩
       · exact .inl ⟨.inl ⟨rfl, rfl⟩, st_pick_yes (hle.ev rfl (by nofun)) (by first | rfl | exact q12) (hle.ev rfl (by nofun)) (hle.d rfl)⟩
       refine ⟨⟨5 :: 2 :: 4 :: 1 :: 3 :: 0 :: [], (by decide +kernel), fun S hle hfr => ?_⟩, ?_⟩
       · exact .inl ⟨.inl ⟨rfl, rfl⟩, st_move (hle.ev rfl (by nofun)) (hle.d rfl)⟩
       refine ⟨⟨6 :: 5 :: 2 :: 4 :: 1 :: 3 :: 0 :: [], (by decide +kernel), fun S hle hfr => ?_⟩, ?_⟩
       · exact .inr ⟨.inr (.inl ⟨_, _, _, _, rfl, rfl, (hle.ev (x := .tmp _) rfl (by nofun)), (by rw [hle.nt]; rfl), (by first | rfl | (rw [q13]; rfl))⟩), rfl, hle.d rfl⟩
       refine ⟨⟨6 :: 5 :: 2 :: 4 :: 1 :: 3 :: 0 :: [], (by decide +kernel), fun S hle hfr => ?_⟩, ?_⟩
       · exact .inr ⟨.inr (.inl ⟨_, _, _, _, rfl, rfl, (hle.ev (x := .tmp _) rfl (by nofun)), (by rw [hle.nt]; rfl), (by first | rfl | (rw [q13]; rfl))⟩), rfl, hle.d rfl⟩
       refine ⟨⟨8 :: 6 :: 5 :: 2 :: 4 :: 1 :: 3 :: 0 :: [], (by decide +kernel), fun S hle hfr => ?_⟩, ?_⟩
       · exact .inr ⟨.inr (.inl ⟨_, _, _, _, rfl, rfl, (hle.ev (x := .tmp _) rfl (by nofun)), (by rw [hle.nt]; rfl), (by first | rfl | (rw [q13]; rfl))⟩), rfl, hle.d rfl⟩
       refine ⟨⟨7 :: 9 :: 6 :: 8 :: 5 :: 2 :: 4 :: 1 :: 3 :: 0 :: [], (by decide +kernel), fun S hle hfr => ?_⟩, ?_⟩
       · exact .inr ⟨.inr (.inl ⟨_, _, _, _, rfl, rfl, (hle.ev (x := .tmp _) rfl (by nofun)), (by rw [hle.nt]; rfl), (by first | rfl | (rw [q13]; rfl))⟩), rfl, hle.d rfl⟩
       refine ⟨⟨6 :: 10 :: 5 :: 2 :: 7 :: 9 :: 4 :: 1 :: 8 :: 3 :: 0 :: [], (by decide +kernel), fun S hle hfr => ?_⟩, ?_⟩
       · exact .inl ⟨.inl ⟨rfl, rfl⟩, st_pick_no (hle.ev rfl (by nofun)) (by first | rfl | exact q13) (hle.ev rfl (by nofun)) (hle.d rfl)⟩
       refine ⟨⟨11 :: 6 :: 10 :: 5 :: 2 :: 7 :: 9 :: 4 :: 1 :: 8 :: 3 :: 0 :: [], (by decide +kernel), fun S hle hfr => ?_⟩, ?_⟩
       · exact .inl ⟨.inl ⟨rfl, rfl⟩, st_move (hle.ev rfl (by nofun)) (hle.d rfl)⟩
       refine ⟨⟨12 :: 11 :: 6 :: 10 :: 5 :: 2 :: 7 :: 9 :: 4 :: 1 :: 8 :: 3 :: 0 :: [], (by decide +kernel), fun S hle hfr => ?_⟩, ?_⟩
       · exact .inr ⟨.inr (.inl ⟨_, _, _, _, rfl, rfl, (hle.ev (x := .tmp _) rfl (by nofun)), (by rw [hle.nt]; rfl), (by first | rfl | (rw [rfl]; rfl))⟩), rfl, hle.d rfl⟩
       refine ⟨⟨12 :: 11 :: 6 :: 10 :: 5 :: 2 :: 7 :: 9 :: 4 :: 1 :: 8 :: 3 :: 0 :: [], (by decide +kernel), fun S hle hfr => ?_⟩, ?_⟩
       · exact .inr ⟨.inr (.inl ⟨_, _, _, _, rfl, rfl, (hle.ev (x := .tmp _) rfl (by nofun)), (by rw [hle.nt]; rfl), (by first | rfl | (rw [rfl]; rfl))⟩), rfl, hle.d rfl⟩
       refine ⟨⟨14 :: 12 :: 11 :: 6 :: 10 :: 5 :: 2 :: 7 :: 9 :: 4 :: 1 :: 8 :: 3 :: 0 :: [], (by decide +kernel), fun S hle hfr => ?_⟩, ?_⟩
       · exact .inr ⟨.inr (.inl ⟨_, _, _, _, rfl, rfl, (hle.ev (x := .tmp _) rfl (by nofun)), (by rw [hle.nt]; rfl), (by first | rfl | (rw [rfl]; rfl))⟩), rfl, hle.d rfl⟩
       refine ⟨⟨15 :: 12 :: 14 :: 11 :: 6 :: 10 :: 5 :: 2 :: 7 :: 9 :: 4 :: 1 :: 8 :: 3 :: 0 :: [], (by decide +kernel), fun S hle hfr => ?_⟩, ?_⟩
       · exact .inr ⟨.inr (.inl ⟨_, _, _, _, rfl, rfl, (hle.ev (x := .tmp _) rfl (by nofun)), (by rw [hle.nt]; rfl), (by first | rfl | (rw [rfl]; rfl))⟩), rfl, hle.d rfl⟩
       refine ⟨⟨13 :: 16 :: 12 :: 15 :: 11 :: 6 :: 14 :: 10 :: 5 :: 2 :: 7 :: 9 :: 4 :: 1 :: 8 :: 3 :: 0 :: [], (by decide +kernel), fun S hle hfr => ?_⟩, ?_⟩
       · exact .inr ⟨.inr (.inl ⟨_, _, _, _, rfl, rfl, (hle.ev (x := .tmp _) rfl (by nofun)), (by rw [hle.nt]; rfl), (by first | rfl | (rw [rfl]; rfl))⟩), rfl, hle.d rfl⟩
       refine ⟨⟨12 :: 17 :: 11 :: 6 :: 13 :: 16 :: 10 :: 5 :: 2 :: 15 :: 7 :: 9 :: 4 :: 1 :: 14 :: 8 :: 3 :: 0 :: [], (by decide +kernel), fun S hle hfr => ?_⟩, ?_⟩
       · exact .inl ⟨.inl ⟨rfl, rfl⟩, st_pick_no (hle.ev rfl (by nofun)) (by first | rfl | exact rfl) (hle.ev rfl (by nofun)) (hle.d rfl)⟩
       refine ⟨⟨18 :: 12 :: 17 :: 11 :: 6 :: 13 :: 16 :: 10 :: 5 :: 2 :: 15 :: 7 :: 9 :: 4 :: 1 :: 14 :: 8 :: 3 :: 0 :: [], (by decide +kernel), fun S hle hfr => ?_⟩, ?_⟩
       · exact .inl ⟨.inl ⟨rfl, rfl⟩, st_move (hle.ev rfl (by nofun)) (hle.d rfl)⟩
       refine ⟨⟨19 :: 18 :: 12 :: 17 :: 11 :: 6 :: 13 :: 16 :: 10 :: 5 :: 2 :: 15 :: 7 :: 9 :: 4 :: 1 :: 14 :: 8 :: 3 :: 0 :: [], (by decide +kernel), fun S hle hfr => ?_⟩, ?_⟩
       · exact .inr ⟨.inr (.inl ⟨_, _, _, _, rfl, rfl, (hle.ev (x := .tmp _) rfl (by nofun)), (by rw [hle.nt]; rfl), (by first | rfl | (rw [rfl]; rfl))⟩), rfl, hle.d rfl⟩
       refine ⟨⟨19 :: 18 :: 12 :: 17 :: 11 :: 6 :: 13 :: 16 :: 10 :: 5 :: 2 :: 15 :: 7 :: 9 :: 4 :: 1 :: 14 :: 8 :: 3 :: 0 :: [], (by decide +kernel), fun S hle hfr => ?_⟩, ?_⟩
       · exact .inr ⟨.inr (.inl ⟨_, _, _, _, rfl, rfl, (hle.ev (x := .tmp _) rfl (by nofun)), (by rw [hle.nt]; rfl), (by first | rfl | (rw [rfl]; rfl))⟩), rfl, hle.d rfl⟩
       refine ⟨⟨21 :: 19 :: 18 :: 12 :: 17 :: 11 :: 6 :: 13 :: 16 :: 10 :: 5 :: 2 :: 15 :: 7 :: 9 :: 4 :: 1 :: 14 :: 8 :: 3 :: 0 :: [], (by decide +kernel), fun S hle hfr => ?_⟩, ?_⟩
       · exact .inr ⟨.inr (.inl ⟨_, _, _, _, rfl, rfl, (hle.ev (x := .tmp _) rfl (by nofun)), (by rw [hle.nt]; rfl), (by first | rfl | (rw [rfl]; rfl))⟩), rfl, hle.d rfl⟩
       refine ⟨⟨20 :: 22 :: 19 :: 21 :: 18 :: 12 :: 17 :: 11 :: 6 :: 13 :: 16 :: 10 :: 5 :: 2 :: 15 :: 7 :: 9 :: 4 :: 1 :: 14 :: 8 :: 3 :: 0 :: [], (by decide +kernel), fun S hle hfr => ?_⟩, ?_⟩
       · exact .inr ⟨.inr (.inl ⟨_, _, _, _, rfl, rfl, (hle.ev (x := .tmp _) rfl (by nofun)), (by rw [hle.nt]; rfl), (by first | rfl | (rw [rfl]; rfl))⟩), rfl, hle.d rfl⟩
       refine ⟨⟨23 :: 19 :: 20 :: 22 :: 18 :: 12 :: 21 :: 17 :: 11 :: 6 :: 13 :: 16 :: 10 :: 5 :: 2 :: 15 :: 7 :: 9 :: 4 :: 1 :: 14 :: 8 :: 3 :: 0 :: [], (by decide +kernel), fun S hle hfr => ?_⟩, ?_⟩
       · exact .inr ⟨.inr (.inl ⟨_, _, _, _, rfl, rfl, (hle.ev (x := .tmp _) rfl (by nofun)), (by rw [hle.nt]; rfl), (by first | rfl | (rw [rfl]; rfl))⟩), rfl, hle.d rfl⟩
       refine ⟨⟨19 :: 18 :: 12 :: 17 :: 11 :: 6 :: 13 :: 16 :: 10 :: 5 :: 2 :: 15 :: 7 :: 9 :: 4 :: 1 :: 14 :: 8 :: 3 :: 0 :: [], (by decide +kernel), fun S hle hfr => ?_⟩, ?_⟩
       · exact .inr ⟨.inr (.inl ⟨_, _, _, _, rfl, rfl, (hle.ev (x := .tmp _) rfl (by nofun)), (by rw [hle.nt]; rfl), (by first | rfl | (rw [rfl]; rfl))⟩), rfl, hle.d rfl⟩
       refine ⟨⟨25 :: 19 :: 18 :: 12 :: 17 :: 11 :: 6 :: 13 :: 16 :: 10 :: 5 :: 2 :: 15 :: 7 :: 9 :: 4 :: 1 :: 14 :: 8 :: 3 :: 0 :: [], (by decide +kernel), fun S hle hfr => ?_⟩, ?_⟩
       · exact .inr ⟨.inr (.inl ⟨_, _, _, _, rfl, rfl, (hle.ev (x := .tmp _) rfl (by nofun)), (by rw [hle.nt]; rfl), (by first | rfl | (rw [rfl]; rfl))⟩), rfl, hle.d rfl⟩
       refine ⟨⟨24 :: 26 :: 19 :: 23 :: 25 :: 18 :: 12 :: 20 :: 22 :: 17 :: 11 :: 6 :: 21 :: 13 :: 16 :: 10 :: 5 :: 2 :: 15 :: 7 :: 9 :: 4 :: 1 :: 14 :: 8 :: 3 :: 0 :: [], (by decide +kernel), fun S hle hfr => ?_⟩, ?_⟩
       · exact .inr ⟨.inr (.inl ⟨_, _, _, _, rfl, rfl, (hle.ev (x := .tmp _) rfl (by nofun)), (by rw [hle.nt]; rfl), (by first | rfl | (rw [rfl]; rfl))⟩), rfl, hle.d rfl⟩
       refine ⟨⟨19 :: 27 :: 18 :: 12 :: 24 :: 26 :: 17 :: 11 :: 6 :: 23 :: 25 :: 13 :: 16 :: 10 :: 5 :: 2 :: 20 :: 22 :: 15 :: 7 :: 9 :: 4 :: 1 :: 21 :: 14 :: 8 :: 3 :: 0 :: [], (by decide +kernel), fun S hle hfr => ?_⟩, ?_⟩
       · exact .inl ⟨.inl ⟨rfl, rfl⟩, st_pick_no (hle.ev rfl (by nofun)) (by first | rfl | exact rfl) (hle.ev rfl (by nofun)) (hle.d rfl)⟩
       refine ⟨⟨28 :: 19 :: 27 :: 18 :: 12 :: 24 :: 26 :: 17 :: 11 :: 6 :: 23 :: 25 :: 13 :: 16 :: 10 :: 5 :: 2 :: 20 :: 22 :: 15 :: 7 :: 9 :: 4 :: 1 :: 21 :: 14 :: 8 :: 3 :: 0 :: [], (by decide +kernel), fun S hle hfr => ?_⟩, ?_⟩
       · exact .inl ⟨.inl ⟨rfl, rfl⟩, st_move (hle.ev rfl (by nofun)) (hle.d rfl)⟩
       refine ⟨⟨29 :: 28 :: 19 :: 27 :: 18 :: 12 :: 24 :: 26 :: 17 :: 11 :: 6 :: 23 :: 25 :: 13 :: 16 :: 10 :: 5 :: 2 :: 20 :: 22 :: 15 :: 7 :: 9 :: 4 :: 1 :: 21 :: 14 :: 8 :: 3 :: 0 :: [], (by decide +kernel), fun S hle hfr => ?_⟩, ?_⟩
       · exact .inr ⟨.inr (.inl ⟨_, _, _, _, rfl, rfl, (hle.ev (x := .tmp _) rfl (by nofun)), (by rw [hle.nt]; rfl), (by first | rfl | (rw [rfl]; rfl))⟩), rfl, hle.d rfl⟩
       refine ⟨⟨29 :: 28 :: 19 :: 27 :: 18 :: 12 :: 24 :: 26 :: 17 :: 11 :: 6 :: 23 :: 25 :: 13 :: 16 :: 10 :: 5 :: 2 :: 20 :: 22 :: 15 :: 7 :: 9 :: 4 :: 1 :: 21 :: 14 :: 8 :: 3 :: 0 :: [], (by decide +kernel), fun S hle hfr => ?_⟩, ?_⟩
       · exact .inr ⟨.inr (.inl ⟨_, _, _, _, rfl, rfl, (hle.ev (x := .tmp _) rfl (by nofun)), (by rw [hle.nt]; rfl), (by first | rfl | (rw [rfl]; rfl))⟩), rfl, hle.d rfl⟩
       refine ⟨⟨31 :: 29 :: 28 :: 19 :: 27 :: 18 :: 12 :: 24 :: 26 :: 17 :: 11 :: 6 :: 23 :: 25 :: 13 :: 16 :: 10 :: 5 :: 2 :: 20 :: 22 :: 15 :: 7 :: 9 :: 4 :: 1 :: 21 :: 14 :: 8 :: 3 :: 0 :: [], (by decide +kernel), fun S hle hfr => ?_⟩, ?_⟩
       · exact .inr ⟨.inr (.inl ⟨_, _, _, _, rfl, rfl, (hle.ev (x := .tmp _) rfl (by nofun)), (by rw [hle.nt]; rfl), (by first | rfl | (rw [rfl]; rfl))⟩), rfl, hle.d rfl⟩
       refine ⟨⟨30 :: 32 :: 29 :: 31 :: 28 :: 19 :: 27 :: 18 :: 12 :: 24 :: 26 :: 17 :: 11 :: 6 :: 23 :: 25 :: 13 :: 16 :: 10 :: 5 :: 2 :: 20 :: 22 :: 15 :: 7 :: 9 :: 4 :: 1 :: 21 :: 14 :: 8 :: 3 :: 0 :: [], (by decide +kernel), fun S hle hfr => ?_⟩, ?_⟩
       · exact .inr ⟨.inr (.inl ⟨_, _, _, _, rfl, rfl, (hle.ev (x := .tmp _) rfl (by nofun)), (by rw [hle.nt]; rfl), (by first | rfl | (rw [rfl]; rfl))⟩), rfl, hle.d rfl⟩
       refine ⟨⟨33 :: 29 :: 30 :: 32 :: 28 :: 19 :: 31 :: 27 :: 18 :: 12 :: 24 :: 26 :: 17 :: 11 :: 6 :: 23 :: 25 :: 13 :: 16 :: 10 :: 5 :: 2 :: 20 :: 22 :: 15 :: 7 :: 9 :: 4 :: 1 :: 21 :: 14 :: 8 :: 3 :: 0 :: [], (by decide +kernel), fun S hle hfr => ?_⟩, ?_⟩
       · exact .inr ⟨.inr (.inl ⟨_, _, _, _, rfl, rfl, (hle.ev (x := .tmp _) rfl (by nofun)), (by rw [hle.nt]; rfl), (by first | rfl | (rw [rfl]; rfl))⟩), rfl, hle.d rfl⟩
       refine ⟨⟨29 :: 28 :: 19 :: 27 :: 18 :: 12 :: 24 :: 26 :: 17 :: 11 :: 6 :: 23 :: 25 :: 13 :: 16 :: 10 :: 5 :: 2 :: 20 :: 22 :: 15 :: 7 :: 9 :: 4 :: 1 :: 21 :: 14 :: 8 :: 3 :: 0 :: [], (by decide +kernel), fun S hle hfr => ?_⟩, ?_⟩
       · exact .inr ⟨.inr (.inl ⟨_, _, _, _, rfl, rfl, (hle.ev (x := .tmp _) rfl (by nofun)), (by rw [hle.nt]; rfl), (by first | rfl | (rw [rfl]; rfl))⟩), rfl, hle.d rfl⟩
       refine ⟨⟨29 :: 28 :: 19 :: 27 :: 18 :: 12 :: 24 :: 26 :: 17 :: 11 :: 6 :: 23 :: 25 :: 13 :: 16 :: 10 :: 5 :: 2 :: 20 :: 22 :: 15 :: 7 :: 9 :: 4 :: 1 :: 21 :: 14 :: 8 :: 3 :: 0 :: [], (by decide +kernel), fun S hle hfr => ?_⟩, ?_⟩
       · exact .inr ⟨.inr (.inl ⟨_, _, _, _, rfl, rfl, (hle.ev (x := .tmp _) rfl (by nofun)), (by rw [hle.nt]; rfl), (by first | rfl | (rw [rfl]; rfl))⟩), rfl, hle.d rfl⟩
       refine ⟨⟨35 :: 36 :: 29 :: 28 :: 19 :: 27 :: 18 :: 12 :: 24 :: 26 :: 17 :: 11 :: 6 :: 23 :: 25 :: 13 :: 16 :: 10 :: 5 :: 2 :: 20 :: 22 :: 15 :: 7 :: 9 :: 4 :: 1 :: 21 :: 14 :: 8 :: 3 :: 0 :: [], (by decide +kernel), fun S hle hfr => ?_⟩, ?_⟩
       · exact .inr ⟨.inr (.inl ⟨_, _, _, _, rfl, rfl, (hle.ev (x := .tmp _) rfl (by nofun)), (by rw [hle.nt]; rfl), (by first | rfl | (rw [rfl]; rfl))⟩), rfl, hle.d rfl⟩
       refine ⟨⟨37 :: 29 :: 35 :: 36 :: 28 :: 19 :: 27 :: 18 :: 12 :: 24 :: 26 :: 17 :: 11 :: 6 :: 23 :: 25 :: 13 :: 16 :: 10 :: 5 :: 2 :: 20 :: 22 :: 15 :: 7 :: 9 :: 4 :: 1 :: 21 :: 14 :: 8 :: 3 :: 0 :: [], (by decide +kernel), fun S hle hfr => ?_⟩, ?_⟩
       · exact .inr ⟨.inr (.inl ⟨_, _, _, _, rfl, rfl, (hle.ev (x := .tmp _) rfl (by nofun)), (by rw [hle.nt]; rfl), (by first | rfl | (rw [rfl]; rfl))⟩), rfl, hle.d rfl⟩
       exact trivial
      case hk8x => rfl
      case hf8x => rfl
      refine aops_no rfl rfl rfl rfl rfl (by decide) ?_
      refine aops_step1 rfl (st_pick_no rfl (by first | rfl | exact rfl) rfl rfl) ?_
      refine aops_step1 rfl (st_assign rfl rfl) ?_
      refine aops_nil ?_
      cases Option.some.inj h
      refine aw_ret ⟨rfl, ret_v (.inl ⟨_, rfl, rfl, fun _ e => nomatch e⟩) rfl rfl rfl ?_⟩
      (repeat' (first | exact TLe.refl _ | exact VLe.refl _ | exact CLe.refl _ | exact All2.nil | refine TLe.tup ?_ | refine TLe.v ?_ | refine All2.cons ?_ ?_ | refine VLe.agg ?_ | refine VLe.one ?_ | exact CLe.nil _ | exact CLe.emp _ | refine CLe.val ?_ | refine CLe.slc ?_ ?_))
    replace h := Md.cond_f h q12
    refine aw_seq ?_
    apply aw_draw 39 ((⟨[], .one (.val (.int .i64 x11.2))⟩ : Add) :: ⟨[], .one (.val (.bool (x11.2 == 0)))⟩ :: ⟨[], .one (.val (.bool (x11.2 == 0)))⟩ :: ⟨[], .tup []⟩ :: ⟨[], .tup []⟩ :: ⟨[], .one (.val (.bool false))⟩ :: ⟨[], .one (.val (.bool false))⟩ :: ⟨[], .tup []⟩ :: ⟨[], .tup []⟩ :: ⟨[], .tup []⟩ :: ⟨[], .tup []⟩ :: ⟨[], .one (.val (.bool false))⟩ :: ⟨[], .one (.val (.bool false))⟩ :: ⟨[], .tup []⟩ :: ⟨[], .tup []⟩ :: ⟨[], .tup []⟩ :: ⟨[], .tup []⟩ :: ⟨[], .tup []⟩ :: ⟨[], .one (.val (.bool false))⟩ :: ⟨[], .one (.val (.bool false))⟩ :: ⟨[], .tup []⟩ :: ⟨[], .tup []⟩ :: ⟨[], .tup []⟩ :: ⟨[], .tup []⟩ :: ⟨[], .tup []⟩ :: ⟨[], .tup []⟩ :: ⟨[], .tup []⟩ :: ⟨[], .tup []⟩ :: ⟨[], .one (.val (.bool false))⟩ :: ⟨[], .one (.val (.bool false))⟩ :: ⟨[], .tup []⟩ :: ⟨[], .tup []⟩ :: ⟨[], .tup []⟩ :: ⟨[], .tup []⟩ :: ⟨[], .tup []⟩ :: ⟨[], .tup []⟩ :: ⟨[], .tup []⟩ :: ⟨[], .tup []⟩ :: ⟨[], .tup []⟩ :: []) (by decide) rfl ?hk9x ?hf9x ?ho9x ?hr9x
    case ho9x =>
     refine ⟨⟨[], (by decide +kernel), fun S hle hfr => ?_⟩, ?_⟩
     · exact .inl ⟨.inl ⟨rfl, rfl⟩, st_move (hle.ev rfl (by nofun)) (hle.d rfl)⟩
     refine ⟨⟨0 :: [], (by decide +kernel), fun S hle hfr => ?_⟩, ?_⟩
     · exact .inl ⟨.inl ⟨rfl, rfl⟩, ev_cmp (hle.ev rfl (by nofun)) (hle.ev rfl (by nofun)) (hle.d rfl) rfl⟩
     refine ⟨⟨1 :: 0 :: [], (by decide +kernel), fun S hle hfr => ?_⟩, ?_⟩
     · exact .inl ⟨.inl ⟨rfl, rfl⟩, st_move (hle.ev rfl (by nofun)) (hle.d rfl)⟩
     refine ⟨⟨2 :: 1 :: 0 :: [], (by decide +kernel), fun S hle hfr => ?_⟩, ?_⟩
     · exact .inr ⟨.inr (.inl ⟨_, _, _, _, rfl, rfl, (hle.ev (x := .tmp _) rfl (by nofun)), (by rw [hle.nt]; rfl), (by first | rfl | (rw [q12]; rfl))⟩), rfl, hle.d rfl⟩
     refine ⟨⟨3 :: 2 :: 1 :: 0 :: [], (by decide +kernel), fun S hle hfr => ?_⟩, ?_⟩
     · exact .inr ⟨.inr (.inl ⟨_, _, _, _, rfl, rfl, (hle.ev (x := .tmp _) rfl (by nofun)), (by rw [hle.nt]; rfl), (by first | rfl | (rw [q12]; rfl))⟩), rfl, hle.d rfl⟩
     refine ⟨⟨2 :: 4 :: 1 :: 3 :: 0 :: [], (by decide +kernel), fun S hle hfr => ?_⟩, ?_⟩
     · exact .inl ⟨.inl ⟨rfl, rfl⟩, st_pick_no (hle.ev rfl (by nofun)) (by first | rfl | exact q12) (hle.ev rfl (by nofun)) (hle.d rfl)⟩
     refine ⟨⟨5 :: 2 :: 4 :: 1 :: 3 :: 0 :: [], (by decide +kernel), fun S hle hfr => ?_⟩, ?_⟩
     · exact .inl ⟨.inl ⟨rfl, rfl⟩, st_move (hle.ev rfl (by nofun)) (hle.d rfl)⟩
     refine ⟨⟨6 :: 5 :: 2 :: 4 :: 1 :: 3 :: 0 :: [], (by decide +kernel), fun S hle hfr => ?_⟩, ?_⟩
     · exact .inr ⟨.inr (.inl ⟨_, _, _, _, rfl, rfl, (hle.ev (x := .tmp _) rfl (by nofun)), (by rw [hle.nt]; rfl), (by first | rfl | (rw [rfl]; rfl))⟩), rfl, hle.d rfl⟩
     refine ⟨⟨6 :: 5 :: 2 :: 4 :: 1 :: 3 :: 0 :: [], (by decide +kernel), fun S hle hfr => ?_⟩, ?_⟩
     · exact .inr ⟨.inr (.inl ⟨_, _, _, _, rfl, rfl, (hle.ev (x := .tmp _) rfl (by nofun)), (by rw [hle.nt]; rfl), (by first | rfl | (rw [rfl]; rfl))⟩), rfl, hle.d rfl⟩
     refine ⟨⟨8 :: 6 :: 5 :: 2 :: 4 :: 1 :: 3 :: 0 :: [], (by decide +kernel), fun S hle hfr => ?_⟩, ?_⟩
     · exact .inr ⟨.inr (.inl ⟨_, _, _, _, rfl, rfl, (hle.ev (x := .tmp _) rfl (by nofun)), (by rw [hle.nt]; rfl), (by first | rfl | (rw [rfl]; rfl))⟩), rfl, hle.d rfl⟩
     refine ⟨⟨7 :: 9 :: 6 :: 8 :: 5 :: 2 :: 4 :: 1 :: 3 :: 0 :: [], (by decide +kernel), fun S hle hfr => ?_⟩, ?_⟩
     · exact .inr ⟨.inr (.inl ⟨_, _, _, _, rfl, rfl, (hle.ev (x := .tmp _) rfl (by nofun)), (by rw [hle.nt]; rfl), (by first | rfl | (rw [rfl]; rfl))⟩), rfl, hle.d rfl⟩
     refine ⟨⟨6 :: 10 :: 5 :: 2 :: 7 :: 9 :: 4 :: 1 :: 8 :: 3 :: 0 :: [], (by decide +kernel), fun S hle hfr => ?_⟩, ?_⟩
     · exact .inl ⟨.inl ⟨rfl, rfl⟩, st_pick_no (hle.ev rfl (by nofun)) (by first | rfl | exact rfl) (hle.ev rfl (by nofun)) (hle.d rfl)⟩
     refine ⟨⟨11 :: 6 :: 10 :: 5 :: 2 :: 7 :: 9 :: 4 :: 1 :: 8 :: 3 :: 0 :: [], (by decide +kernel), fun S hle hfr => ?_⟩, ?_⟩
     · exact .inl ⟨.inl ⟨rfl, rfl⟩, st_move (hle.ev rfl (by nofun)) (hle.d rfl)⟩
     refine ⟨⟨12 :: 11 :: 6 :: 10 :: 5 :: 2 :: 7 :: 9 :: 4 :: 1 :: 8 :: 3 :: 0 :: [], (by decide +kernel), fun S hle hfr => ?_⟩, ?_⟩
     · exact .inr ⟨.inr (.inl ⟨_, _, _, _, rfl, rfl, (hle.ev (x := .tmp _) rfl (by nofun)), (by rw [hle.nt]; rfl), (by first | rfl | (rw [rfl]; rfl))⟩), rfl, hle.d rfl⟩
     refine ⟨⟨12 :: 11 :: 6 :: 10 :: 5 :: 2 :: 7 :: 9 :: 4 :: 1 :: 8 :: 3 :: 0 :: [], (by decide +kernel), fun S hle hfr => ?_⟩, ?_⟩
     · exact .inr ⟨.inr (.inl ⟨_, _, _, _, rfl, rfl, (hle.ev (x := .tmp _) rfl (by nofun)), (by rw [hle.nt]; rfl), (by first | rfl | (rw [rfl]; rfl))⟩), rfl, hle.d rfl⟩
     refine ⟨⟨14 :: 12 :: 11 :: 6 :: 10 :: 5 :: 2 :: 7 :: 9 :: 4 :: 1 :: 8 :: 3 :: 0 :: [], (by decide +kernel), fun S hle hfr => ?_⟩, ?_⟩
     · exact .inr ⟨.inr (.inl ⟨_, _, _, _, rfl, rfl, (hle.ev (x := .tmp _) rfl (by nofun)), (by rw [hle.nt]; rfl), (by first | rfl | (rw [rfl]; rfl))⟩), rfl, hle.d rfl⟩
     refine ⟨⟨15 :: 12 :: 14 :: 11 :: 6 :: 10 :: 5 :: 2 :: 7 :: 9 :: 4 :: 1 :: 8 :: 3 :: 0 :: [], (by decide +kernel), fun S hle hfr => ?_⟩, ?_⟩
     · exact .inr ⟨.inr (.inl ⟨_, _, _, _, rfl, rfl, (hle.ev (x := .tmp _) rfl (by nofun)), (by rw [hle.nt]; rfl), (by first | rfl | (rw [rfl]; rfl))⟩), rfl, hle.d rfl⟩
     refine ⟨⟨13 :: 16 :: 12 :: 15 :: 11 :: 6 :: 14 :: 10 :: 5 :: 2 :: 7 :: 9 :: 4 :: 1 :: 8 :: 3 :: 0 :: [], (by decide +kernel), fun S hle hfr => ?_⟩, ?_⟩
     · exact .inr ⟨.inr (.inl ⟨_, _, _, _, rfl, rfl, (hle.ev (x := .tmp _) rfl (by nofun)), (by rw [hle.nt]; rfl), (by first | rfl | (rw [rfl]; rfl))⟩), rfl, hle.d rfl⟩
     refine ⟨⟨12 :: 17 :: 11 :: 6 :: 13 :: 16 :: 10 :: 5 :: 2 :: 15 :: 7 :: 9 :: 4 :: 1 :: 14 :: 8 :: 3 :: 0 :: [], (by decide +kernel), fun S hle hfr => ?_⟩, ?_⟩
     · exact .inl ⟨.inl ⟨rfl, rfl⟩, st_pick_no (hle.ev rfl (by nofun)) (by first | rfl | exact rfl) (hle.ev rfl (by nofun)) (hle.d rfl)⟩
     refine ⟨⟨18 :: 12 :: 17 :: 11 :: 6 :: 13 :: 16 :: 10 :: 5 :: 2 :: 15 :: 7 :: 9 :: 4 :: 1 :: 14 :: 8 :: 3 :: 0 :: [], (by decide +kernel), fun S hle hfr => ?_⟩, ?_⟩
     · exact .inl ⟨.inl ⟨rfl, rfl⟩, st_move (hle.ev rfl (by nofun)) (hle.d rfl)⟩
     refine ⟨⟨19 :: 18 :: 12 :: 17 :: 11 :: 6 :: 13 :: 16 :: 10 :: 5 :: 2 :: 15 :: 7 :: 9 :: 4 :: 1 :: 14 :: 8 :: 3 :: 0 :: [], (by decide +kernel), fun S hle hfr => ?_⟩, ?_⟩
     · exact .inr ⟨.inr (.inl ⟨_, _, _, _, rfl, rfl, (hle.ev (x := .tmp _) rfl (by nofun)), (by rw [hle.nt]; rfl), (by first | rfl | (rw [rfl]; rfl))⟩), rfl, hle.d rfl⟩
     refine ⟨⟨19 :: 18 :: 12 :: 17 :: 11 :: 6 :: 13 :: 16 :: 10 :: 5 :: 2 :: 15 :: 7 :: 9 :: 4 :: 1 :: 14 :: 8 :: 3 :: 0 :: [], (by decide +kernel), fun S hle hfr => ?_⟩, ?_⟩
     · exact .inr ⟨.inr (.inl ⟨_, _, _, _, rfl, rfl, (hle.ev (x := .tmp _) rfl (by nofun)), (by rw [hle.nt]; rfl), (by first | rfl | (rw [rfl]; rfl))⟩), rfl, hle.d rfl⟩
     refine ⟨⟨21 :: 19 :: 18 :: 12 :: 17 :: 11 :: 6 :: 13 :: 16 :: 10 :: 5 :: 2 :: 15 :: 7 :: 9 :: 4 :: 1 :: 14 :: 8 :: 3 :: 0 :: [], (by decide +kernel), fun S hle hfr => ?_⟩, ?_⟩
     · exact .inr ⟨.inr (.inl ⟨_, _, _, _, rfl, rfl, (hle.ev (x := .tmp _) rfl (by nofun)), (by rw [hle.nt]; rfl), (by first | rfl | (rw [rfl]; rfl))⟩), rfl, hle.d rfl⟩
     refine ⟨⟨20 :: 22 :: 19 :: 21 :: 18 :: 12 :: 17 :: 11 :: 6 :: 13 :: 16 :: 10 :: 5 :: 2 :: 15 :: 7 :: 9 :: 4 :: 1 :: 14 :: 8 :: 3 :: 0 :: [], (by decide +kernel), fun S hle hfr => ?_⟩, ?_⟩
     · exact .inr ⟨.inr (.inl ⟨_, _, _, _, rfl, rfl, (hle.ev (x := .tmp _) rfl (by nofun)), (by rw [hle.nt]; rfl), (by first | rfl | (rw [rfl]; rfl))⟩), rfl, hle.d rfl⟩
     refine ⟨⟨23 :: 19 :: 20 :: 22 :: 18 :: 12 :: 21 :: 17 :: 11 :: 6 :: 13 :: 16 :: 10 :: 5 :: 2 :: 15 :: 7 :: 9 :: 4 :: 1 :: 14 :: 8 :: 3 :: 0 :: [], (by decide +kernel), fun S hle hfr => ?_⟩, ?_⟩
     · exact .inr ⟨.inr (.inl ⟨_, _, _, _, rfl, rfl, (hle.ev (x := .tmp _) rfl (by nofun)), (by rw [hle.nt]; rfl), (by first | rfl | (rw [rfl]; rfl))⟩), rfl, hle.d rfl⟩
     refine ⟨⟨19 :: 18 :: 12 :: 17 :: 11 :: 6 :: 13 :: 16 :: 10 :: 5 :: 2 :: 15 :: 7 :: 9 :: 4 :: 1 :: 14 :: 8 :: 3 :: 0 :: [], (by decide +kernel), fun S hle hfr => ?_⟩, ?_⟩
     · exact .inr ⟨.inr (.inl ⟨_, _, _, _, rfl, rfl, (hle.ev (x := .tmp _) rfl (by nofun)), (by rw [hle.nt]; rfl), (by first | rfl | (rw [rfl]; rfl))⟩), rfl, hle.d rfl⟩
     refine ⟨⟨25 :: 19 :: 18 :: 12 :: 17 :: 11 :: 6 :: 13 :: 16 :: 10 :: 5 :: 2 :: 15 :: 7 :: 9 :: 4 :: 1 :: 14 :: 8 :: 3 :: 0 :: [], (by decide +kernel), fun S hle hfr => ?_⟩, ?_⟩
     · exact .inr ⟨.inr (.inl ⟨_, _, _, _, rfl, rfl, (hle.ev (x := .tmp _) rfl (by nofun)), (by rw [hle.nt]; rfl), (by first | rfl | (rw [rfl]; rfl))⟩), rfl, hle.d rfl⟩
     refine ⟨⟨24 :: 26 :: 19 :: 23 :: 25 :: 18 :: 12 :: 20 :: 22 :: 17 :: 11 :: 6 :: 21 :: 13 :: 16 :: 10 :: 5 :: 2 :: 15 :: 7 :: 9 :: 4 :: 1 :: 14 :: 8 :: 3 :: 0 :: [], (by decide +kernel), fun S hle hfr => ?_⟩, ?_⟩
     · exact .inr ⟨.inr (.inl ⟨_, _, _, _, rfl, rfl, (hle.ev (x := .tmp _) rfl (by nofun)), (by rw [hle.nt]; rfl), (by first | rfl | (rw [rfl]; rfl))⟩), rfl, hle.d rfl⟩
     refine ⟨⟨19 :: 27 :: 18 :: 12 :: 24 :: 26 :: 17 :: 11 :: 6 :: 23 :: 25 :: 13 :: 16 :: 10 :: 5 :: 2 :: 20 :: 22 :: 15 :: 7 :: 9 :: 4 :: 1 :: 21 :: 14 :: 8 :: 3 :: 0 :: [], (by decide +kernel), fun S hle hfr => ?_⟩, ?_⟩
     · exact .inl ⟨.inl ⟨rfl, rfl⟩, st_pick_no (hle.ev rfl (by nofun)) (by first | rfl | exact rfl) (hle.ev rfl (by nofun)) (hle.d rfl)⟩
     refine ⟨⟨28 :: 19 :: 27 :: 18 :: 12 :: 24 :: 26 :: 17 :: 11 :: 6 :: 23 :: 25 :: 13 :: 16 :: 10 :: 5 :: 2 :: 20 :: 22 :: 15 :: 7 :: 9 :: 4 :: 1 :: 21 :: 14 :: 8 :: 3 :: 0 :: [], (by decide +kernel), fun S hle hfr => ?_⟩, ?_⟩
     · exact .inl ⟨.inl ⟨rfl, rfl⟩, st_move (hle.ev rfl (by nofun)) (hle.d rfl)⟩
     refine ⟨⟨29 :: 28 :: 19 :: 27 :: 18 :: 12 :: 24 :: 26 :: 17 :: 11 :: 6 :: 23 :: 25 :: 13 :: 16 :: 10 :: 5 :: 2 :: 20 :: 22 :: 15 :: 7 :: 9 :: 4 :: 1 :: 21 :: 14 :: 8 :: 3 :: 0 :: [], (by decide +kernel), fun S hle hfr => ?_⟩, ?_⟩
     · exact .inr ⟨.inr (.inl ⟨_, _, _, _, rfl, rfl, (hle.ev (x := .tmp _) rfl (by nofun)), (by rw [hle.nt]; rfl), (by first | rfl | (rw [rfl]; rfl))⟩), rfl, hle.d rfl⟩
     refine ⟨⟨29 :: 28 :: 19 :: 27 :: 18 :: 12 :: 24 :: 26 :: 17 :: 11 :: 6 :: 23 :: 25 :: 13 :: 16 :: 10 :: 5 :: 2 :: 20 :: 22 :: 15 :: 7 :: 9 :: 4 :: 1 :: 21 :: 14 :: 8 :: 3 :: 0 :: [], (by decide +kernel), fun S hle hfr => ?_⟩, ?_⟩
     · exact .inr ⟨.inr (.inl ⟨_, _, _, _, rfl, rfl, (hle.ev (x := .tmp _) rfl (by nofun)), (by rw [hle.nt]; rfl), (by first | rfl | (rw [rfl]; rfl))⟩), rfl, hle.d rfl⟩
     refine ⟨⟨31 :: 29 :: 28 :: 19 :: 27 :: 18 :: 12 :: 24 :: 26 :: 17 :: 11 :: 6 :: 23 :: 25 :: 13 :: 16 :: 10 :: 5 :: 2 :: 20 :: 22 :: 15 :: 7 :: 9 :: 4 :: 1 :: 21 :: 14 :: 8 :: 3 :: 0 :: [], (by decide +kernel), fun S hle hfr => ?_⟩, ?_⟩
     · exact .inr ⟨.inr (.inl ⟨_, _, _, _, rfl, rfl, (hle.ev (x := .tmp _) rfl (by nofun)), (by rw [hle.nt]; rfl), (by first | rfl | (rw [rfl]; rfl))⟩), rfl, hle.d rfl⟩
     refine ⟨⟨30 :: 32 :: 29 :: 31 :: 28 :: 19 :: 27 :: 18 :: 12 :: 24 :: 26 :: 17 :: 11 :: 6 :: 23 :: 25 :: 13 :: 16 :: 10 :: 5 :: 2 :: 20 :: 22 :: 15 :: 7 :: 9 :: 4 :: 1 :: 21 :: 14 :: 8 :: 3 :: 0 :: [], (by decide +kernel), fun S hle hfr => ?_⟩, ?_⟩
     · exact .inr ⟨.inr (.inl ⟨_, _, _, _, rfl, rfl, (hle.ev (x := .tmp _) rfl (by nofun)), (by rw [hle.nt]; rfl), (by first | rfl | (rw [rfl]; rfl))⟩), rfl, hle.d rfl⟩
     refine ⟨⟨33 :: 29 :: 30 :: 32 :: 28 :: 19 :: 31 :: 27 :: 18 :: 12 :: 24 :: 26 :: 17 :: 11 :: 6 :: 23 :: 25 :: 13 :: 16 :: 10 :: 5 :: 2 :: 20 :: 22 :: 15 :: 7 :: 9 :: 4 :: 1 :: 21 :: 14 :: 8 :: 3 :: 0 :: [], (by decide +kernel), fun S hle hfr => ?_⟩, ?_⟩
     · exact .inr ⟨.inr (.inl ⟨_, _, _, _, rfl, rfl, (hle.ev (x := .tmp _) rfl (by nofun)), (by rw [hle.nt]; rfl), (by first | rfl | (rw [rfl]; rfl))⟩), rfl, hle.d rfl⟩
     refine ⟨⟨29 :: 28 :: 19 :: 27 :: 18 :: 12 :: 24 :: 26 :: 17 :: 11 :: 6 :: 23 :: 25 :: 13 :: 16 :: 10 :: 5 :: 2 :: 20 :: 22 :: 15 :: 7 :: 9 :: 4 :: 1 :: 21 :: 14 :: 8 :: 3 :: 0 :: [], (by decide +kernel), fun S hle hfr => ?_⟩, ?_⟩
     · exact .inr ⟨.inr (.inl ⟨_, _, _, _, rfl, rfl, (hle.ev (x := .tmp _) rfl (by nofun)), (by rw [hle.nt]; rfl), (by first | rfl | (rw [rfl]; rfl))⟩), rfl, hle.d rfl⟩
     refine ⟨⟨29 :: 28 :: 19 :: 27 :: 18 :: 12 :: 24 :: 26 :: 17 :: 11 :: 6 :: 23 :: 25 :: 13 :: 16 :: 10 :: 5 :: 2 :: 20 :: 22 :: 15 :: 7 :: 9 :: 4 :: 1 :: 21 :: 14 :: 8 :: 3 :: 0 :: [], (by decide +kernel), fun S hle hfr => ?_⟩, ?_⟩
     · exact .inr ⟨.inr (.inl ⟨_, _, _, _, rfl, rfl, (hle.ev (x := .tmp _) rfl (by nofun)), (by rw [hle.nt]; rfl), (by first | rfl | (rw [rfl]; rfl))⟩), rfl, hle.d rfl⟩
     refine ⟨⟨35 :: 36 :: 29 :: 28 :: 19 :: 27 :: 18 :: 12 :: 24 :: 26 :: 17 :: 11 :: 6 :: 23 :: 25 :: 13 :: 16 :: 10 :: 5 :: 2 :: 20 :: 22 :: 15 :: 7 :: 9 :: 4 :: 1 :: 21 :: 14 :: 8 :: 3 :: 0 :: [], (by decide +kernel), fun S hle hfr => ?_⟩, ?_⟩
     · exact .inr ⟨.inr (.inl ⟨_, _, _, _, rfl, rfl, (hle.ev (x := .tmp _) rfl (by nofun)), (by rw [hle.nt]; rfl), (by first | rfl | (rw [rfl]; rfl))⟩), rfl, hle.d rfl⟩
     refine ⟨⟨37 :: 29 :: 35 :: 36 :: 28 :: 19 :: 27 :: 18 :: 12 :: 24 :: 26 :: 17 :: 11 :: 6 :: 23 :: 25 :: 13 :: 16 :: 10 :: 5 :: 2 :: 20 :: 22 :: 15 :: 7 :: 9 :: 4 :: 1 :: 21 :: 14 :: 8 :: 3 :: 0 :: [], (by decide +kernel), fun S hle hfr => ?_⟩, ?_⟩
     · exact .inr ⟨.inr (.inl ⟨_, _, _, _, rfl, rfl, (hle.ev (x := .tmp _) rfl (by nofun)), (by rw [hle.nt]; rfl), (by first | rfl | (rw [rfl]; rfl))⟩), rfl, hle.d rfl⟩
     exact trivial
    case hk9x => rfl
    case hf9x => rfl
    refine aops_no rfl rfl rfl rfl rfl (by decide) ?_
    refine aops_step1 rfl (st_pick_no rfl (by first | rfl | exact rfl) rfl rfl) ?_
    refine aops_step1 rfl (st_assign rfl rfl) ?_
    refine aops_nil ?_
    cases Option.some.inj h
    refine aw_ret ⟨rfl, ret_v (.inl ⟨_, rfl, rfl, fun _ e => nomatch e⟩) rfl rfl rfl ?_⟩
    (repeat' (first | exact TLe.refl _ | exact VLe.refl _ | exact CLe.refl _ | exact All2.nil | refine TLe.tup ?_ | refine TLe.v ?_ | refine All2.cons ?_ ?_ | refine VLe.agg ?_ | refine VLe.one ?_ | exact CLe.nil _ | exact CLe.emp _ | refine CLe.val ?_ | refine CLe.slc ?_ ?_))
  intro p8
  obtain ⟨⟨n8, s8_0, s8_1, s8_2⟩, l8⟩ := p8
  change AW _ _ (⟨132, [], [(0, .one (CV.ls c_LU8 a0)), (2, .one (.val (.int .u8 (a2.toNat : Int)))), (7, .one (.ptr 0 0)), (9, .one (.own 1)), (10, .one (.val (.slice none 0 0))), (11, .one (.val (.int .i64 ((s8_0 : Nat) : Int))))], [(0, some (.box [CV.ls byC s8_1.Data, .val (.int .i64 s8_1.Capacity), .val (.bool s8_1.Armed), .val (.int .i64 s8_1.Writes), .val (.int .i64 s8_1.Keep), .val (.bool s8_1.Down)])), (1, some (.row 5 1 s8_2.length (lsEl byC s8_2)))]⟩ : ASt) _
  replace l8 : actorgridlaw26_DiskTorn_loop1 k a0 n8 s8_0 s8_1 s8_2 = some o8 := l8
  rcases n8 with _ | n8
  · exact absurd (show none = some o8 from l8) nofun
  rw [actorgridlaw26_DiskTorn_loop1] at l8
  refine aw_seq ?_
  refine aw_seq ?_
  refine aw_region ?_
  refine aops_step1 rfl (st_move rfl rfl) ?_
  refine aops_step1 rfl (st_move rfl rfl) ?_
  refine aops_step1 rfl (ev_len_slc rfl rfl) ?_
  refine aops_step1 rfl (ev_cmp rfl rfl rfl rfl) ?_
  refine aops_nil ?_
  refine aw_cond rfl (fun c21 => ?_) (fun c21 => ?_)
  · replace l8 := Md.cond_t l8 c21
    refine aw_skip ?_
    refine aw_seq ?_
    refine aw_block ?_
    refine aw_seq ?_
    obtain ⟨g22, l8⟩ := Md.ifp_s l8
    refine aw_seq ?_
    refine aw_region ?_
    refine aops_step1 rfl (st_move rfl rfl) ?_
    refine aops_step1 rfl (st_move rfl rfl) ?_
    refine aops_step1 rfl (ev_index_in rfl rfl rfl g22 rfl rfl) ?_
    refine aops_step1 rfl (ev_load_in rfl rfl rfl) ?_
    refine aops_step1 rfl (ev_len_slc rfl rfl) ?_
    refine aops_step1 rfl (ev_cmp rfl rfl rfl rfl) ?_
    refine aops_nil ?_
    refine aw_cond rfl (fun c23 => ?_) (fun c23 => ?_)
    · replace l8 := Md.cond_t l8 c23
      refine aw_seq ?_
      refine aw_region ?_
      refine aops_step1 rfl (st_assign rfl rfl) ?_
      refine aops_nil ?_
      cases Option.some.inj l8
      replace h := Md.onS_r h
      cases Option.some.inj h
      refine aw_ret ⟨rfl, ret_v (.inl ⟨_, rfl, rfl, fun _ e => nomatch e⟩) rfl rfl rfl ?_⟩
      (repeat' (first | exact TLe.refl _ | exact VLe.refl _ | exact CLe.refl _ | exact All2.nil | refine TLe.tup ?_ | refine TLe.v ?_ | refine All2.cons ?_ ?_ | refine VLe.agg ?_ | refine VLe.one ?_ | exact CLe.nil _ | exact CLe.emp _ | refine CLe.val ?_ | refine CLe.slc ?_ ?_))
    replace l8 := Md.cond_f l8 c23
    refine aw_skip ?_
    obtain ⟨g24, l8⟩ := Md.ifp_s l8
    obtain ⟨x25, hx25, l8⟩ := Md.bind_s l8
    refine aw_seq_mid (⟨132, [], [(0, .one (CV.ls c_LU8 a0)), (2, .one (.val (.int .u8 (a2.toNat : Int)))), (7, .one (.ptr 0 0)), (9, .one (.own 1)), (10, .one (.val (.slice none 0 0))), (11, .one (.val (.int .i64 ((s8_0 : Nat) : Int)))), (12, .one (.ptr 2 0)), (13, .one (.val (.int .i64 x25.2)))], [(0, some (.box [CV.ls byC s8_1.Data, .val (.int .i64 s8_1.Capacity), .val (.bool s8_1.Armed), .val (.int .i64 s8_1.Writes), .val (.int .i64 s8_1.Keep), .val (.bool s8_1.Down)])), (1, some (.row 5 1 s8_2.length (lsEl byC s8_2))), (2, some (.box [CV.ls byC x25.1.Data, .val (.int .i64 x25.1.Capacity), .val (.bool x25.1.Armed), .val (.int .i64 x25.1.Writes), .val (.int .i64 x25.1.Keep), .val (.bool x25.1.Down)]))]⟩ : ASt) ?_ ?_
    ·
      apply aw_late 10 8 ((⟨[], .agg [CV.ls byC s8_1.Data, .val (.int .i64 s8_1.Capacity), .val (.bool s8_1.Armed), .val (.int .i64 s8_1.Writes), .val (.int .i64 s8_1.Keep), .val (.bool s8_1.Down)]⟩ : Add) :: ⟨[], .one (CV.ls c_LU8 a0)⟩ :: ⟨[], .one (.val (.int .i64 ((s8_0 : Nat) : Int)))⟩ :: ⟨[], .one (.cptr _)⟩ :: ⟨[], .one (CV.ls byC (a0.getD s8_0 default))⟩ :: ⟨[], .tup [.agg [CV.ls byC x25.1.Data, .val (.int .i64 x25.1.Capacity), .val (.bool x25.1.Armed), .val (.int .i64 x25.1.Writes), .val (.int .i64 x25.1.Keep), .val (.bool x25.1.Down)], .one (.val (.int .i64 x25.2))]⟩ :: ⟨[], .tup [.agg [CV.ls byC x25.1.Data, .val (.int .i64 x25.1.Capacity), .val (.bool x25.1.Armed), .val (.int .i64 x25.1.Writes), .val (.int .i64 x25.1.Keep), .val (.bool x25.1.Down)], .one (.val (.int .i64 x25.2))]⟩ :: ⟨[], .agg [CV.ls byC x25.1.Data, .val (.int .i64 x25.1.Capacity), .val (.bool x25.1.Armed), .val (.int .i64 x25.1.Writes), .val (.int .i64 x25.1.Keep), .val (.bool x25.1.Down)]⟩ :: ⟨[], .one (.val (.int .i64 x25.2))⟩ :: ⟨[(2, some (.box [.val (.slice none 0 0), .val (.int .i64 0), .val (.bool false), .val (.int .i64 0), .val (.int .i64 0), .val (.bool false)]))], .one (.ptr 2 _)⟩ :: []) (by decide) (by decide) rfl rfl rfl ?hk10x ?hf10x ?ho10x ?hr10x ?hl10x
      case ho10x =>
       refine ⟨⟨[], (by decide +kernel), fun S hle hfr => ?_⟩, ?_⟩
       · exact .inl ⟨.inl ⟨rfl, rfl⟩, ev_loads (ds := [_, _, _, _, _, _]) (hle.ev rfl (by nofun)) (hle.heap _ _ rfl) rfl rfl (hle.d rfl)⟩
       refine ⟨⟨[], (by decide +kernel), fun S hle hfr => ?_⟩, ?_⟩
       · exact .inl ⟨.inl ⟨rfl, rfl⟩, st_move (hle.ev rfl (by nofun)) (hle.d rfl)⟩
       refine ⟨⟨[], (by decide +kernel), fun S hle hfr => ?_⟩, ?_⟩
       · exact .inl ⟨.inl ⟨rfl, rfl⟩, st_move (hle.ev rfl (by nofun)) (hle.d rfl)⟩
       refine ⟨⟨1 :: 2 :: [], (by decide +kernel), fun S hle hfr => ?_⟩, ?_⟩
       · exact .inl ⟨.inl ⟨rfl, rfl⟩, ev_index_in (hle.ev rfl (by nofun)) (hle.ev rfl (by nofun)) rfl g24 rfl (hle.d rfl)⟩
       refine ⟨⟨3 :: 1 :: 2 :: [], (by decide +kernel), fun S hle hfr => ?_⟩, ?_⟩
       · exact .inl ⟨.inl ⟨rfl, rfl⟩, ev_load_in (hle.ev rfl (by nofun)) rfl (hle.d rfl)⟩
       refine ⟨⟨0 :: 4 :: 3 :: 1 :: 2 :: [], (by decide +kernel), fun S hle hfr => ?_⟩, ?_⟩
       · exact .inl ⟨.inl ⟨rfl, rfl⟩, ev_call_v (disk_Append_fn k s8_1 (a0.getD s8_0 default) x25 hx25) (map_ev (.cons (hle.ev rfl (by nofun)) (.cons (hle.ev rfl (by nofun)) (.nil)))) [] (by repeat' (first | exact All2.nil | refine All2.cons ?_ ?_ | refine ArgV.one ?_ | refine ArgV.agg ?_ | exact ArgC.mk rfl | exact ArgC.lend (hle.heap _ _ rfl) (by simp) | exact ArgC.le (CLe.nil _) rfl | exact ArgC.le (CLe.emp _) rfl | exact ArgC.le (CLe.any _) rfl)) rfl rfl rfl (.inl rfl) (hle.d rfl)⟩
       refine ⟨⟨5 :: 0 :: 4 :: 3 :: 1 :: 2 :: [], (by decide +kernel), fun S hle hfr => ?_⟩, ?_⟩
       · exact .inl ⟨.inl ⟨rfl, rfl⟩, st_movet (hle.ev rfl (by nofun)) (hle.d rfl)⟩
       refine ⟨⟨6 :: 5 :: 0 :: 4 :: 3 :: 1 :: 2 :: [], (by decide +kernel), fun S hle hfr => ?_⟩, ?_⟩
       · exact .inl ⟨.inl ⟨rfl, rfl⟩, ev_extract (hle.ev rfl (by nofun)) rfl (hle.d rfl)⟩
       refine ⟨⟨6 :: 5 :: 0 :: 4 :: 3 :: 1 :: 2 :: [], (by decide +kernel), fun S hle hfr => ?_⟩, ?_⟩
       · exact .inl ⟨.inl ⟨rfl, rfl⟩, ev_extract (hle.ev rfl (by nofun)) rfl (hle.d rfl)⟩
       refine ⟨⟨[], (by decide +kernel), fun S hle hfr => ?_⟩, ?_⟩
       · exact .inl ⟨.inl ⟨rfl, rfl⟩, st_alloc (cs := [.val (.slice none 0 0), .val (.int .i64 0), .val (.bool false), .val (.int .i64 0), .val (.int .i64 0), .val (.bool false)]) 2 (hfr _ (List.mem_singleton.2 rfl)) rfl rfl rfl (hle.d rfl)⟩
       exact trivial
      case hk10x => rfl
      case hf10x => rfl
      case hr10x =>
       refine aops_step1 rfl (st_store (cs' := [_, _, _, _, _, _]) rfl rfl rfl rfl rfl rfl rfl rfl rfl) ?_
       refine aops_step1 rfl (st_assign rfl rfl) ?_
       refine aops_nil ?_
       show Weak _ _
       (refine weak_mk rfl rfl ?_ ?_ rfl <;> repeat' (first | exact trivial | refine ⟨?_, ?_⟩ | exact VLe.refl _ | exact BLe.refl _ | refine VLe.one (CLe.val ?_) | exact VLe.one (CLe.nil _) | exact VLe.one (CLe.emp _)))
      case hl10x =>
       refine aops_step1 rfl (st_store (cs' := [_, _, _, _, _, _]) rfl rfl rfl rfl rfl rfl rfl rfl rfl) ?_
       refine aops_step1 rfl (ev_extract rfl rfl rfl) ?_
       refine aops_step1 rfl (st_assign rfl rfl) ?_
       refine aops_nil ?_
       show Weak _ _
       (refine weak_mk rfl rfl ?_ ?_ rfl <;> repeat' (first | exact trivial | refine ⟨?_, ?_⟩ | exact VLe.refl _ | exact BLe.refl _ | refine VLe.one (CLe.val ?_) | exact VLe.one (CLe.nil _) | exact VLe.one (CLe.emp _)))
    refine aw_seq ?_
    refine aw_region ?_
    refine aops_step1 rfl (ev_loads (ds := [_, _, _, _, _, _]) rfl rfl rfl rfl rfl) ?_
    refine aops_step1 rfl (st_store (cs' := [_, _, _, _, _, _]) rfl rfl rfl rfl rfl rfl rfl rfl rfl) ?_
    refine aops_nil ?_
    refine aw_seq ?_
    refine aw_seq ?_
    refine aw_region ?_
    refine aops_step1 rfl (st_move rfl rfl) ?_
    refine aops_step1 rfl (ev_cmp rfl rfl rfl rfl) ?_
    refine aops_nil ?_
    refine aw_cond rfl (fun c26 => ?_) (fun c26 => ?_)
    · replace l8 := Md.cond_t l8 c26
      obtain ⟨g27, l8⟩ := Md.ifp_s l8
      refine aw_seq ?_
      refine aw_region ?_
      refine aops_step1 rfl (st_move rfl rfl) ?_
      refine aops_step1 rfl (st_move rfl rfl) ?_
      refine aops_step1 rfl (ev_index_in rfl rfl rfl g27 rfl rfl) ?_
      refine aops_step1 rfl (ev_load_in rfl rfl rfl) ?_
      refine aops_step1 rfl (st_assign rfl rfl) ?_
      refine aops_nil ?_
      refine aw_exit ?_
      show ∃ _x : (List UInt8) × Disk × (List UInt8), _ = _ ∧ Weak _ _
      exact ⟨((a0.getD s8_0 default), x25.1, s8_2), (Option.some.inj l8).symm, (by (refine weak_mk rfl rfl ?_ ?_ rfl <;> repeat' (first | exact trivial | refine ⟨?_, ?_⟩ | exact VLe.refl _ | exact BLe.refl _ | refine VLe.one (CLe.val ?_) | exact VLe.one (CLe.nil _) | exact VLe.one (CLe.emp _))))⟩
    replace l8 := Md.cond_f l8 c26
    refine aw_skip ?_
    refine aw_seq ?_
    refine aw_seq ?_
    refine aw_region ?_
    refine aops_step1 rfl (st_move rfl rfl) ?_
    refine aops_step1 rfl (ev_cmp rfl rfl rfl rfl) ?_
    refine aops_nil ?_
    refine aw_cond rfl (fun c28 => ?_) (fun c28 => ?_)
    · replace l8 := Md.cond_t l8 c28
      refine aw_seq ?_
      refine aw_region ?_
      refine aops_step1 rfl (st_assign rfl rfl) ?_
      refine aops_nil ?_
      cases Option.some.inj l8
      replace h := Md.onS_r h
      cases Option.some.inj h
      refine aw_ret ⟨rfl, ret_v (.inl ⟨_, rfl, rfl, fun _ e => nomatch e⟩) rfl rfl rfl ?_⟩
      (repeat' (first | exact TLe.refl _ | exact VLe.refl _ | exact CLe.refl _ | exact All2.nil | refine TLe.tup ?_ | refine TLe.v ?_ | refine All2.cons ?_ ?_ | refine VLe.agg ?_ | refine VLe.one ?_ | exact CLe.nil _ | exact CLe.emp _ | refine CLe.val ?_ | refine CLe.slc ?_ ?_))
    replace l8 := Md.cond_f l8 c28
    refine aw_skip ?_
    obtain ⟨g29, l8⟩ := Md.ifp_s l8
    obtain ⟨g30, l8⟩ := Md.ifp_s l8
    refine aw_region ?_
    refine aops_step1 rfl (st_move rfl rfl) ?_
    refine aops_step1 rfl (st_move rfl rfl) ?_
    refine aops_step1 rfl (st_move rfl rfl) ?_
    refine aops_step1 rfl (ev_index_in rfl rfl rfl g29 rfl rfl) ?_
    refine aops_step1 rfl (ev_load_in rfl rfl rfl) ?_
    refine aops_step1 rfl (st_app_ls (f := byC) s8_2 (a0.getD s8_0 default) (fun _ => rfl) rfl rfl (.inl rfl) (by omega) (by omega) rfl) ?_
    refine aops_step1 rfl (st_assign rfl rfl) ?_
    refine aops_nil ?_
    obtain ⟨g31, l8⟩ := Md.ifp_s l8
    refine aw_region ?_
    refine aops_step1 rfl (st_move rfl rfl) ?_
    refine aops_step1 rfl (ev_add rfl rfl rfl (Md.nat_add g31)) ?_
    refine aops_step1 rfl (st_assign rfl rfl) ?_
    refine aops_nil ?_
    exact ⟨⟨(n8, (s8_0 + 1), x25.1, (s8_2 ++ (a0.getD s8_0 default))), l8⟩, Nat.lt_succ_self _, (by (refine weak_mk rfl rfl ?_ ?_ rfl <;> repeat' (first | exact trivial | refine ⟨?_, ?_⟩ | exact VLe.refl _ | exact BLe.refl _ | refine VLe.one (CLe.val ?_) | exact VLe.one (CLe.nil _) | exact VLe.one (CLe.emp _))))⟩
  replace l8 := Md.cond_f l8 c21
  refine aw_exit ?_
  show ∃ _x : (List UInt8) × Disk × (List UInt8), _ = _ ∧ Weak _ _
  exact ⟨([], s8_1, s8_2), (Option.some.inj l8).symm, (by (refine weak_mk rfl rfl ?_ ?_ rfl <;> repeat' (first | exact trivial | refine ⟨?_, ?_⟩ | exact VLe.refl _ | exact BLe.refl _ | refine VLe.one (CLe.val ?_) | exact VLe.one (CLe.nil _) | exact VLe.one (CLe.emp _))))⟩
set_option maxHeartbeats 2000000 in
theorem actorgridlaw26_DiskOperations_fn (k : Nat) (a0 : Disk) (a1 : List UInt8) (a2 : Int) (a3 : Int) (a4 : Int) (r : Bool) (h : actorgridlaw26_DiskOperations k a0 a1 a2 a3 a4 = some r) : FnC Try.prog 4 [.agg [CV.ls byC a0.Data, .val (.int .i64 a0.Capacity), .val (.bool a0.Armed), .val (.int .i64 a0.Writes), .val (.int .i64 a0.Keep), .val (.bool a0.Down)], .one (CV.ls byC a1), .one (.val (.int .i64 a2)), .one (.val (.int .i64 a3)), .one (.val (.int .i64 a4))] [] (Det (.one (.val (.bool r))) []) := by
  unfold actorgridlaw26_DiskOperations at h
  refine fn_intro' 144 Try.func4 rfl rfl rfl ?_
  refine aw_seq ?_
  refine aw_region ?_
  refine aops_step1 rfl (st_box 0 rfl rfl rfl rfl) ?_
  refine aops_step1 rfl (st_assign rfl rfl) ?_
  refine aops_nil ?_
  refine aw_seq ?_
  obtain ⟨x1, hx1, h⟩ := Md.bind_s h
  refine aw_seq ?_
  refine aw_region ?_
  refine aops_step1 rfl (ev_call_v (actorgridlaw26_awake_fn k x1 hx1) rfl [] (by repeat' (first | exact All2.nil | refine All2.cons ?_ ?_ | refine ArgV.one ?_ | refine ArgV.agg ?_ | exact ArgC.mk rfl | exact ArgC.lend rfl (by simp) | exact ArgC.le (CLe.nil _) rfl | exact ArgC.le (CLe.emp _) rfl | exact ArgC.le (CLe.any _) rfl)) rfl rfl rfl (.inl rfl) rfl) ?_
  refine aops_step1 rfl (ev_not rfl rfl) ?_
  refine aops_nil ?_
  refine aw_cond rfl (fun c2 => ?_) (fun c2 => ?_)
  · replace h := Md.cond_t h c2
    refine aw_seq ?_
    refine aw_region ?_
    refine aops_step1 rfl (st_assign rfl rfl) ?_
    refine aops_nil ?_
    cases Option.some.inj h
    refine aw_ret ⟨rfl, ret_v (.inl ⟨_, rfl, rfl, fun _ e => nomatch e⟩) rfl rfl rfl ?_⟩
    (repeat' (first | exact TLe.refl _ | exact VLe.refl _ | exact CLe.refl _ | exact All2.nil | refine TLe.tup ?_ | refine TLe.v ?_ | refine All2.cons ?_ ?_ | refine VLe.agg ?_ | refine VLe.one ?_ | exact CLe.nil _ | exact CLe.emp _ | refine CLe.val ?_ | refine CLe.slc ?_ ?_))
  replace h := Md.cond_f h c2
  refine aw_skip ?_
  refine aw_seq ?_
  rcases Md.bool_or ((decide (((a0.Data.length : Nat) : Int) > 3000))) with q3 | q3
  · replace h := Md.cond_t h q3
    refine aw_seq ?_
    refine aw_region ?_
    refine aops_step1 rfl (ev_field rfl rfl rfl) ?_
    refine aops_step1 rfl (ev_load rfl rfl rfl rfl) ?_
    refine aops_step1 rfl (ev_len_slc rfl rfl) ?_
    refine aops_step1 rfl (ev_cmp rfl rfl rfl rfl) ?_
    refine aops_step1 rfl (st_move rfl rfl) ?_
    refine aops_no rfl rfl rfl rfl rfl (by first | decide | (rw [q3]; decide)) ?_
    refine aops_no rfl rfl rfl rfl rfl (by first | decide | (rw [q3]; decide)) ?_
    refine aops_no rfl rfl rfl rfl rfl (by first | decide | (rw [q3]; decide)) ?_
    refine aops_step1 rfl (st_pick_yes rfl (by first | rfl | exact q3) rfl rfl) ?_
    refine aops_nil ?_
    refine aw_yes rfl (rfl) ?_
    refine aw_seq ?_
    refine aw_region ?_
    refine aops_step1 rfl (st_assign rfl rfl) ?_
    refine aops_nil ?_
    cases Option.some.inj h
    refine aw_ret ⟨rfl, ret_v (.inl ⟨_, rfl, rfl, fun _ e => nomatch e⟩) rfl rfl rfl ?_⟩
    (repeat' (first | exact TLe.refl _ | exact VLe.refl _ | exact CLe.refl _ | exact All2.nil | refine TLe.tup ?_ | refine TLe.v ?_ | refine All2.cons ?_ ?_ | refine VLe.agg ?_ | refine VLe.one ?_ | exact CLe.nil _ | exact CLe.emp _ | refine CLe.val ?_ | refine CLe.slc ?_ ?_))
  replace h := Md.cond_f h q3
  refine aw_seq ?_
  refine aw_region ?_
  refine aops_step1 rfl (ev_field rfl rfl rfl) ?_
  refine aops_step1 rfl (ev_load rfl rfl rfl rfl) ?_
  refine aops_step1 rfl (ev_len_slc rfl rfl) ?_
  refine aops_step1 rfl (ev_cmp rfl rfl rfl rfl) ?_
  refine aops_step1 rfl (st_move rfl rfl) ?_
  refine aops_yes rfl rfl rfl rfl q3 (st_move rfl rfl) ?_
  refine aops_yes rfl rfl rfl rfl q3 (ev_len_slc rfl rfl) ?_
  refine aops_yes rfl rfl rfl rfl q3 (ev_cmp rfl rfl rfl rfl) ?_
  refine aops_step1 rfl (st_pick_no rfl (by first | rfl | exact q3) rfl rfl) ?_
  refine aops_nil ?_
  refine aw_cond rfl (fun c4 => ?_) (fun c4 => ?_)
  · replace h := Md.cond_t h c4
    refine aw_seq ?_
    refine aw_region ?_
    refine aops_step1 rfl (st_assign rfl rfl) ?_
    refine aops_nil ?_
    cases Option.some.inj h
    refine aw_ret ⟨rfl, ret_v (.inl ⟨_, rfl, rfl, fun _ e => nomatch e⟩) rfl rfl rfl ?_⟩
    (repeat' (first | exact TLe.refl _ | exact VLe.refl _ | exact CLe.refl _ | exact All2.nil | refine TLe.tup ?_ | refine TLe.v ?_ | refine All2.cons ?_ ?_ | refine VLe.agg ?_ | refine VLe.one ?_ | exact CLe.nil _ | exact CLe.emp _ | refine CLe.val ?_ | refine CLe.slc ?_ ?_))
  replace h := Md.cond_f h c4
  refine aw_skip ?_
  refine aw_seq ?_
  obtain ⟨x5, hx5, h⟩ := Md.bind_s h
  obtain ⟨x6, hx6, h⟩ := Md.bind_s h
  refine aw_seq ?_
  apply aw_draw 3 ((⟨[], .agg [CV.ls byC a0.Data, .val (.int .i64 a0.Capacity), .val (.bool a0.Armed), .val (.int .i64 a0.Writes), .val (.int .i64 a0.Keep), .val (.bool a0.Down)]⟩ : Add) :: ⟨[], .one (.val (.bool x5))⟩ :: ⟨[], .agg [CV.ls byC a0.Data, .val (.int .i64 a0.Capacity), .val (.bool a0.Armed), .val (.int .i64 a0.Writes), .val (.int .i64 a0.Keep), .val (.bool a0.Down)]⟩ :: []) (by decide) rfl ?hk1x ?hf1x ?ho1x ?hr1x
  case ho1x =>
   refine ⟨⟨[], (by decide +kernel), fun S hle hfr => ?_⟩, ?_⟩
   · exact .inl ⟨.inl ⟨rfl, rfl⟩, ev_loads (ds := [_, _, _, _, _, _]) (hle.ev rfl (by nofun)) (hle.heap _ _ rfl) rfl rfl (hle.d rfl)⟩
   refine ⟨⟨0 :: [], (by decide +kernel), fun S hle hfr => ?_⟩, ?_⟩
   · exact .inl ⟨.inl ⟨rfl, rfl⟩, ev_call_v (disk_Valid_fn k a0 x5 hx5) (map_ev (.cons (hle.ev rfl (by nofun)) (.nil))) [] (by repeat' (first | exact All2.nil | refine All2.cons ?_ ?_ | refine ArgV.one ?_ | refine ArgV.agg ?_ | exact ArgC.mk rfl | exact ArgC.lend (hle.heap _ _ rfl) (by simp) | exact ArgC.le (CLe.nil _) rfl | exact ArgC.le (CLe.emp _) rfl | exact ArgC.le (CLe.any _) rfl)) rfl rfl rfl (.inl rfl) (hle.d rfl)⟩
   refine ⟨⟨[], (by decide +kernel), fun S hle hfr => ?_⟩, ?_⟩
   · exact .inl ⟨.inl ⟨rfl, rfl⟩, ev_loads (ds := [_, _, _, _, _, _]) (hle.ev rfl (by nofun)) (hle.heap _ _ rfl) rfl rfl (hle.d rfl)⟩
   exact trivial
  case hk1x => rfl
  case hf1x => rfl
  refine aops_step1 rfl (ev_call_v (actorgridref26_ValidDisk_fn k a0 x6 hx6) rfl [] (by repeat' (first | exact All2.nil | refine All2.cons ?_ ?_ | refine ArgV.one ?_ | refine ArgV.agg ?_ | exact ArgC.mk rfl | exact ArgC.lend rfl (by simp) | exact ArgC.le (CLe.nil _) rfl | exact ArgC.le (CLe.emp _) rfl | exact ArgC.le (CLe.any _) rfl)) rfl rfl rfl (.inl rfl) rfl) ?_
  refine aops_step1 rfl (ev_bool_ne rfl rfl rfl Try.underlying4 rfl) ?_
  refine aops_nil ?_
  refine aw_cond rfl (fun c7 => ?_) (fun c7 => ?_)
  · replace h := Md.cond_t h c7
    refine aw_seq ?_
    refine aw_region ?_
    refine aops_step1 rfl (st_assign rfl rfl) ?_
    refine aops_nil ?_
    cases Option.some.inj h
    refine aw_ret ⟨rfl, ret_v (.inl ⟨_, rfl, rfl, fun _ e => nomatch e⟩) rfl rfl rfl ?_⟩
    (repeat' (first | exact TLe.refl _ | exact VLe.refl _ | exact CLe.refl _ | exact All2.nil | refine TLe.tup ?_ | refine TLe.v ?_ | refine All2.cons ?_ ?_ | refine VLe.agg ?_ | refine VLe.one ?_ | exact CLe.nil _ | exact CLe.emp _ | refine CLe.val ?_ | refine CLe.slc ?_ ?_))
  replace h := Md.cond_f h c7
  refine aw_skip ?_
  obtain ⟨x8, hx8, h⟩ := Md.bind_s h
  refine aw_seq ?_
  refine aw_region ?_
  refine aops_step1 rfl (ev_loads (ds := [_, _, _, _, _, _]) rfl rfl rfl rfl rfl) ?_
  refine aops_step1 rfl (st_move rfl rfl) ?_
  refine aops_step1 rfl (ev_call_v (disk_Append_fn k a0 a1 x8 hx8) rfl [] (by repeat' (first | exact All2.nil | refine All2.cons ?_ ?_ | refine ArgV.one ?_ | refine ArgV.agg ?_ | exact ArgC.mk rfl | exact ArgC.lend rfl (by simp) | exact ArgC.le (CLe.nil _) rfl | exact ArgC.le (CLe.emp _) rfl | exact ArgC.le (CLe.any _) rfl)) rfl rfl rfl (.inl rfl) rfl) ?_
  refine aops_step1 rfl (st_movet rfl rfl) ?_
  refine aops_step1 rfl (ev_extract rfl rfl rfl) ?_
  refine aops_step1 rfl (ev_extract rfl rfl rfl) ?_
  refine aops_step1 rfl (st_alloc (cs := [.val (.slice none 0 0), .val (.int .i64 0), .val (.bool false), .val (.int .i64 0), .val (.int .i64 0), .val (.bool false)]) 1 rfl rfl rfl rfl rfl) ?_
  refine aops_step1 rfl (st_store (cs' := [_, _, _, _, _, _]) rfl rfl rfl rfl rfl rfl rfl rfl rfl) ?_
  refine aops_step1 rfl (st_assign rfl rfl) ?_
  refine aops_nil ?_
  obtain ⟨x9, hx9, h⟩ := Md.bind_s h
  refine aw_seq ?_
  refine aw_region ?_
  refine aops_step1 rfl (ev_loads (ds := [_, _, _, _, _, _]) rfl rfl rfl rfl rfl) ?_
  refine aops_step1 rfl (st_move rfl rfl) ?_
  refine aops_step1 rfl (ev_call_v (actorgridref26_AppendDisk_fn k a0 a1 x9 hx9) rfl [] (by repeat' (first | exact All2.nil | refine All2.cons ?_ ?_ | refine ArgV.one ?_ | refine ArgV.agg ?_ | exact ArgC.mk rfl | exact ArgC.lend rfl (by simp) | exact ArgC.le (CLe.nil _) rfl | exact ArgC.le (CLe.emp _) rfl | exact ArgC.le (CLe.any _) rfl)) rfl rfl rfl (.inl rfl) rfl) ?_
  refine aops_step1 rfl (st_movet rfl rfl) ?_
  refine aops_step1 rfl (ev_extract rfl rfl rfl) ?_
  refine aops_step1 rfl (ev_extract rfl rfl rfl) ?_
  refine aops_step1 rfl (st_alloc (cs := [.val (.slice none 0 0), .val (.int .i64 0), .val (.bool false), .val (.int .i64 0), .val (.int .i64 0), .val (.bool false)]) 2 rfl rfl rfl rfl rfl) ?_
  refine aops_step1 rfl (st_store (cs' := [_, _, _, _, _, _]) rfl rfl rfl rfl rfl rfl rfl rfl rfl) ?_
  refine aops_step1 rfl (st_assign rfl rfl) ?_
  refine aops_nil ?_
  refine aw_seq ?_
  obtain ⟨x10, hx10, h⟩ := Md.bind_s h
  refine aw_seq ?_
  refine aw_region ?_
  refine aops_step1 rfl (ev_loads (ds := [_, _, _, _, _, _]) rfl rfl rfl rfl rfl) ?_
  refine aops_step1 rfl (st_move rfl rfl) ?_
  refine aops_step1 rfl (ev_loads (ds := [_, _, _, _, _, _]) rfl rfl rfl rfl rfl) ?_
  refine aops_step1 rfl (st_move rfl rfl) ?_
  refine aops_step1 rfl (ev_call_v (actorgridlaw26_same_fn k x8.1 x8.2 x9.1 x9.2 x10 hx10) rfl [] (by repeat' (first | exact All2.nil | refine All2.cons ?_ ?_ | refine ArgV.one ?_ | refine ArgV.agg ?_ | exact ArgC.mk rfl | exact ArgC.lend rfl (by simp) | exact ArgC.le (CLe.nil _) rfl | exact ArgC.le (CLe.emp _) rfl | exact ArgC.le (CLe.any _) rfl)) rfl rfl rfl (.inl rfl) rfl) ?_
  refine aops_step1 rfl (ev_not rfl rfl) ?_
  refine aops_nil ?_
  refine aw_cond rfl (fun c11 => ?_) (fun c11 => ?_)
  · replace h := Md.cond_t h c11
    refine aw_seq ?_
    refine aw_region ?_
    refine aops_step1 rfl (st_assign rfl rfl) ?_
    refine aops_nil ?_
    cases Option.some.inj h
    refine aw_ret ⟨rfl, ret_v (.inl ⟨_, rfl, rfl, fun _ e => nomatch e⟩) rfl rfl rfl ?_⟩
    (repeat' (first | exact TLe.refl _ | exact VLe.refl _ | exact CLe.refl _ | exact All2.nil | refine TLe.tup ?_ | refine TLe.v ?_ | refine All2.cons ?_ ?_ | refine VLe.agg ?_ | refine VLe.one ?_ | exact CLe.nil _ | exact CLe.emp _ | refine CLe.val ?_ | refine CLe.slc ?_ ?_))
  replace h := Md.cond_f h c11
  refine aw_skip ?_
  obtain ⟨x12, hx12, h⟩ := Md.bind_s h
  refine aw_seq ?_
  refine aw_region ?_
  refine aops_step1 rfl (ev_loads (ds := [_, _, _, _, _, _]) rfl rfl rfl rfl rfl) ?_
  refine aops_step1 rfl (st_move rfl rfl) ?_
  refine aops_step1 rfl (ev_call_v (disk_Truncate_fn k a0 a2 x12 hx12) rfl [] (by repeat' (first | exact All2.nil | refine All2.cons ?_ ?_ | refine ArgV.one ?_ | refine ArgV.agg ?_ | exact ArgC.mk rfl | exact ArgC.lend rfl (by simp) | exact ArgC.le (CLe.nil _) rfl | exact ArgC.le (CLe.emp _) rfl | exact ArgC.le (CLe.any _) rfl)) rfl rfl rfl (.inl rfl) rfl) ?_
  refine aops_step1 rfl (st_movet rfl rfl) ?_
  refine aops_step1 rfl (ev_extract rfl rfl rfl) ?_
  refine aops_step1 rfl (ev_extract rfl rfl rfl) ?_
  refine aops_step1 rfl (st_store (cs' := [_, _, _, _, _, _]) rfl rfl rfl rfl rfl rfl rfl rfl rfl) ?_
  refine aops_step1 rfl (st_assign rfl rfl) ?_
  refine aops_nil ?_
  obtain ⟨x13, hx13, h⟩ := Md.bind_s h
  refine aw_seq ?_
  refine aw_region ?_
  refine aops_step1 rfl (ev_loads (ds := [_, _, _, _, _, _]) rfl rfl rfl rfl rfl) ?_
  refine aops_step1 rfl (st_move rfl rfl) ?_
  refine aops_step1 rfl (ev_call_v (actorgridref26_Truncate_fn k a0 a2 x13 hx13) rfl [] (by repeat' (first | exact All2.nil | refine All2.cons ?_ ?_ | refine ArgV.one ?_ | refine ArgV.agg ?_ | exact ArgC.mk rfl | exact ArgC.lend rfl (by simp) | exact ArgC.le (CLe.nil _) rfl | exact ArgC.le (CLe.emp _) rfl | exact ArgC.le (CLe.any _) rfl)) rfl rfl rfl (.inl rfl) rfl) ?_
  refine aops_step1 rfl (st_movet rfl rfl) ?_
  refine aops_step1 rfl (ev_extract rfl rfl rfl) ?_
  refine aops_step1 rfl (ev_extract rfl rfl rfl) ?_
  refine aops_step1 rfl (st_store (cs' := [_, _, _, _, _, _]) rfl rfl rfl rfl rfl rfl rfl rfl rfl) ?_
  refine aops_step1 rfl (st_assign rfl rfl) ?_
  refine aops_nil ?_
  refine aw_seq ?_
  obtain ⟨x14, hx14, h⟩ := Md.bind_s h
  refine aw_seq ?_
  refine aw_region ?_
  refine aops_step1 rfl (ev_loads (ds := [_, _, _, _, _, _]) rfl rfl rfl rfl rfl) ?_
  refine aops_step1 rfl (st_move rfl rfl) ?_
  refine aops_step1 rfl (ev_loads (ds := [_, _, _, _, _, _]) rfl rfl rfl rfl rfl) ?_
  refine aops_step1 rfl (st_move rfl rfl) ?_
  refine aops_step1 rfl (ev_call_v (actorgridlaw26_same_fn k x12.1 x12.2 x13.1 x13.2 x14 hx14) rfl [] (by repeat' (first | exact All2.nil | refine All2.cons ?_ ?_ | refine ArgV.one ?_ | refine ArgV.agg ?_ | exact ArgC.mk rfl | exact ArgC.lend rfl (by simp) | exact ArgC.le (CLe.nil _) rfl | exact ArgC.le (CLe.emp _) rfl | exact ArgC.le (CLe.any _) rfl)) rfl rfl rfl (.inl rfl) rfl) ?_
  refine aops_step1 rfl (ev_not rfl rfl) ?_
  refine aops_nil ?_
  refine aw_cond rfl (fun c15 => ?_) (fun c15 => ?_)
  · replace h := Md.cond_t h c15
    refine aw_seq ?_
    refine aw_region ?_
    refine aops_step1 rfl (st_assign rfl rfl) ?_
    refine aops_nil ?_
    cases Option.some.inj h
    refine aw_ret ⟨rfl, ret_v (.inl ⟨_, rfl, rfl, fun _ e => nomatch e⟩) rfl rfl rfl ?_⟩
    (repeat' (first | exact TLe.refl _ | exact VLe.refl _ | exact CLe.refl _ | exact All2.nil | refine TLe.tup ?_ | refine TLe.v ?_ | refine All2.cons ?_ ?_ | refine VLe.agg ?_ | refine VLe.one ?_ | exact CLe.nil _ | exact CLe.emp _ | refine CLe.val ?_ | refine CLe.slc ?_ ?_))
  replace h := Md.cond_f h c15
  refine aw_skip ?_
  obtain ⟨x16, hx16, h⟩ := Md.bind_s h
  refine aw_seq ?_
  refine aw_region ?_
  refine aops_step1 rfl (ev_loads (ds := [_, _, _, _, _, _]) rfl rfl rfl rfl rfl) ?_
  refine aops_step1 rfl (st_move rfl rfl) ?_
  refine aops_step1 rfl (st_move rfl rfl) ?_
  refine aops_step1 rfl (ev_call_v (disk_Arm_fn k a0 a3 a4 x16 hx16) rfl [] (by repeat' (first | exact All2.nil | refine All2.cons ?_ ?_ | refine ArgV.one ?_ | refine ArgV.agg ?_ | exact ArgC.mk rfl | exact ArgC.lend rfl (by simp) | exact ArgC.le (CLe.nil _) rfl | exact ArgC.le (CLe.emp _) rfl | exact ArgC.le (CLe.any _) rfl)) rfl rfl rfl (.inl rfl) rfl) ?_
  refine aops_step1 rfl (st_movet rfl rfl) ?_
  refine aops_step1 rfl (ev_extract rfl rfl rfl) ?_
  refine aops_step1 rfl (ev_extract rfl rfl rfl) ?_
  refine aops_step1 rfl (st_store (cs' := [_, _, _, _, _, _]) rfl rfl rfl rfl rfl rfl rfl rfl rfl) ?_
  refine aops_step1 rfl (st_assign rfl rfl) ?_
  refine aops_nil ?_
  obtain ⟨x17, hx17, h⟩ := Md.bind_s h
  refine aw_seq ?_
  refine aw_region ?_
  refine aops_step1 rfl (ev_loads (ds := [_, _, _, _, _, _]) rfl rfl rfl rfl rfl) ?_
  refine aops_step1 rfl (st_move rfl rfl) ?_
  refine aops_step1 rfl (st_move rfl rfl) ?_
  refine aops_step1 rfl (ev_call_v (actorgridref26_Arm_fn k a0 a3 a4 x17 hx17) rfl [] (by repeat' (first | exact All2.nil | refine All2.cons ?_ ?_ | refine ArgV.one ?_ | refine ArgV.agg ?_ | exact ArgC.mk rfl | exact ArgC.lend rfl (by simp) | exact ArgC.le (CLe.nil _) rfl | exact ArgC.le (CLe.emp _) rfl | exact ArgC.le (CLe.any _) rfl)) rfl rfl rfl (.inl rfl) rfl) ?_
  refine aops_step1 rfl (st_movet rfl rfl) ?_
  refine aops_step1 rfl (ev_extract rfl rfl rfl) ?_
  refine aops_step1 rfl (ev_extract rfl rfl rfl) ?_
  refine aops_step1 rfl (st_store (cs' := [_, _, _, _, _, _]) rfl rfl rfl rfl rfl rfl rfl rfl rfl) ?_
  refine aops_step1 rfl (st_assign rfl rfl) ?_
  refine aops_nil ?_
  refine aw_seq ?_
  obtain ⟨x18, hx18, h⟩ := Md.bind_s h
  refine aw_seq ?_
  refine aw_region ?_
  refine aops_step1 rfl (ev_loads (ds := [_, _, _, _, _, _]) rfl rfl rfl rfl rfl) ?_
  refine aops_step1 rfl (st_move rfl rfl) ?_
  refine aops_step1 rfl (ev_loads (ds := [_, _, _, _, _, _]) rfl rfl rfl rfl rfl) ?_
  refine aops_step1 rfl (st_move rfl rfl) ?_
  refine aops_step1 rfl (ev_call_v (actorgridlaw26_same_fn k x16.1 x16.2 x17.1 x17.2 x18 hx18) rfl [] (by repeat' (first | exact All2.nil | refine All2.cons ?_ ?_ | refine ArgV.one ?_ | refine ArgV.agg ?_ | exact ArgC.mk rfl | exact ArgC.lend rfl (by simp) | exact ArgC.le (CLe.nil _) rfl | exact ArgC.le (CLe.emp _) rfl | exact ArgC.le (CLe.any _) rfl)) rfl rfl rfl (.inl rfl) rfl) ?_
  refine aops_step1 rfl (ev_not rfl rfl) ?_
  refine aops_nil ?_
  refine aw_cond rfl (fun c19 => ?_) (fun c19 => ?_)
  · replace h := Md.cond_t h c19
    refine aw_seq ?_
    refine aw_region ?_
    refine aops_step1 rfl (st_assign rfl rfl) ?_
    refine aops_nil ?_
    cases Option.some.inj h
    refine aw_ret ⟨rfl, ret_v (.inl ⟨_, rfl, rfl, fun _ e => nomatch e⟩) rfl rfl rfl ?_⟩
    (repeat' (first | exact TLe.refl _ | exact VLe.refl _ | exact CLe.refl _ | exact All2.nil | refine TLe.tup ?_ | refine TLe.v ?_ | refine All2.cons ?_ ?_ | refine VLe.agg ?_ | refine VLe.one ?_ | exact CLe.nil _ | exact CLe.emp _ | refine CLe.val ?_ | refine CLe.slc ?_ ?_))
  replace h := Md.cond_f h c19
  refine aw_skip ?_
  obtain ⟨x20, hx20, h⟩ := Md.bind_s h
  refine aw_seq ?_
  refine aw_region ?_
  refine aops_step1 rfl (ev_loads (ds := [_, _, _, _, _, _]) rfl rfl rfl rfl rfl) ?_
  refine aops_step1 rfl (ev_call_v (disk_Restart_fn k a0 x20 hx20) rfl [] (by repeat' (first | exact All2.nil | refine All2.cons ?_ ?_ | refine ArgV.one ?_ | refine ArgV.agg ?_ | exact ArgC.mk rfl | exact ArgC.lend rfl (by simp) | exact ArgC.le (CLe.nil _) rfl | exact ArgC.le (CLe.emp _) rfl | exact ArgC.le (CLe.any _) rfl)) rfl rfl rfl (.inl rfl) rfl) ?_
  refine aops_step1 rfl (st_movet rfl rfl) ?_
  refine aops_step1 rfl (ev_extract rfl rfl rfl) ?_
  refine aops_step1 rfl (ev_extract rfl rfl rfl) ?_
  refine aops_step1 rfl (st_store (cs' := [_, _, _, _, _, _]) rfl rfl rfl rfl rfl rfl rfl rfl rfl) ?_
  refine aops_step1 rfl (st_assign rfl rfl) ?_
  refine aops_nil ?_
  obtain ⟨x21, hx21, h⟩ := Md.bind_s h
  refine aw_seq ?_
  refine aw_region ?_
  refine aops_step1 rfl (ev_loads (ds := [_, _, _, _, _, _]) rfl rfl rfl rfl rfl) ?_
  refine aops_step1 rfl (ev_call_v (actorgridref26_Restart_fn k a0 x21 hx21) rfl [] (by repeat' (first | exact All2.nil | refine All2.cons ?_ ?_ | refine ArgV.one ?_ | refine ArgV.agg ?_ | exact ArgC.mk rfl | exact ArgC.lend rfl (by simp) | exact ArgC.le (CLe.nil _) rfl | exact ArgC.le (CLe.emp _) rfl | exact ArgC.le (CLe.any _) rfl)) rfl rfl rfl (.inl rfl) rfl) ?_
  refine aops_step1 rfl (st_movet rfl rfl) ?_
  refine aops_step1 rfl (ev_extract rfl rfl rfl) ?_
  refine aops_step1 rfl (ev_extract rfl rfl rfl) ?_
  refine aops_step1 rfl (st_store (cs' := [_, _, _, _, _, _]) rfl rfl rfl rfl rfl rfl rfl rfl rfl) ?_
  refine aops_step1 rfl (st_assign rfl rfl) ?_
  refine aops_nil ?_
  refine aw_seq ?_
  obtain ⟨x22, hx22, h⟩ := Md.bind_s h
  refine aw_seq ?_
  refine aw_region ?_
  refine aops_step1 rfl (ev_loads (ds := [_, _, _, _, _, _]) rfl rfl rfl rfl rfl) ?_
  refine aops_step1 rfl (st_move rfl rfl) ?_
  refine aops_step1 rfl (ev_loads (ds := [_, _, _, _, _, _]) rfl rfl rfl rfl rfl) ?_
  refine aops_step1 rfl (st_move rfl rfl) ?_
  refine aops_step1 rfl (ev_call_v (actorgridlaw26_same_fn k x20.1 x20.2 x21.1 x21.2 x22 hx22) rfl [] (by repeat' (first | exact All2.nil | refine All2.cons ?_ ?_ | refine ArgV.one ?_ | refine ArgV.agg ?_ | exact ArgC.mk rfl | exact ArgC.lend rfl (by simp) | exact ArgC.le (CLe.nil _) rfl | exact ArgC.le (CLe.emp _) rfl | exact ArgC.le (CLe.any _) rfl)) rfl rfl rfl (.inl rfl) rfl) ?_
  refine aops_step1 rfl (ev_not rfl rfl) ?_
  refine aops_nil ?_
  refine aw_cond rfl (fun c23 => ?_) (fun c23 => ?_)
  · replace h := Md.cond_t h c23
    refine aw_seq ?_
    refine aw_region ?_
    refine aops_step1 rfl (st_assign rfl rfl) ?_
    refine aops_nil ?_
    cases Option.some.inj h
    refine aw_ret ⟨rfl, ret_v (.inl ⟨_, rfl, rfl, fun _ e => nomatch e⟩) rfl rfl rfl ?_⟩
    (repeat' (first | exact TLe.refl _ | exact VLe.refl _ | exact CLe.refl _ | exact All2.nil | refine TLe.tup ?_ | refine TLe.v ?_ | refine All2.cons ?_ ?_ | refine VLe.agg ?_ | refine VLe.one ?_ | exact CLe.nil _ | exact CLe.emp _ | refine CLe.val ?_ | refine CLe.slc ?_ ?_))
  replace h := Md.cond_f h c23
  refine aw_skip ?_
  obtain ⟨x24, hx24, h⟩ := Md.bind_s h
  refine aw_seq ?_
  refine aw_region ?_
  refine aops_step1 rfl (ev_loads (ds := [_, _, _, _, _, _]) rfl rfl rfl rfl rfl) ?_
  refine aops_step1 rfl (ev_call_v (disk_Read_fn k a0 x24 hx24) rfl [] (by repeat' (first | exact All2.nil | refine All2.cons ?_ ?_ | refine ArgV.one ?_ | refine ArgV.agg ?_ | exact ArgC.mk rfl | exact ArgC.lend rfl (by simp) | exact ArgC.le (CLe.nil _) rfl | exact ArgC.le (CLe.emp _) rfl | exact ArgC.le (CLe.any _) rfl)) rfl rfl rfl (.inl rfl) rfl) ?_
  refine aops_step1 rfl (st_movet rfl rfl) ?_
  refine aops_step1 rfl (ev_extract rfl rfl rfl) ?_
  refine aops_step1 rfl (ev_extract rfl rfl rfl) ?_
  refine aops_step1 rfl (st_assign rfl rfl) ?_
  refine aops_step1 rfl (st_assign rfl rfl) ?_
  refine aops_nil ?_
  obtain ⟨x25, hx25, h⟩ := Md.bind_s h
  refine aw_seq ?_
  refine aw_region ?_
  refine aops_step1 rfl (ev_loads (ds := [_, _, _, _, _, _]) rfl rfl rfl rfl rfl) ?_
  refine aops_step1 rfl (ev_call_v (actorgridref26_Read_fn k a0 x25 hx25) rfl [] (by repeat' (first | exact All2.nil | refine All2.cons ?_ ?_ | refine ArgV.one ?_ | refine ArgV.agg ?_ | exact ArgC.mk rfl | exact ArgC.lend rfl (by simp) | exact ArgC.le (CLe.nil _) rfl | exact ArgC.le (CLe.emp _) rfl | exact ArgC.le (CLe.any _) rfl)) rfl rfl rfl (.inl rfl) rfl) ?_
  refine aops_step1 rfl (st_movet rfl rfl) ?_
  refine aops_step1 rfl (ev_extract rfl rfl rfl) ?_
  refine aops_step1 rfl (ev_extract rfl rfl rfl) ?_
  refine aops_step1 rfl (st_assign rfl rfl) ?_
  refine aops_step1 rfl (st_assign rfl rfl) ?_
  refine aops_nil ?_
  obtain ⟨x26, hx26, h⟩ := Md.bind_s h
  refine aw_seq ?_
  refine aw_region ?_
  refine aops_step1 rfl (st_move rfl rfl) ?_
  refine aops_step1 rfl (ev_call_v (disk_New_fn k a2 x26 hx26) rfl [] (by repeat' (first | exact All2.nil | refine All2.cons ?_ ?_ | refine ArgV.one ?_ | refine ArgV.agg ?_ | exact ArgC.mk rfl | exact ArgC.lend rfl (by simp) | exact ArgC.le (CLe.nil _) rfl | exact ArgC.le (CLe.emp _) rfl | exact ArgC.le (CLe.any _) rfl)) rfl rfl rfl (.inl rfl) rfl) ?_
  refine aops_step1 rfl (st_movet rfl rfl) ?_
  refine aops_step1 rfl (ev_extract rfl rfl rfl) ?_
  refine aops_step1 rfl (ev_extract rfl rfl rfl) ?_
  refine aops_step1 rfl (st_store (cs' := [_, _, _, _, _, _]) rfl rfl rfl rfl rfl rfl rfl rfl rfl) ?_
  refine aops_step1 rfl (st_assign rfl rfl) ?_
  refine aops_nil ?_
  obtain ⟨x27, hx27, h⟩ := Md.bind_s h
  refine aw_seq ?_
  refine aw_region ?_
  refine aops_step1 rfl (st_move rfl rfl) ?_
  refine aops_step1 rfl (ev_call_v (actorgridref26_NewDisk_fn k a2 x27 hx27) rfl [] (by repeat' (first | exact All2.nil | refine All2.cons ?_ ?_ | refine ArgV.one ?_ | refine ArgV.agg ?_ | exact ArgC.mk rfl | exact ArgC.lend rfl (by simp) | exact ArgC.le (CLe.nil _) rfl | exact ArgC.le (CLe.emp _) rfl | exact ArgC.le (CLe.any _) rfl)) rfl rfl rfl (.inl rfl) rfl) ?_
  refine aops_step1 rfl (st_movet rfl rfl) ?_
  refine aops_step1 rfl (ev_extract rfl rfl rfl) ?_
  refine aops_step1 rfl (ev_extract rfl rfl rfl) ?_
  refine aops_step1 rfl (st_store (cs' := [_, _, _, _, _, _]) rfl rfl rfl rfl rfl rfl rfl rfl rfl) ?_
  refine aops_step1 rfl (st_assign rfl rfl) ?_
  refine aops_nil ?_
  rcases Md.bool_or ((x24.2 == x25.2)) with q28 | q28
  · replace h := Md.cond_t h q28
    rcases Md.bool_or ((decide (x24.1 = x25.1))) with q29 | q29
    · replace h := Md.cond_t h q29
      obtain ⟨x30, hx30, h⟩ := Md.bind_s h
      refine aw_seq ?_
      refine aw_region ?_
      refine aops_step1 rfl (st_move rfl rfl) ?_
      refine aops_step1 rfl (st_move rfl rfl) ?_
      refine aops_step1 rfl (ev_cmp rfl rfl rfl rfl) ?_
      refine aops_step1 rfl (st_move rfl rfl) ?_
      refine aops_yes rfl rfl rfl rfl q28 (st_move rfl rfl) ?_
      refine aops_yes rfl rfl rfl rfl q28 (ev_str_bytes (.inl rfl) Try.underlying24 Try.underlying5 Try.underlying9 rfl) ?_
      refine aops_yes rfl rfl rfl rfl q28 (st_move rfl rfl) ?_
      refine aops_yes rfl rfl rfl rfl q28 (ev_str_bytes (.inl rfl) Try.underlying24 Try.underlying5 Try.underlying9 rfl) ?_
      refine aops_yes rfl rfl rfl rfl q28 (st_str_eq rfl rfl rfl) ?_
      refine aops_step1 rfl (st_pick_yes rfl (by first | rfl | exact q28) rfl rfl) ?_
      refine aops_step1 rfl (st_move rfl rfl) ?_
      refine aops_yes rfl rfl rfl rfl q29 (ev_loads (ds := [_, _, _, _, _, _]) rfl rfl rfl rfl rfl) ?_
      refine aops_yes rfl rfl rfl rfl q29 (st_move rfl rfl) ?_
      refine aops_yes rfl rfl rfl rfl q29 (ev_loads (ds := [_, _, _, _, _, _]) rfl rfl rfl rfl rfl) ?_
      refine aops_yes rfl rfl rfl rfl q29 (st_move rfl rfl) ?_
      refine aops_yes rfl rfl rfl rfl q29 (ev_call_v (actorgridlaw26_same_fn k x26.1 x26.2 x27.1 x27.2 x30 hx30) rfl [] (by repeat' (first | exact All2.nil | refine All2.cons ?_ ?_ | refine ArgV.one ?_ | refine ArgV.agg ?_ | exact ArgC.mk rfl | exact ArgC.lend rfl (by simp) | exact ArgC.le (CLe.nil _) rfl | exact ArgC.le (CLe.emp _) rfl | exact ArgC.le (CLe.any _) rfl)) rfl rfl rfl (.inl rfl) rfl) ?_
      refine aops_step1 rfl (st_pick_yes rfl (by first | rfl | exact q29) rfl rfl) ?_
      refine aops_step1 rfl (st_assign rfl rfl) ?_
      refine aops_nil ?_
      cases Option.some.inj h
      refine aw_ret ⟨rfl, ret_v (.inl ⟨_, rfl, rfl, fun _ e => nomatch e⟩) rfl rfl rfl ?_⟩
      (repeat' (first | exact TLe.refl _ | exact VLe.refl _ | exact CLe.refl _ | exact All2.nil | refine TLe.tup ?_ | refine TLe.v ?_ | refine All2.cons ?_ ?_ | refine VLe.agg ?_ | refine VLe.one ?_ | exact CLe.nil _ | exact CLe.emp _ | refine CLe.val ?_ | refine CLe.slc ?_ ?_))
    replace h := Md.cond_f h q29
    refine aw_seq ?_
    refine aw_region ?_
    refine aops_step1 rfl (st_move rfl rfl) ?_
    refine aops_step1 rfl (st_move rfl rfl) ?_
    refine aops_step1 rfl (ev_cmp rfl rfl rfl rfl) ?_
    refine aops_step1 rfl (st_move rfl rfl) ?_
    refine aops_yes rfl rfl rfl rfl q28 (st_move rfl rfl) ?_
    refine aops_yes rfl rfl rfl rfl q28 (ev_str_bytes (.inl rfl) Try.underlying24 Try.underlying5 Try.underlying9 rfl) ?_
    refine aops_yes rfl rfl rfl rfl q28 (st_move rfl rfl) ?_
    refine aops_yes rfl rfl rfl rfl q28 (ev_str_bytes (.inl rfl) Try.underlying24 Try.underlying5 Try.underlying9 rfl) ?_
    refine aops_yes rfl rfl rfl rfl q28 (st_str_eq rfl rfl rfl) ?_
    refine aops_step1 rfl (st_pick_yes rfl (by first | rfl | exact q28) rfl rfl) ?_
    refine aops_step1 rfl (st_move rfl rfl) ?_
    refine aops_no rfl rfl rfl rfl rfl (by first | decide | (rw [q29]; decide)) ?_
    refine aops_no rfl rfl rfl rfl rfl (by first | decide | (rw [q29]; decide)) ?_
    refine aops_no rfl rfl rfl rfl rfl (by first | decide | (rw [q29]; decide)) ?_
    refine aops_no rfl rfl rfl rfl rfl (by first | decide | (rw [q29]; decide)) ?_
    refine aops_no rfl rfl rfl rfl rfl (by first | decide | (rw [q29]; decide)) ?_
    refine aops_step1 rfl (st_pick_no rfl (by first | rfl | exact q29) rfl rfl) ?_
    refine aops_step1 rfl (st_assign rfl rfl) ?_
    refine aops_nil ?_
    cases Option.some.inj h
    refine aw_ret ⟨rfl, ret_v (.inl ⟨_, rfl, rfl, fun _ e => nomatch e⟩) rfl rfl rfl ?_⟩
    (repeat' (first | exact TLe.refl _ | exact VLe.refl _ | exact CLe.refl _ | exact All2.nil | refine TLe.tup ?_ | refine TLe.v ?_ | refine All2.cons ?_ ?_ | refine VLe.agg ?_ | refine VLe.one ?_ | exact CLe.nil _ | exact CLe.emp _ | refine CLe.val ?_ | refine CLe.slc ?_ ?_))
  replace h := Md.cond_f h q28
  refine aw_seq ?_
  refine aw_region ?_
  refine aops_step1 rfl (st_move rfl rfl) ?_
  refine aops_step1 rfl (st_move rfl rfl) ?_
  refine aops_step1 rfl (ev_cmp rfl rfl rfl rfl) ?_
  refine aops_step1 rfl (st_move rfl rfl) ?_
  refine aops_no rfl rfl rfl rfl rfl (by first | decide | (rw [q28]; decide)) ?_
  refine aops_no rfl rfl rfl rfl rfl (by first | decide | (rw [q28]; decide)) ?_
  refine aops_no rfl rfl rfl rfl rfl (by first | decide | (rw [q28]; decide)) ?_
  refine aops_no rfl rfl rfl rfl rfl (by first | decide | (rw [q28]; decide)) ?_
  refine aops_no rfl rfl rfl rfl rfl (by first | decide | (rw [q28]; decide)) ?_
  refine aops_step1 rfl (st_pick_no rfl (by first | rfl | exact q28) rfl rfl) ?_
  refine aops_step1 rfl (st_move rfl rfl) ?_
  refine aops_no rfl rfl rfl rfl rfl (by decide) ?_
  refine aops_no rfl rfl rfl rfl rfl (by decide) ?_
  refine aops_no rfl rfl rfl rfl rfl (by decide) ?_
  refine aops_no rfl rfl rfl rfl rfl (by decide) ?_
  refine aops_no rfl rfl rfl rfl rfl (by decide) ?_
  refine aops_step1 rfl (st_pick_no rfl (by first | rfl | exact rfl) rfl rfl) ?_
  refine aops_step1 rfl (st_assign rfl rfl) ?_
  refine aops_nil ?_
  cases Option.some.inj h
  refine aw_ret ⟨rfl, ret_v (.inl ⟨_, rfl, rfl, fun _ e => nomatch e⟩) rfl rfl rfl ?_⟩
  (repeat' (first | exact TLe.refl _ | exact VLe.refl _ | exact CLe.refl _ | exact All2.nil | refine TLe.tup ?_ | refine TLe.v ?_ | refine All2.cons ?_ ?_ | refine VLe.agg ?_ | refine VLe.one ?_ | exact CLe.nil _ | exact CLe.emp _ | refine CLe.val ?_ | refine CLe.slc ?_ ?_))
set_option maxHeartbeats 2000000 in
theorem actorgridlaw26_DiskSequences_fn (k : Nat) (a0 : UInt16) (a1 : List Actorgridlaw26Act) (r : Bool) (h : actorgridlaw26_DiskSequences k a0 a1 = some r) : FnC Try.prog 5 [.one (.val (.int .u16 (a0.toNat : Int))), .one (CV.ls c_Actorgridlaw26Act a1)] [] (Det (.one (.val (.bool r))) []) := by
  unfold actorgridlaw26_DiskSequences at h
  refine fn_intro' 143 Try.func5 rfl rfl rfl ?_
  refine aw_seq ?_
  refine aw_region ?_
  refine aops_step1 rfl (st_assign rfl rfl) ?_
  refine aops_nil ?_
  refine aw_seq ?_
  obtain ⟨x1, hx1, h⟩ := Md.bind_s h
  refine aw_seq ?_
  refine aw_region ?_
  refine aops_step1 rfl (ev_call_v (actorgridlaw26_awake_fn k x1 hx1) rfl [] (by repeat' (first | exact All2.nil | refine All2.cons ?_ ?_ | refine ArgV.one ?_ | refine ArgV.agg ?_ | exact ArgC.mk rfl | exact ArgC.lend rfl (by simp) | exact ArgC.le (CLe.nil _) rfl | exact ArgC.le (CLe.emp _) rfl | exact ArgC.le (CLe.any _) rfl)) rfl rfl rfl (.inl rfl) rfl) ?_
  refine aops_step1 rfl (ev_not rfl rfl) ?_
  refine aops_nil ?_
  refine aw_cond rfl (fun c2 => ?_) (fun c2 => ?_)
  · replace h := Md.cond_t h c2
    refine aw_seq ?_
    refine aw_region ?_
    refine aops_step1 rfl (st_assign rfl rfl) ?_
    refine aops_nil ?_
    cases Option.some.inj h
    refine aw_ret ⟨rfl, ret_v (.inl ⟨_, rfl, rfl, fun _ e => nomatch e⟩) rfl rfl rfl ?_⟩
    (repeat' (first | exact TLe.refl _ | exact VLe.refl _ | exact CLe.refl _ | exact All2.nil | refine TLe.tup ?_ | refine TLe.v ?_ | refine All2.cons ?_ ?_ | refine VLe.agg ?_ | refine VLe.one ?_ | exact CLe.nil _ | exact CLe.emp _ | refine CLe.val ?_ | refine CLe.slc ?_ ?_))
  replace h := Md.cond_f h c2
  refine aw_skip ?_
  refine aw_seq ?_
  refine aw_seq ?_
  refine aw_region ?_
  refine aops_step1 rfl (st_move rfl rfl) ?_
  refine aops_step1 rfl (ev_len_slc rfl rfl) ?_
  refine aops_step1 rfl (ev_cmp rfl rfl rfl rfl) ?_
  refine aops_nil ?_
  refine aw_cond rfl (fun c3 => ?_) (fun c3 => ?_)
  · replace h := Md.cond_t h c3
    refine aw_seq ?_
    refine aw_region ?_
    refine aops_step1 rfl (st_assign rfl rfl) ?_
    refine aops_nil ?_
    cases Option.some.inj h
    refine aw_ret ⟨rfl, ret_v (.inl ⟨_, rfl, rfl, fun _ e => nomatch e⟩) rfl rfl rfl ?_⟩
    (repeat' (first | exact TLe.refl _ | exact VLe.refl _ | exact CLe.refl _ | exact All2.nil | refine TLe.tup ?_ | refine TLe.v ?_ | refine All2.cons ?_ ?_ | refine VLe.agg ?_ | refine VLe.one ?_ | exact CLe.nil _ | exact CLe.emp _ | refine CLe.val ?_ | refine CLe.slc ?_ ?_))
  replace h := Md.cond_f h c3
  refine aw_skip ?_
  obtain ⟨x4, hx4, h⟩ := Md.bind_s h
  refine aw_seq ?_
  refine aw_region ?_
  refine aops_step1 rfl (st_move rfl rfl) ?_
  refine aops_step1 rfl (ev_rem rfl rfl rfl (by decide) (Md.rem_u16 a0 (2000 : UInt16))) ?_
  refine aops_step1 rfl (st_conv_int rfl rfl Try.underlying40 Try.underlying3 (Md.conv_u16_i64 (a0 % (2000 : UInt16)))) ?_
  refine aops_step1 rfl (ev_call_v (disk_New_fn k (((a0 % (2000 : UInt16)).toNat : Nat) : Int) x4 hx4) rfl [] (by repeat' (first | exact All2.nil | refine All2.cons ?_ ?_ | refine ArgV.one ?_ | refine ArgV.agg ?_ | exact ArgC.mk rfl | exact ArgC.lend rfl (by simp) | exact ArgC.le (CLe.nil _) rfl | exact ArgC.le (CLe.emp _) rfl | exact ArgC.le (CLe.any _) rfl)) rfl rfl rfl (.inl rfl) rfl) ?_
  refine aops_step1 rfl (st_movet rfl rfl) ?_
  refine aops_step1 rfl (ev_extract rfl rfl rfl) ?_
  refine aops_step1 rfl (ev_extract rfl rfl rfl) ?_
  refine aops_step1 rfl (st_alloc (cs := [.val (.slice none 0 0), .val (.int .i64 0), .val (.bool false), .val (.int .i64 0), .val (.int .i64 0), .val (.bool false)]) 0 rfl rfl rfl rfl rfl) ?_
  refine aops_step1 rfl (st_store (cs' := [_, _, _, _, _, _]) rfl rfl rfl rfl rfl rfl rfl rfl rfl) ?_
  refine aops_step1 rfl (st_assign rfl rfl) ?_
  refine aops_nil ?_
  obtain ⟨x5, hx5, h⟩ := Md.bind_s h
  refine aw_seq ?_
  refine aw_region ?_
  refine aops_step1 rfl (st_move rfl rfl) ?_
  refine aops_step1 rfl (ev_rem rfl rfl rfl (by decide) (Md.rem_u16 a0 (2000 : UInt16))) ?_
  refine aops_step1 rfl (st_conv_int rfl rfl Try.underlying40 Try.underlying3 (Md.conv_u16_i64 (a0 % (2000 : UInt16)))) ?_
  refine aops_step1 rfl (ev_call_v (actorgridref26_NewDisk_fn k (((a0 % (2000 : UInt16)).toNat : Nat) : Int) x5 hx5) rfl [] (by repeat' (first | exact All2.nil | refine All2.cons ?_ ?_ | refine ArgV.one ?_ | refine ArgV.agg ?_ | exact ArgC.mk rfl | exact ArgC.lend rfl (by simp) | exact ArgC.le (CLe.nil _) rfl | exact ArgC.le (CLe.emp _) rfl | exact ArgC.le (CLe.any _) rfl)) rfl rfl rfl (.inl rfl) rfl) ?_
  refine aops_step1 rfl (st_movet rfl rfl) ?_
  refine aops_step1 rfl (ev_extract rfl rfl rfl) ?_
  refine aops_step1 rfl (ev_extract rfl rfl rfl) ?_
  refine aops_step1 rfl (st_alloc (cs := [.val (.slice none 0 0), .val (.int .i64 0), .val (.bool false), .val (.int .i64 0), .val (.int .i64 0), .val (.bool false)]) 1 rfl rfl rfl rfl rfl) ?_
  refine aops_step1 rfl (st_store (cs' := [_, _, _, _, _, _]) rfl rfl rfl rfl rfl rfl rfl rfl rfl) ?_
  refine aops_step1 rfl (st_assign rfl rfl) ?_
  refine aops_nil ?_
  refine aw_seq ?_
  refine aw_seq ?_
  refine aw_region ?_
  refine aops_step1 rfl (st_assign rfl rfl) ?_
  refine aops_nil ?_
  refine aw_block ?_
  obtain ⟨o6, ho6, h⟩ := Md.bind_s h
  refine aw_loop_x (ι := {p : Nat × Int × Int × Nat × Disk × Disk // actorgridlaw26_DiskSequences_loop1 k a1 p.1 p.2.1 p.2.2.1 p.2.2.2.1 p.2.2.2.2.1 p.2.2.2.2.2 = some o6}) (fun p => (⟨143, [], [(1, .one (CV.ls c_Actorgridlaw26Act a1)), (5, .one (.ptr 0 0)), (6, .one (.val (.int .i64 p.1.2.1))), (7, .one (.ptr 1 0)), (8, .one (.val (.int .i64 p.1.2.2.1))), (9, .one (.val (.int .i64 ((p.1.2.2.2.1 : Nat) : Int))))], [(0, some (.box [CV.ls byC p.1.2.2.2.2.1.Data, .val (.int .i64 p.1.2.2.2.2.1.Capacity), .val (.bool p.1.2.2.2.2.1.Armed), .val (.int .i64 p.1.2.2.2.2.1.Writes), .val (.int .i64 p.1.2.2.2.2.1.Keep), .val (.bool p.1.2.2.2.2.1.Down)])), (1, some (.box [CV.ls byC p.1.2.2.2.2.2.Data, .val (.int .i64 p.1.2.2.2.2.2.Capacity), .val (.bool p.1.2.2.2.2.2.Armed), .val (.int .i64 p.1.2.2.2.2.2.Writes), .val (.int .i64 p.1.2.2.2.2.2.Keep), .val (.bool p.1.2.2.2.2.2.Down)]))]⟩ : ASt)) (fun p => p.1.1) ⟨(k, x4.2, x5.2, 0, x4.1, x5.1), ho6⟩ (by (refine weak_mk rfl rfl ?_ ?_ rfl <;> repeat' (first | exact trivial | refine ⟨?_, ?_⟩ | exact VLe.refl _ | exact BLe.refl _ | refine VLe.one (CLe.val ?_) | exact VLe.one (CLe.nil _) | exact VLe.one (CLe.emp _)))) 0 (ε := Unit) (fun x => (⟨143, [], [], []⟩ : ASt)) (fun x => o6 = Sum.inl x) (fun _ _ w h => aw_weak w h) ?_ ?_
  · intro x6_0 hI6
    subst hI6
    replace h := Md.onS_l h
    change AW _ _ (⟨143, [], [], []⟩ : ASt) _
    refine aw_seq ?_
    refine aw_region ?_
    refine aops_step1 rfl (st_assign rfl rfl) ?_
    refine aops_nil ?_
    cases Option.some.inj h
    refine aw_ret ⟨rfl, ret_v (.inl ⟨_, rfl, rfl, fun _ e => nomatch e⟩) rfl rfl rfl ?_⟩
    (repeat' (first | exact TLe.refl _ | exact VLe.refl _ | exact CLe.refl _ | exact All2.nil | refine TLe.tup ?_ | refine TLe.v ?_ | refine All2.cons ?_ ?_ | refine VLe.agg ?_ | refine VLe.one ?_ | exact CLe.nil _ | exact CLe.emp _ | refine CLe.val ?_ | refine CLe.slc ?_ ?_))
  intro p6
  obtain ⟨⟨n6, s6_0, s6_1, s6_2, s6_3, s6_4⟩, l6⟩ := p6
  change AW _ _ (⟨143, [], [(1, .one (CV.ls c_Actorgridlaw26Act a1)), (5, .one (.ptr 0 0)), (6, .one (.val (.int .i64 s6_0))), (7, .one (.ptr 1 0)), (8, .one (.val (.int .i64 s6_1))), (9, .one (.val (.int .i64 ((s6_2 : Nat) : Int))))], [(0, some (.box [CV.ls byC s6_3.Data, .val (.int .i64 s6_3.Capacity), .val (.bool s6_3.Armed), .val (.int .i64 s6_3.Writes), .val (.int .i64 s6_3.Keep), .val (.bool s6_3.Down)])), (1, some (.box [CV.ls byC s6_4.Data, .val (.int .i64 s6_4.Capacity), .val (.bool s6_4.Armed), .val (.int .i64 s6_4.Writes), .val (.int .i64 s6_4.Keep), .val (.bool s6_4.Down)]))]⟩ : ASt) _
  replace l6 : actorgridlaw26_DiskSequences_loop1 k a1 n6 s6_0 s6_1 s6_2 s6_3 s6_4 = some o6 := l6
  rcases n6 with _ | n6
  · exact absurd (show none = some o6 from l6) nofun
  rw [actorgridlaw26_DiskSequences_loop1] at l6
  refine aw_seq ?_
  refine aw_seq ?_
  refine aw_region ?_
  refine aops_step1 rfl (st_move rfl rfl) ?_
  refine aops_step1 rfl (st_move rfl rfl) ?_
  refine aops_step1 rfl (ev_len_slc rfl rfl) ?_
  refine aops_step1 rfl (ev_cmp rfl rfl rfl rfl) ?_
  refine aops_nil ?_
  refine aw_cond rfl (fun c7 => ?_) (fun c7 => ?_)
  · replace l6 := Md.cond_t l6 c7
    refine aw_skip ?_
    refine aw_seq ?_
    refine aw_block ?_
    obtain ⟨g8, l6⟩ := Md.ifp_s l6
    refine aw_seq ?_
    refine aw_region ?_
    refine aops_step1 rfl (st_move rfl rfl) ?_
    refine aops_step1 rfl (st_move rfl rfl) ?_
    refine aops_step1 rfl (ev_index_in rfl rfl rfl g8 rfl rfl) ?_
    refine aops_step1 rfl (ev_loads_in (ds := [_, _, _, _]) rfl rfl rfl rfl) ?_
    refine aops_step1 rfl (st_alloc (cs := [.val (.int .u8 0), .val (.slice none 0 0), .val (.int .u8 0), .val (.int .u8 0)]) 2 rfl rfl rfl rfl rfl) ?_
    refine aops_step1 rfl (st_store (cs' := [_, _, _, _]) rfl rfl rfl rfl rfl rfl rfl rfl rfl) ?_
    refine aops_nil ?_
    refine aw_seq ?_
    refine aw_seq ?_
    refine aw_region ?_
    refine aops_step1 rfl (ev_field rfl rfl rfl) ?_
    refine aops_step1 rfl (ev_load rfl rfl rfl rfl) ?_
    refine aops_step1 rfl (ev_len_slc rfl rfl) ?_
    refine aops_step1 rfl (ev_cmp rfl rfl rfl rfl) ?_
    refine aops_nil ?_
    refine aw_cond rfl (fun c9 => ?_) (fun c9 => ?_)
    · replace l6 := Md.cond_t l6 c9
      refine aw_seq ?_
      refine aw_region ?_
      refine aops_step1 rfl (st_assign rfl rfl) ?_
      refine aops_nil ?_
      cases Option.some.inj l6
      replace h := Md.onS_r h
      cases Option.some.inj h
      refine aw_ret ⟨rfl, ret_v (.inl ⟨_, rfl, rfl, fun _ e => nomatch e⟩) rfl rfl rfl ?_⟩
      (repeat' (first | exact TLe.refl _ | exact VLe.refl _ | exact CLe.refl _ | exact All2.nil | refine TLe.tup ?_ | refine TLe.v ?_ | refine All2.cons ?_ ?_ | refine VLe.agg ?_ | refine VLe.one ?_ | exact CLe.nil _ | exact CLe.emp _ | refine CLe.val ?_ | refine CLe.slc ?_ ?_))
    replace l6 := Md.cond_f l6 c9
    refine aw_skip ?_
    refine aw_seq ?_
    refine aw_seq ?_
    refine aw_region ?_
    refine aops_step1 rfl (ev_field rfl rfl rfl) ?_
    refine aops_step1 rfl (ev_load rfl rfl rfl rfl) ?_
    refine aops_step1 rfl (ev_rem rfl rfl rfl (by decide) (Md.rem_u8 ((a1.getD s6_2 default).Kind) (5 : UInt8))) ?_
    refine aops_nil ?_
    refine aw_block ?_
    refine aw_seq ?_
    refine aw_seq ?_
    refine aw_region ?_
    refine aops_step1 rfl (ev_cmp rfl rfl rfl rfl) ?_
    refine aops_step1 rfl (st_assign rfl rfl) ?_
    refine aops_nil ?_
    refine aw_cond rfl (fun c10 => ?_) (fun c10 => ?_)
    · replace l6 := Md.cond_t l6 c10
      refine aw_skip ?_
      refine aw_yes rfl (c10) ?_
      obtain ⟨x11, hx11, l6⟩ := Md.bind_s l6
      refine aw_seq ?_
      refine aw_region ?_
      refine aops_step1 rfl (ev_loads (ds := [_, _, _, _, _, _]) rfl rfl rfl rfl rfl) ?_
      refine aops_step1 rfl (ev_field rfl rfl rfl) ?_
      refine aops_step1 rfl (ev_load rfl rfl rfl rfl) ?_
      refine aops_step1 rfl (ev_call_v (disk_Append_fn k s6_3 ((a1.getD s6_2 default).B) x11 hx11) rfl [] (by repeat' (first | exact All2.nil | refine All2.cons ?_ ?_ | refine ArgV.one ?_ | refine ArgV.agg ?_ | exact ArgC.mk rfl | exact ArgC.lend rfl (by simp) | exact ArgC.le (CLe.nil _) rfl | exact ArgC.le (CLe.emp _) rfl | exact ArgC.le (CLe.any _) rfl)) rfl rfl rfl (.inl rfl) rfl) ?_
      refine aops_step1 rfl (st_movet rfl rfl) ?_
      refine aops_step1 rfl (ev_extract rfl rfl rfl) ?_
      refine aops_step1 rfl (ev_extract rfl rfl rfl) ?_
      refine aops_step1 rfl (st_store (cs' := [_, _, _, _, _, _]) rfl rfl rfl rfl rfl rfl rfl rfl rfl) ?_
      refine aops_step1 rfl (st_assign rfl rfl) ?_
      refine aops_nil ?_
      obtain ⟨x12, hx12, l6⟩ := Md.bind_s l6
      refine aw_region ?_
      refine aops_step1 rfl (ev_loads (ds := [_, _, _, _, _, _]) rfl rfl rfl rfl rfl) ?_
      refine aops_step1 rfl (ev_field rfl rfl rfl) ?_
      refine aops_step1 rfl (ev_load rfl rfl rfl rfl) ?_
      refine aops_step1 rfl (ev_call_v (actorgridref26_AppendDisk_fn k s6_4 ((a1.getD s6_2 default).B) x12 hx12) rfl [] (by repeat' (first | exact All2.nil | refine All2.cons ?_ ?_ | refine ArgV.one ?_ | refine ArgV.agg ?_ | exact ArgC.mk rfl | exact ArgC.lend rfl (by simp) | exact ArgC.le (CLe.nil _) rfl | exact ArgC.le (CLe.emp _) rfl | exact ArgC.le (CLe.any _) rfl)) rfl rfl rfl (.inl rfl) rfl) ?_
      refine aops_step1 rfl (st_movet rfl rfl) ?_
      refine aops_step1 rfl (ev_extract rfl rfl rfl) ?_
      refine aops_step1 rfl (ev_extract rfl rfl rfl) ?_
      refine aops_step1 rfl (st_store (cs' := [_, _, _, _, _, _]) rfl rfl rfl rfl rfl rfl rfl rfl rfl) ?_
      refine aops_step1 rfl (st_assign rfl rfl) ?_
      refine aops_nil ?_
      obtain ⟨x13, hx13, l6⟩ := Md.bind_s l6
      rcases Md.bool_or ((!x13)) with q14 | q14
      · replace l6 := Md.cond_t l6 q14
        refine aw_seq ?_
        refine aw_region ?_
        refine aops_step1 rfl (ev_loads (ds := [_, _, _, _, _, _]) rfl rfl rfl rfl rfl) ?_
        refine aops_step1 rfl (st_move rfl rfl) ?_
        refine aops_step1 rfl (ev_loads (ds := [_, _, _, _, _, _]) rfl rfl rfl rfl rfl) ?_
        refine aops_step1 rfl (st_move rfl rfl) ?_
        refine aops_step1 rfl (ev_call_v (actorgridlaw26_same_fn k x11.1 x11.2 x12.1 x12.2 x13 hx13) rfl [] (by repeat' (first | exact All2.nil | refine All2.cons ?_ ?_ | refine ArgV.one ?_ | refine ArgV.agg ?_ | exact ArgC.mk rfl | exact ArgC.lend rfl (by simp) | exact ArgC.le (CLe.nil _) rfl | exact ArgC.le (CLe.emp _) rfl | exact ArgC.le (CLe.any _) rfl)) rfl rfl rfl (.inl rfl) rfl) ?_
        refine aops_step1 rfl (ev_not rfl rfl) ?_
        refine aops_step1 rfl (st_move rfl rfl) ?_
        refine aops_no rfl rfl rfl rfl rfl (by first | decide | (rw [q14]; decide)) ?_
        refine aops_no rfl rfl rfl rfl rfl (by first | decide | (rw [q14]; decide)) ?_
        refine aops_no rfl rfl rfl rfl rfl (by first | decide | (rw [q14]; decide)) ?_
        refine aops_step1 rfl (st_pick_yes rfl (by first | rfl | exact q14) rfl rfl) ?_
        refine aops_nil ?_
        refine aw_yes rfl (rfl) ?_
        refine aw_seq ?_
        refine aw_region ?_
        refine aops_step1 rfl (st_assign rfl rfl) ?_
        refine aops_nil ?_
        cases Option.some.inj l6
        replace h := Md.onS_r h
        cases Option.some.inj h
        refine aw_ret ⟨rfl, ret_v (.inl ⟨_, rfl, rfl, fun _ e => nomatch e⟩) rfl rfl rfl ?_⟩
        (repeat' (first | exact TLe.refl _ | exact VLe.refl _ | exact CLe.refl _ | exact All2.nil | refine TLe.tup ?_ | refine TLe.v ?_ | refine All2.cons ?_ ?_ | refine VLe.agg ?_ | refine VLe.one ?_ | exact CLe.nil _ | exact CLe.emp _ | refine CLe.val ?_ | refine CLe.slc ?_ ?_))
      replace l6 := Md.cond_f l6 q14
      obtain ⟨x15, hx15, l6⟩ := Md.bind_s l6
      refine aw_seq ?_
      refine aw_region ?_
      refine aops_step1 rfl (ev_loads (ds := [_, _, _, _, _, _]) rfl rfl rfl rfl rfl) ?_
      refine aops_step1 rfl (st_move rfl rfl) ?_
      refine aops_step1 rfl (ev_loads (ds := [_, _, _, _, _, _]) rfl rfl rfl rfl rfl) ?_
      refine aops_step1 rfl (st_move rfl rfl) ?_
      refine aops_step1 rfl (ev_call_v (actorgridlaw26_same_fn k x11.1 x11.2 x12.1 x12.2 x13 hx13) rfl [] (by repeat' (first | exact All2.nil | refine All2.cons ?_ ?_ | refine ArgV.one ?_ | refine ArgV.agg ?_ | exact ArgC.mk rfl | exact ArgC.lend rfl (by simp) | exact ArgC.le (CLe.nil _) rfl | exact ArgC.le (CLe.emp _) rfl | exact ArgC.le (CLe.any _) rfl)) rfl rfl rfl (.inl rfl) rfl) ?_
      refine aops_step1 rfl (ev_not rfl rfl) ?_
      refine aops_step1 rfl (st_move rfl rfl) ?_
      refine aops_yes rfl rfl rfl rfl q14 (ev_loads (ds := [_, _, _, _, _, _]) rfl rfl rfl rfl rfl) ?_
      refine aops_yes rfl rfl rfl rfl q14 (ev_call_v (disk_Valid_fn k x11.1 x15 hx15) rfl [] (by repeat' (first | exact All2.nil | refine All2.cons ?_ ?_ | refine ArgV.one ?_ | refine ArgV.agg ?_ | exact ArgC.mk rfl | exact ArgC.lend rfl (by simp) | exact ArgC.le (CLe.nil _) rfl | exact ArgC.le (CLe.emp _) rfl | exact ArgC.le (CLe.any _) rfl)) rfl rfl rfl (.inl rfl) rfl) ?_
      refine aops_yes rfl rfl rfl rfl q14 (ev_not rfl rfl) ?_
      refine aops_step1 rfl (st_pick_no rfl (by first | rfl | exact q14) rfl rfl) ?_
      refine aops_nil ?_
      refine aw_cond rfl (fun c16 => ?_) (fun c16 => ?_)
      · replace l6 := Md.cond_t l6 c16
        refine aw_seq ?_
        refine aw_region ?_
        refine aops_step1 rfl (st_assign rfl rfl) ?_
        refine aops_nil ?_
        cases Option.some.inj l6
        replace h := Md.onS_r h
        cases Option.some.inj h
        refine aw_ret ⟨rfl, ret_v (.inl ⟨_, rfl, rfl, fun _ e => nomatch e⟩) rfl rfl rfl ?_⟩
        (repeat' (first | exact TLe.refl _ | exact VLe.refl _ | exact CLe.refl _ | exact All2.nil | refine TLe.tup ?_ | refine TLe.v ?_ | refine All2.cons ?_ ?_ | refine VLe.agg ?_ | refine VLe.one ?_ | exact CLe.nil _ | exact CLe.emp _ | refine CLe.val ?_ | refine CLe.slc ?_ ?_))
      replace l6 := Md.cond_f l6 c16
      refine aw_skip ?_
      obtain ⟨g17, l6⟩ := Md.ifp_s l6
      refine aw_region ?_
      refine aops_step1 rfl (st_move rfl rfl) ?_
      refine aops_step1 rfl (ev_add rfl rfl rfl (Md.nat_add g17)) ?_
      refine aops_step1 rfl (st_assign rfl rfl) ?_
      refine aops_nil ?_
      exact ⟨⟨(n6, x11.2, x12.2, (s6_2 + 1), x11.1, x12.1), l6⟩, Nat.lt_succ_self _, (by (refine weak_mk rfl rfl ?_ ?_ rfl <;> repeat' (first | exact trivial | refine ⟨?_, ?_⟩ | exact VLe.refl _ | exact BLe.refl _ | refine VLe.one (CLe.val ?_) | exact VLe.one (CLe.nil _) | exact VLe.one (CLe.emp _))))⟩
    replace l6 := Md.cond_f l6 c10
    refine aw_region ?_
    refine aops_step1 rfl (ev_cmp rfl rfl rfl rfl) ?_
    refine aops_step1 rfl (st_assign rfl rfl) ?_
    refine aops_nil ?_
    refine aw_cond rfl (fun c18 => ?_) (fun c18 => ?_)
    · replace l6 := Md.cond_t l6 c18
      obtain ⟨x19, hx19, l6⟩ := Md.bind_s l6
      refine aw_seq ?_
      refine aw_region ?_
      refine aops_step1 rfl (ev_loads (ds := [_, _, _, _, _, _]) rfl rfl rfl rfl rfl) ?_
      refine aops_step1 rfl (ev_field rfl rfl rfl) ?_
      refine aops_step1 rfl (ev_load rfl rfl rfl rfl) ?_
      refine aops_step1 rfl (ev_call_v (disk_Append_fn k s6_3 ((a1.getD s6_2 default).B) x19 hx19) rfl [] (by repeat' (first | exact All2.nil | refine All2.cons ?_ ?_ | refine ArgV.one ?_ | refine ArgV.agg ?_ | exact ArgC.mk rfl | exact ArgC.lend rfl (by simp) | exact ArgC.le (CLe.nil _) rfl | exact ArgC.le (CLe.emp _) rfl | exact ArgC.le (CLe.any _) rfl)) rfl rfl rfl (.inl rfl) rfl) ?_
      refine aops_step1 rfl (st_movet rfl rfl) ?_
      refine aops_step1 rfl (ev_extract rfl rfl rfl) ?_
      refine aops_step1 rfl (ev_extract rfl rfl rfl) ?_
      refine aops_step1 rfl (st_store (cs' := [_, _, _, _, _, _]) rfl rfl rfl rfl rfl rfl rfl rfl rfl) ?_
      refine aops_step1 rfl (st_assign rfl rfl) ?_
      refine aops_nil ?_
      obtain ⟨x20, hx20, l6⟩ := Md.bind_s l6
      refine aw_region ?_
      refine aops_step1 rfl (ev_loads (ds := [_, _, _, _, _, _]) rfl rfl rfl rfl rfl) ?_
      refine aops_step1 rfl (ev_field rfl rfl rfl) ?_
      refine aops_step1 rfl (ev_load rfl rfl rfl rfl) ?_
      refine aops_step1 rfl (ev_call_v (actorgridref26_AppendDisk_fn k s6_4 ((a1.getD s6_2 default).B) x20 hx20) rfl [] (by repeat' (first | exact All2.nil | refine All2.cons ?_ ?_ | refine ArgV.one ?_ | refine ArgV.agg ?_ | exact ArgC.mk rfl | exact ArgC.lend rfl (by simp) | exact ArgC.le (CLe.nil _) rfl | exact ArgC.le (CLe.emp _) rfl | exact ArgC.le (CLe.any _) rfl)) rfl rfl rfl (.inl rfl) rfl) ?_
      refine aops_step1 rfl (st_movet rfl rfl) ?_
      refine aops_step1 rfl (ev_extract rfl rfl rfl) ?_
      refine aops_step1 rfl (ev_extract rfl rfl rfl) ?_
      refine aops_step1 rfl (st_store (cs' := [_, _, _, _, _, _]) rfl rfl rfl rfl rfl rfl rfl rfl rfl) ?_
      refine aops_step1 rfl (st_assign rfl rfl) ?_
      refine aops_nil ?_
      obtain ⟨x21, hx21, l6⟩ := Md.bind_s l6
      rcases Md.bool_or ((!x21)) with q22 | q22
      · replace l6 := Md.cond_t l6 q22
        refine aw_seq ?_
        refine aw_region ?_
        refine aops_step1 rfl (ev_loads (ds := [_, _, _, _, _, _]) rfl rfl rfl rfl rfl) ?_
        refine aops_step1 rfl (st_move rfl rfl) ?_
        refine aops_step1 rfl (ev_loads (ds := [_, _, _, _, _, _]) rfl rfl rfl rfl rfl) ?_
        refine aops_step1 rfl (st_move rfl rfl) ?_
        refine aops_step1 rfl (ev_call_v (actorgridlaw26_same_fn k x19.1 x19.2 x20.1 x20.2 x21 hx21) rfl [] (by repeat' (first | exact All2.nil | refine All2.cons ?_ ?_ | refine ArgV.one ?_ | refine ArgV.agg ?_ | exact ArgC.mk rfl | exact ArgC.lend rfl (by simp) | exact ArgC.le (CLe.nil _) rfl | exact ArgC.le (CLe.emp _) rfl | exact ArgC.le (CLe.any _) rfl)) rfl rfl rfl (.inl rfl) rfl) ?_
        refine aops_step1 rfl (ev_not rfl rfl) ?_
        refine aops_step1 rfl (st_move rfl rfl) ?_
        refine aops_no rfl rfl rfl rfl rfl (by first | decide | (rw [q22]; decide)) ?_
        refine aops_no rfl rfl rfl rfl rfl (by first | decide | (rw [q22]; decide)) ?_
        refine aops_no rfl rfl rfl rfl rfl (by first | decide | (rw [q22]; decide)) ?_
        refine aops_step1 rfl (st_pick_yes rfl (by first | rfl | exact q22) rfl rfl) ?_
        refine aops_nil ?_
        refine aw_yes rfl (rfl) ?_
        refine aw_seq ?_
        refine aw_region ?_
        refine aops_step1 rfl (st_assign rfl rfl) ?_
        refine aops_nil ?_
        cases Option.some.inj l6
        replace h := Md.onS_r h
        cases Option.some.inj h
        refine aw_ret ⟨rfl, ret_v (.inl ⟨_, rfl, rfl, fun _ e => nomatch e⟩) rfl rfl rfl ?_⟩
        (repeat' (first | exact TLe.refl _ | exact VLe.refl _ | exact CLe.refl _ | exact All2.nil | refine TLe.tup ?_ | refine TLe.v ?_ | refine All2.cons ?_ ?_ | refine VLe.agg ?_ | refine VLe.one ?_ | exact CLe.nil _ | exact CLe.emp _ | refine CLe.val ?_ | refine CLe.slc ?_ ?_))
      replace l6 := Md.cond_f l6 q22
      obtain ⟨x23, hx23, l6⟩ := Md.bind_s l6
      refine aw_seq ?_
      refine aw_region ?_
      refine aops_step1 rfl (ev_loads (ds := [_, _, _, _, _, _]) rfl rfl rfl rfl rfl) ?_
      refine aops_step1 rfl (st_move rfl rfl) ?_
      refine aops_step1 rfl (ev_loads (ds := [_, _, _, _, _, _]) rfl rfl rfl rfl rfl) ?_
      refine aops_step1 rfl (st_move rfl rfl) ?_
      refine aops_step1 rfl (ev_call_v (actorgridlaw26_same_fn k x19.1 x19.2 x20.1 x20.2 x21 hx21) rfl [] (by repeat' (first | exact All2.nil | refine All2.cons ?_ ?_ | refine ArgV.one ?_ | refine ArgV.agg ?_ | exact ArgC.mk rfl | exact ArgC.lend rfl (by simp) | exact ArgC.le (CLe.nil _) rfl | exact ArgC.le (CLe.emp _) rfl | exact ArgC.le (CLe.any _) rfl)) rfl rfl rfl (.inl rfl) rfl) ?_
      refine aops_step1 rfl (ev_not rfl rfl) ?_
      refine aops_step1 rfl (st_move rfl rfl) ?_
      refine aops_yes rfl rfl rfl rfl q22 (ev_loads (ds := [_, _, _, _, _, _]) rfl rfl rfl rfl rfl) ?_
      refine aops_yes rfl rfl rfl rfl q22 (ev_call_v (disk_Valid_fn k x19.1 x23 hx23) rfl [] (by repeat' (first | exact All2.nil | refine All2.cons ?_ ?_ | refine ArgV.one ?_ | refine ArgV.agg ?_ | exact ArgC.mk rfl | exact ArgC.lend rfl (by simp) | exact ArgC.le (CLe.nil _) rfl | exact ArgC.le (CLe.emp _) rfl | exact ArgC.le (CLe.any _) rfl)) rfl rfl rfl (.inl rfl) rfl) ?_
      refine aops_yes rfl rfl rfl rfl q22 (ev_not rfl rfl) ?_
      refine aops_step1 rfl (st_pick_no rfl (by first | rfl | exact q22) rfl rfl) ?_
      refine aops_nil ?_
      refine aw_cond rfl (fun c24 => ?_) (fun c24 => ?_)
      · replace l6 := Md.cond_t l6 c24
        refine aw_seq ?_
        refine aw_region ?_
        refine aops_step1 rfl (st_assign rfl rfl) ?_
        refine aops_nil ?_
        cases Option.some.inj l6
        replace h := Md.onS_r h
        cases Option.some.inj h
        refine aw_ret ⟨rfl, ret_v (.inl ⟨_, rfl, rfl, fun _ e => nomatch e⟩) rfl rfl rfl ?_⟩
        (repeat' (first | exact TLe.refl _ | exact VLe.refl _ | exact CLe.refl _ | exact All2.nil | refine TLe.tup ?_ | refine TLe.v ?_ | refine All2.cons ?_ ?_ | refine VLe.agg ?_ | refine VLe.one ?_ | exact CLe.nil _ | exact CLe.emp _ | refine CLe.val ?_ | refine CLe.slc ?_ ?_))
      replace l6 := Md.cond_f l6 c24
      refine aw_skip ?_
      obtain ⟨g25, l6⟩ := Md.ifp_s l6
      refine aw_region ?_
      refine aops_step1 rfl (st_move rfl rfl) ?_
      refine aops_step1 rfl (ev_add rfl rfl rfl (Md.nat_add g25)) ?_
      refine aops_step1 rfl (st_assign rfl rfl) ?_
      refine aops_nil ?_
      exact ⟨⟨(n6, x19.2, x20.2, (s6_2 + 1), x19.1, x20.1), l6⟩, Nat.lt_succ_self _, (by (refine weak_mk rfl rfl ?_ ?_ rfl <;> repeat' (first | exact trivial | refine ⟨?_, ?_⟩ | exact VLe.refl _ | exact BLe.refl _ | refine VLe.one (CLe.val ?_) | exact VLe.one (CLe.nil _) | exact VLe.one (CLe.emp _))))⟩
    replace l6 := Md.cond_f l6 c18
    refine aw_seq ?_
    refine aw_region ?_
    refine aops_step1 rfl (ev_cmp rfl rfl rfl rfl) ?_
    refine aops_step1 rfl (st_assign rfl rfl) ?_
    refine aops_nil ?_
    refine aw_cond rfl (fun c26 => ?_) (fun c26 => ?_)
    · replace l6 := Md.cond_t l6 c26
      obtain ⟨x27, hx27, l6⟩ := Md.bind_s l6
      refine aw_seq ?_
      refine aw_region ?_
      refine aops_step1 rfl (ev_loads (ds := [_, _, _, _, _, _]) rfl rfl rfl rfl rfl) ?_
      refine aops_step1 rfl (ev_field rfl rfl rfl) ?_
      refine aops_step1 rfl (ev_load rfl rfl rfl rfl) ?_
      refine aops_step1 rfl (st_conv_int rfl rfl Try.underlying5 Try.underlying3 (Md.conv_u8_i64 ((a1.getD s6_2 default).N))) ?_
      refine aops_step1 rfl (ev_call_v (disk_Truncate_fn k s6_3 ((((a1.getD s6_2 default).N).toNat : Nat) : Int) x27 hx27) rfl [] (by repeat' (first | exact All2.nil | refine All2.cons ?_ ?_ | refine ArgV.one ?_ | refine ArgV.agg ?_ | exact ArgC.mk rfl | exact ArgC.lend rfl (by simp) | exact ArgC.le (CLe.nil _) rfl | exact ArgC.le (CLe.emp _) rfl | exact ArgC.le (CLe.any _) rfl)) rfl rfl rfl (.inl rfl) rfl) ?_
      refine aops_step1 rfl (st_movet rfl rfl) ?_
      refine aops_step1 rfl (ev_extract rfl rfl rfl) ?_
      refine aops_step1 rfl (ev_extract rfl rfl rfl) ?_
      refine aops_step1 rfl (st_store (cs' := [_, _, _, _, _, _]) rfl rfl rfl rfl rfl rfl rfl rfl rfl) ?_
      refine aops_step1 rfl (st_assign rfl rfl) ?_
      refine aops_nil ?_
      obtain ⟨x28, hx28, l6⟩ := Md.bind_s l6
      refine aw_region ?_
      refine aops_step1 rfl (ev_loads (ds := [_, _, _, _, _, _]) rfl rfl rfl rfl rfl) ?_
      refine aops_step1 rfl (ev_field rfl rfl rfl) ?_
      refine aops_step1 rfl (ev_load rfl rfl rfl rfl) ?_
      refine aops_step1 rfl (st_conv_int rfl rfl Try.underlying5 Try.underlying3 (Md.conv_u8_i64 ((a1.getD s6_2 default).N))) ?_
      refine aops_step1 rfl (ev_call_v (actorgridref26_Truncate_fn k s6_4 ((((a1.getD s6_2 default).N).toNat : Nat) : Int) x28 hx28) rfl [] (by repeat' (first | exact All2.nil | refine All2.cons ?_ ?_ | refine ArgV.one ?_ | refine ArgV.agg ?_ | exact ArgC.mk rfl | exact ArgC.lend rfl (by simp) | exact ArgC.le (CLe.nil _) rfl | exact ArgC.le (CLe.emp _) rfl | exact ArgC.le (CLe.any _) rfl)) rfl rfl rfl (.inl rfl) rfl) ?_
      refine aops_step1 rfl (st_movet rfl rfl) ?_
      refine aops_step1 rfl (ev_extract rfl rfl rfl) ?_
      refine aops_step1 rfl (ev_extract rfl rfl rfl) ?_
      refine aops_step1 rfl (st_store (cs' := [_, _, _, _, _, _]) rfl rfl rfl rfl rfl rfl rfl rfl rfl) ?_
      refine aops_step1 rfl (st_assign rfl rfl) ?_
      refine aops_nil ?_
      obtain ⟨x29, hx29, l6⟩ := Md.bind_s l6
      rcases Md.bool_or ((!x29)) with q30 | q30
      · replace l6 := Md.cond_t l6 q30
        refine aw_seq ?_
        refine aw_region ?_
        refine aops_step1 rfl (ev_loads (ds := [_, _, _, _, _, _]) rfl rfl rfl rfl rfl) ?_
        refine aops_step1 rfl (st_move rfl rfl) ?_
        refine aops_step1 rfl (ev_loads (ds := [_, _, _, _, _, _]) rfl rfl rfl rfl rfl) ?_
        refine aops_step1 rfl (st_move rfl rfl) ?_
        refine aops_step1 rfl (ev_call_v (actorgridlaw26_same_fn k x27.1 x27.2 x28.1 x28.2 x29 hx29) rfl [] (by repeat' (first | exact All2.nil | refine All2.cons ?_ ?_ | refine ArgV.one ?_ | refine ArgV.agg ?_ | exact ArgC.mk rfl | exact ArgC.lend rfl (by simp) | exact ArgC.le (CLe.nil _) rfl | exact ArgC.le (CLe.emp _) rfl | exact ArgC.le (CLe.any _) rfl)) rfl rfl rfl (.inl rfl) rfl) ?_
        refine aops_step1 rfl (ev_not rfl rfl) ?_
        refine aops_step1 rfl (st_move rfl rfl) ?_
        refine aops_no rfl rfl rfl rfl rfl (by first | decide | (rw [q30]; decide)) ?_
        refine aops_no rfl rfl rfl rfl rfl (by first | decide | (rw [q30]; decide)) ?_
        refine aops_no rfl rfl rfl rfl rfl (by first | decide | (rw [q30]; decide)) ?_
        refine aops_step1 rfl (st_pick_yes rfl (by first | rfl | exact q30) rfl rfl) ?_
        refine aops_nil ?_
        refine aw_yes rfl (rfl) ?_
        refine aw_seq ?_
        refine aw_region ?_
        refine aops_step1 rfl (st_assign rfl rfl) ?_
        refine aops_nil ?_
        cases Option.some.inj l6
        replace h := Md.onS_r h
        cases Option.some.inj h
        refine aw_ret ⟨rfl, ret_v (.inl ⟨_, rfl, rfl, fun _ e => nomatch e⟩) rfl rfl rfl ?_⟩
        (repeat' (first | exact TLe.refl _ | exact VLe.refl _ | exact CLe.refl _ | exact All2.nil | refine TLe.tup ?_ | refine TLe.v ?_ | refine All2.cons ?_ ?_ | refine VLe.agg ?_ | refine VLe.one ?_ | exact CLe.nil _ | exact CLe.emp _ | refine CLe.val ?_ | refine CLe.slc ?_ ?_))
      replace l6 := Md.cond_f l6 q30
      obtain ⟨x31, hx31, l6⟩ := Md.bind_s l6
      refine aw_seq ?_
      refine aw_region ?_
      refine aops_step1 rfl (ev_loads (ds := [_, _, _, _, _, _]) rfl rfl rfl rfl rfl) ?_
      refine aops_step1 rfl (st_move rfl rfl) ?_
      refine aops_step1 rfl (ev_loads (ds := [_, _, _, _, _, _]) rfl rfl rfl rfl rfl) ?_
      refine aops_step1 rfl (st_move rfl rfl) ?_
      refine aops_step1 rfl (ev_call_v (actorgridlaw26_same_fn k x27.1 x27.2 x28.1 x28.2 x29 hx29) rfl [] (by repeat' (first | exact All2.nil | refine All2.cons ?_ ?_ | refine ArgV.one ?_ | refine ArgV.agg ?_ | exact ArgC.mk rfl | exact ArgC.lend rfl (by simp) | exact ArgC.le (CLe.nil _) rfl | exact ArgC.le (CLe.emp _) rfl | exact ArgC.le (CLe.any _) rfl)) rfl rfl rfl (.inl rfl) rfl) ?_
      refine aops_step1 rfl (ev_not rfl rfl) ?_
      refine aops_step1 rfl (st_move rfl rfl) ?_
      refine aops_yes rfl rfl rfl rfl q30 (ev_loads (ds := [_, _, _, _, _, _]) rfl rfl rfl rfl rfl) ?_
      refine aops_yes rfl rfl rfl rfl q30 (ev_call_v (disk_Valid_fn k x27.1 x31 hx31) rfl [] (by repeat' (first | exact All2.nil | refine All2.cons ?_ ?_ | refine ArgV.one ?_ | refine ArgV.agg ?_ | exact ArgC.mk rfl | exact ArgC.lend rfl (by simp) | exact ArgC.le (CLe.nil _) rfl | exact ArgC.le (CLe.emp _) rfl | exact ArgC.le (CLe.any _) rfl)) rfl rfl rfl (.inl rfl) rfl) ?_
      refine aops_yes rfl rfl rfl rfl q30 (ev_not rfl rfl) ?_
      refine aops_step1 rfl (st_pick_no rfl (by first | rfl | exact q30) rfl rfl) ?_
      refine aops_nil ?_
      refine aw_cond rfl (fun c32 => ?_) (fun c32 => ?_)
      · replace l6 := Md.cond_t l6 c32
        refine aw_seq ?_
        refine aw_region ?_
        refine aops_step1 rfl (st_assign rfl rfl) ?_
        refine aops_nil ?_
        cases Option.some.inj l6
        replace h := Md.onS_r h
        cases Option.some.inj h
        refine aw_ret ⟨rfl, ret_v (.inl ⟨_, rfl, rfl, fun _ e => nomatch e⟩) rfl rfl rfl ?_⟩
        (repeat' (first | exact TLe.refl _ | exact VLe.refl _ | exact CLe.refl _ | exact All2.nil | refine TLe.tup ?_ | refine TLe.v ?_ | refine All2.cons ?_ ?_ | refine VLe.agg ?_ | refine VLe.one ?_ | exact CLe.nil _ | exact CLe.emp _ | refine CLe.val ?_ | refine CLe.slc ?_ ?_))
      replace l6 := Md.cond_f l6 c32
      refine aw_skip ?_
      obtain ⟨g33, l6⟩ := Md.ifp_s l6
      refine aw_region ?_
      refine aops_step1 rfl (st_move rfl rfl) ?_
      refine aops_step1 rfl (ev_add rfl rfl rfl (Md.nat_add g33)) ?_
      refine aops_step1 rfl (st_assign rfl rfl) ?_
      refine aops_nil ?_
      exact ⟨⟨(n6, x27.2, x28.2, (s6_2 + 1), x27.1, x28.1), l6⟩, Nat.lt_succ_self _, (by (refine weak_mk rfl rfl ?_ ?_ rfl <;> repeat' (first | exact trivial | refine ⟨?_, ?_⟩ | exact VLe.refl _ | exact BLe.refl _ | refine VLe.one (CLe.val ?_) | exact VLe.one (CLe.nil _) | exact VLe.one (CLe.emp _))))⟩
    replace l6 := Md.cond_f l6 c26
    refine aw_seq ?_
    refine aw_region ?_
    refine aops_step1 rfl (ev_cmp rfl rfl rfl rfl) ?_
    refine aops_step1 rfl (st_assign rfl rfl) ?_
    refine aops_nil ?_
    refine aw_cond rfl (fun c34 => ?_) (fun c34 => ?_)
    · replace l6 := Md.cond_t l6 c34
      obtain ⟨x35, hx35, l6⟩ := Md.bind_s l6
      refine aw_seq ?_
      refine aw_region ?_
      refine aops_step1 rfl (ev_loads (ds := [_, _, _, _, _, _]) rfl rfl rfl rfl rfl) ?_
      refine aops_step1 rfl (ev_field rfl rfl rfl) ?_
      refine aops_step1 rfl (ev_load rfl rfl rfl rfl) ?_
      refine aops_step1 rfl (ev_rem rfl rfl rfl (by decide) (Md.rem_u8 ((a1.getD s6_2 default).N) (6 : UInt8))) ?_
      refine aops_step1 rfl (st_conv_int rfl rfl Try.underlying5 Try.underlying3 (Md.conv_u8_i64 (((a1.getD s6_2 default).N) % (6 : UInt8)))) ?_
      refine aops_step1 rfl (ev_field rfl rfl rfl) ?_
      refine aops_step1 rfl (ev_load rfl rfl rfl rfl) ?_
      refine aops_step1 rfl (st_conv_int rfl rfl Try.underlying5 Try.underlying3 (Md.conv_u8_i64 ((a1.getD s6_2 default).Keep))) ?_
      refine aops_step1 rfl (ev_call_v (disk_Arm_fn k s6_3 (((((a1.getD s6_2 default).N) % (6 : UInt8)).toNat : Nat) : Int) ((((a1.getD s6_2 default).Keep).toNat : Nat) : Int) x35 hx35) rfl [] (by repeat' (first | exact All2.nil | refine All2.cons ?_ ?_ | refine ArgV.one ?_ | refine ArgV.agg ?_ | exact ArgC.mk rfl | exact ArgC.lend rfl (by simp) | exact ArgC.le (CLe.nil _) rfl | exact ArgC.le (CLe.emp _) rfl | exact ArgC.le (CLe.any _) rfl)) rfl rfl rfl (.inl rfl) rfl) ?_
      refine aops_step1 rfl (st_movet rfl rfl) ?_
      refine aops_step1 rfl (ev_extract rfl rfl rfl) ?_
      refine aops_step1 rfl (ev_extract rfl rfl rfl) ?_
      refine aops_step1 rfl (st_alloc (cs := [.val (.slice none 0 0), .val (.int .i64 0), .val (.bool false), .val (.int .i64 0), .val (.int .i64 0), .val (.bool false)]) 3 rfl rfl rfl rfl rfl) ?_
      refine aops_step1 rfl (st_store (cs' := [_, _, _, _, _, _]) rfl rfl rfl rfl rfl rfl rfl rfl rfl) ?_
      refine aops_step1 rfl (st_assign rfl rfl) ?_
      refine aops_nil ?_
      obtain ⟨x36, hx36, l6⟩ := Md.bind_s l6
      refine aw_seq ?_
      refine aw_region ?_
      refine aops_step1 rfl (ev_loads (ds := [_, _, _, _, _, _]) rfl rfl rfl rfl rfl) ?_
      refine aops_step1 rfl (ev_field rfl rfl rfl) ?_
      refine aops_step1 rfl (ev_load rfl rfl rfl rfl) ?_
      refine aops_step1 rfl (ev_rem rfl rfl rfl (by decide) (Md.rem_u8 ((a1.getD s6_2 default).N) (6 : UInt8))) ?_
      refine aops_step1 rfl (st_conv_int rfl rfl Try.underlying5 Try.underlying3 (Md.conv_u8_i64 (((a1.getD s6_2 default).N) % (6 : UInt8)))) ?_
      refine aops_step1 rfl (ev_field rfl rfl rfl) ?_
      refine aops_step1 rfl (ev_load rfl rfl rfl rfl) ?_
      refine aops_step1 rfl (st_conv_int rfl rfl Try.underlying5 Try.underlying3 (Md.conv_u8_i64 ((a1.getD s6_2 default).Keep))) ?_
      refine aops_step1 rfl (ev_call_v (actorgridref26_Arm_fn k s6_4 (((((a1.getD s6_2 default).N) % (6 : UInt8)).toNat : Nat) : Int) ((((a1.getD s6_2 default).Keep).toNat : Nat) : Int) x36 hx36) rfl [] (by repeat' (first | exact All2.nil | refine All2.cons ?_ ?_ | refine ArgV.one ?_ | refine ArgV.agg ?_ | exact ArgC.mk rfl | exact ArgC.lend rfl (by simp) | exact ArgC.le (CLe.nil _) rfl | exact ArgC.le (CLe.emp _) rfl | exact ArgC.le (CLe.any _) rfl)) rfl rfl rfl (.inl rfl) rfl) ?_
      refine aops_step1 rfl (st_movet rfl rfl) ?_
      refine aops_step1 rfl (ev_extract rfl rfl rfl) ?_
      refine aops_step1 rfl (ev_extract rfl rfl rfl) ?_
      refine aops_step1 rfl (st_alloc (cs := [.val (.slice none 0 0), .val (.int .i64 0), .val (.bool false), .val (.int .i64 0), .val (.int .i64 0), .val (.bool false)]) 4 rfl rfl rfl rfl rfl) ?_
      refine aops_step1 rfl (st_store (cs' := [_, _, _, _, _, _]) rfl rfl rfl rfl rfl rfl rfl rfl rfl) ?_
      refine aops_step1 rfl (st_assign rfl rfl) ?_
      refine aops_nil ?_
      refine aw_seq ?_
      obtain ⟨x37, hx37, l6⟩ := Md.bind_s l6
      refine aw_seq ?_
      refine aw_region ?_
      refine aops_step1 rfl (ev_loads (ds := [_, _, _, _, _, _]) rfl rfl rfl rfl rfl) ?_
      refine aops_step1 rfl (st_move rfl rfl) ?_
      refine aops_step1 rfl (ev_loads (ds := [_, _, _, _, _, _]) rfl rfl rfl rfl rfl) ?_
      refine aops_step1 rfl (st_move rfl rfl) ?_
      refine aops_step1 rfl (ev_call_v (actorgridlaw26_same_fn k x35.1 x35.2 x36.1 x36.2 x37 hx37) rfl [] (by repeat' (first | exact All2.nil | refine All2.cons ?_ ?_ | refine ArgV.one ?_ | refine ArgV.agg ?_ | exact ArgC.mk rfl | exact ArgC.lend rfl (by simp) | exact ArgC.le (CLe.nil _) rfl | exact ArgC.le (CLe.emp _) rfl | exact ArgC.le (CLe.any _) rfl)) rfl rfl rfl (.inl rfl) rfl) ?_
      refine aops_step1 rfl (ev_not rfl rfl) ?_
      refine aops_nil ?_
      refine aw_cond rfl (fun c38 => ?_) (fun c38 => ?_)
      · replace l6 := Md.cond_t l6 c38
        refine aw_seq ?_
        refine aw_region ?_
        refine aops_step1 rfl (st_assign rfl rfl) ?_
        refine aops_nil ?_
        cases Option.some.inj l6
        replace h := Md.onS_r h
        cases Option.some.inj h
        refine aw_ret ⟨rfl, ret_v (.inl ⟨_, rfl, rfl, fun _ e => nomatch e⟩) rfl rfl rfl ?_⟩
        (repeat' (first | exact TLe.refl _ | exact VLe.refl _ | exact CLe.refl _ | exact All2.nil | refine TLe.tup ?_ | refine TLe.v ?_ | refine All2.cons ?_ ?_ | refine VLe.agg ?_ | refine VLe.one ?_ | exact CLe.nil _ | exact CLe.emp _ | refine CLe.val ?_ | refine CLe.slc ?_ ?_))
      replace l6 := Md.cond_f l6 c38
      refine aw_skip ?_
      refine aw_seq ?_
      refine aw_region ?_
      refine aops_step1 rfl (st_move rfl rfl) ?_
      refine aops_step1 rfl (ev_cmp rfl rfl rfl rfl) ?_
      refine aops_nil ?_
      refine aw_cond rfl (fun c39 => ?_) (fun c39 => ?_)
      · replace l6 := Md.cond_t l6 c39
        apply aw_late 2 1 ((⟨[], .agg [CV.ls byC x35.1.Data, .val (.int .i64 x35.1.Capacity), .val (.bool x35.1.Armed), .val (.int .i64 x35.1.Writes), .val (.int .i64 x35.1.Keep), .val (.bool x35.1.Down)]⟩ : Add) :: ⟨[], .agg [CV.ls byC x36.1.Data, .val (.int .i64 x36.1.Capacity), .val (.bool x36.1.Armed), .val (.int .i64 x36.1.Writes), .val (.int .i64 x36.1.Keep), .val (.bool x36.1.Down)]⟩ :: []) (by decide) (by decide) rfl rfl rfl ?hk3x ?hf3x ?ho3x ?hr3x ?hl3x
        case ho3x =>
         refine ⟨⟨[], (by decide +kernel), fun S hle hfr => ?_⟩, ?_⟩
         · exact .inl ⟨.inl ⟨rfl, rfl⟩, ev_loads (ds := [_, _, _, _, _, _]) (hle.ev rfl (by nofun)) (hle.heap _ _ rfl) rfl rfl (hle.d rfl)⟩
         refine ⟨⟨[], (by decide +kernel), fun S hle hfr => ?_⟩, ?_⟩
         · exact .inl ⟨.inl ⟨rfl, rfl⟩, ev_loads (ds := [_, _, _, _, _, _]) (hle.ev rfl (by nofun)) (hle.heap _ _ rfl) rfl rfl (hle.d rfl)⟩
         exact trivial
        case hk3x => rfl
        case hf3x => rfl
        case hr3x =>
         refine aops_step1 rfl (st_store (cs' := [_, _, _, _, _, _]) rfl rfl rfl rfl rfl rfl rfl rfl rfl) ?_
         refine aops_step1 rfl (st_store (cs' := [_, _, _, _, _, _]) rfl rfl rfl rfl rfl rfl rfl rfl rfl) ?_
         refine aops_nil ?_
         obtain ⟨x40, hx40, l6⟩ := Md.bind_s l6
         rcases Md.bool_or ((!x40)) with q41 | q41
         · replace l6 := Md.cond_t l6 q41
           refine aw_seq ?_
           refine aw_region ?_
           refine aops_step1 rfl (ev_loads (ds := [_, _, _, _, _, _]) rfl rfl rfl rfl rfl) ?_
           refine aops_step1 rfl (st_move rfl rfl) ?_
           refine aops_step1 rfl (ev_loads (ds := [_, _, _, _, _, _]) rfl rfl rfl rfl rfl) ?_
           refine aops_step1 rfl (st_move rfl rfl) ?_
           refine aops_step1 rfl (ev_call_v (actorgridlaw26_same_fn k x35.1 s6_0 x36.1 s6_1 x40 hx40) rfl [] (by repeat' (first | exact All2.nil | refine All2.cons ?_ ?_ | refine ArgV.one ?_ | refine ArgV.agg ?_ | exact ArgC.mk rfl | exact ArgC.lend rfl (by simp) | exact ArgC.le (CLe.nil _) rfl | exact ArgC.le (CLe.emp _) rfl | exact ArgC.le (CLe.any _) rfl)) rfl rfl rfl (.inl rfl) rfl) ?_
           refine aops_step1 rfl (ev_not rfl rfl) ?_
           refine aops_step1 rfl (st_move rfl rfl) ?_
           refine aops_no rfl rfl rfl rfl rfl (by first | decide | (rw [q41]; decide)) ?_
           refine aops_no rfl rfl rfl rfl rfl (by first | decide | (rw [q41]; decide)) ?_
           refine aops_no rfl rfl rfl rfl rfl (by first | decide | (rw [q41]; decide)) ?_
           refine aops_step1 rfl (st_pick_yes rfl (by first | rfl | exact q41) rfl rfl) ?_
           refine aops_nil ?_
           refine aw_yes rfl (rfl) ?_
           refine aw_seq ?_
           refine aw_region ?_
           refine aops_step1 rfl (st_assign rfl rfl) ?_
           refine aops_nil ?_
           cases Option.some.inj l6
           replace h := Md.onS_r h
           cases Option.some.inj h
           refine aw_ret ⟨rfl, ret_v (.inl ⟨_, rfl, rfl, fun _ e => nomatch e⟩) rfl rfl rfl ?_⟩
           (repeat' (first | exact TLe.refl _ | exact VLe.refl _ | exact CLe.refl _ | exact All2.nil | refine TLe.tup ?_ | refine TLe.v ?_ | refine All2.cons ?_ ?_ | refine VLe.agg ?_ | refine VLe.one ?_ | exact CLe.nil _ | exact CLe.emp _ | refine CLe.val ?_ | refine CLe.slc ?_ ?_))
         replace l6 := Md.cond_f l6 q41
         obtain ⟨x42, hx42, l6⟩ := Md.bind_s l6
         refine aw_seq ?_
         refine aw_region ?_
         refine aops_step1 rfl (ev_loads (ds := [_, _, _, _, _, _]) rfl rfl rfl rfl rfl) ?_
         refine aops_step1 rfl (st_move rfl rfl) ?_
         refine aops_step1 rfl (ev_loads (ds := [_, _, _, _, _, _]) rfl rfl rfl rfl rfl) ?_
         refine aops_step1 rfl (st_move rfl rfl) ?_
         refine aops_step1 rfl (ev_call_v (actorgridlaw26_same_fn k x35.1 s6_0 x36.1 s6_1 x40 hx40) rfl [] (by repeat' (first | exact All2.nil | refine All2.cons ?_ ?_ | refine ArgV.one ?_ | refine ArgV.agg ?_ | exact ArgC.mk rfl | exact ArgC.lend rfl (by simp) | exact ArgC.le (CLe.nil _) rfl | exact ArgC.le (CLe.emp _) rfl | exact ArgC.le (CLe.any _) rfl)) rfl rfl rfl (.inl rfl) rfl) ?_
         refine aops_step1 rfl (ev_not rfl rfl) ?_
         refine aops_step1 rfl (st_move rfl rfl) ?_
         refine aops_yes rfl rfl rfl rfl q41 (ev_loads (ds := [_, _, _, _, _, _]) rfl rfl rfl rfl rfl) ?_
         refine aops_yes rfl rfl rfl rfl q41 (ev_call_v (disk_Valid_fn k x35.1 x42 hx42) rfl [] (by repeat' (first | exact All2.nil | refine All2.cons ?_ ?_ | refine ArgV.one ?_ | refine ArgV.agg ?_ | exact ArgC.mk rfl | exact ArgC.lend rfl (by simp) | exact ArgC.le (CLe.nil _) rfl | exact ArgC.le (CLe.emp _) rfl | exact ArgC.le (CLe.any _) rfl)) rfl rfl rfl (.inl rfl) rfl) ?_
         refine aops_yes rfl rfl rfl rfl q41 (ev_not rfl rfl) ?_
         refine aops_step1 rfl (st_pick_no rfl (by first | rfl | exact q41) rfl rfl) ?_
         refine aops_nil ?_
         refine aw_cond rfl (fun c43 => ?_) (fun c43 => ?_)
         · replace l6 := Md.cond_t l6 c43
           refine aw_seq ?_
           refine aw_region ?_
           refine aops_step1 rfl (st_assign rfl rfl) ?_
           refine aops_nil ?_
           cases Option.some.inj l6
           replace h := Md.onS_r h
           cases Option.some.inj h
           refine aw_ret ⟨rfl, ret_v (.inl ⟨_, rfl, rfl, fun _ e => nomatch e⟩) rfl rfl rfl ?_⟩
           (repeat' (first | exact TLe.refl _ | exact VLe.refl _ | exact CLe.refl _ | exact All2.nil | refine TLe.tup ?_ | refine TLe.v ?_ | refine All2.cons ?_ ?_ | refine VLe.agg ?_ | refine VLe.one ?_ | exact CLe.nil _ | exact CLe.emp _ | refine CLe.val ?_ | refine CLe.slc ?_ ?_))
         replace l6 := Md.cond_f l6 c43
         refine aw_skip ?_
         obtain ⟨g44, l6⟩ := Md.ifp_s l6
         refine aw_region ?_
         refine aops_step1 rfl (st_move rfl rfl) ?_
         refine aops_step1 rfl (ev_add rfl rfl rfl (Md.nat_add g44)) ?_
         refine aops_step1 rfl (st_assign rfl rfl) ?_
         refine aops_nil ?_
         exact ⟨⟨(n6, s6_0, s6_1, (s6_2 + 1), x35.1, x36.1), l6⟩, Nat.lt_succ_self _, (by (refine weak_mk rfl rfl ?_ ?_ rfl <;> repeat' (first | exact trivial | refine ⟨?_, ?_⟩ | exact VLe.refl _ | exact BLe.refl _ | refine VLe.one (CLe.val ?_) | exact VLe.one (CLe.nil _) | exact VLe.one (CLe.emp _))))⟩
        case hl3x =>
         refine aops_step1 rfl (st_store (cs' := [_, _, _, _, _, _]) rfl rfl rfl rfl rfl rfl rfl rfl rfl) ?_
         refine aops_step1 rfl (ev_loads (ds := [_, _, _, _, _, _]) rfl rfl rfl rfl rfl) ?_
         refine aops_step1 rfl (st_store (cs' := [_, _, _, _, _, _]) rfl rfl rfl rfl rfl rfl rfl rfl rfl) ?_
         refine aops_nil ?_
         obtain ⟨x40, hx40, l6⟩ := Md.bind_s l6
         rcases Md.bool_or ((!x40)) with q41 | q41
         · replace l6 := Md.cond_t l6 q41
           refine aw_seq ?_
           refine aw_region ?_
           refine aops_step1 rfl (ev_loads (ds := [_, _, _, _, _, _]) rfl rfl rfl rfl rfl) ?_
           refine aops_step1 rfl (st_move rfl rfl) ?_
           refine aops_step1 rfl (ev_loads (ds := [_, _, _, _, _, _]) rfl rfl rfl rfl rfl) ?_
           refine aops_step1 rfl (st_move rfl rfl) ?_
           refine aops_step1 rfl (ev_call_v (actorgridlaw26_same_fn k x35.1 s6_0 x36.1 s6_1 x40 hx40) rfl [] (by repeat' (first | exact All2.nil | refine All2.cons ?_ ?_ | refine ArgV.one ?_ | refine ArgV.agg ?_ | exact ArgC.mk rfl | exact ArgC.lend rfl (by simp) | exact ArgC.le (CLe.nil _) rfl | exact ArgC.le (CLe.emp _) rfl | exact ArgC.le (CLe.any _) rfl)) rfl rfl rfl (.inl rfl) rfl) ?_
           refine aops_step1 rfl (ev_not rfl rfl) ?_
           refine aops_step1 rfl (st_move rfl rfl) ?_
           refine aops_no rfl rfl rfl rfl rfl (by first | decide | (rw [q41]; decide)) ?_
           refine aops_no rfl rfl rfl rfl rfl (by first | decide | (rw [q41]; decide)) ?_
           refine aops_no rfl rfl rfl rfl rfl (by first | decide | (rw [q41]; decide)) ?_
           refine aops_step1 rfl (st_pick_yes rfl (by first | rfl | exact q41) rfl rfl) ?_
           refine aops_nil ?_
           refine aw_yes rfl (rfl) ?_
           refine aw_seq ?_
           refine aw_region ?_
           refine aops_step1 rfl (st_assign rfl rfl) ?_
           refine aops_nil ?_
           cases Option.some.inj l6
           replace h := Md.onS_r h
           cases Option.some.inj h
           refine aw_ret ⟨rfl, ret_v (.inl ⟨_, rfl, rfl, fun _ e => nomatch e⟩) rfl rfl rfl ?_⟩
           (repeat' (first | exact TLe.refl _ | exact VLe.refl _ | exact CLe.refl _ | exact All2.nil | refine TLe.tup ?_ | refine TLe.v ?_ | refine All2.cons ?_ ?_ | refine VLe.agg ?_ | refine VLe.one ?_ | exact CLe.nil _ | exact CLe.emp _ | refine CLe.val ?_ | refine CLe.slc ?_ ?_))
         replace l6 := Md.cond_f l6 q41
         obtain ⟨x42, hx42, l6⟩ := Md.bind_s l6
         refine aw_seq ?_
         refine aw_region ?_
         refine aops_step1 rfl (ev_loads (ds := [_, _, _, _, _, _]) rfl rfl rfl rfl rfl) ?_
         refine aops_step1 rfl (st_move rfl rfl) ?_
         refine aops_step1 rfl (ev_loads (ds := [_, _, _, _, _, _]) rfl rfl rfl rfl rfl) ?_
         refine aops_step1 rfl (st_move rfl rfl) ?_
         refine aops_step1 rfl (ev_call_v (actorgridlaw26_same_fn k x35.1 s6_0 x36.1 s6_1 x40 hx40) rfl [] (by repeat' (first | exact All2.nil | refine All2.cons ?_ ?_ | refine ArgV.one ?_ | refine ArgV.agg ?_ | exact ArgC.mk rfl | exact ArgC.lend rfl (by simp) | exact ArgC.le (CLe.nil _) rfl | exact ArgC.le (CLe.emp _) rfl | exact ArgC.le (CLe.any _) rfl)) rfl rfl rfl (.inl rfl) rfl) ?_
         refine aops_step1 rfl (ev_not rfl rfl) ?_
         refine aops_step1 rfl (st_move rfl rfl) ?_
         refine aops_yes rfl rfl rfl rfl q41 (ev_loads (ds := [_, _, _, _, _, _]) rfl rfl rfl rfl rfl) ?_
         refine aops_yes rfl rfl rfl rfl q41 (ev_call_v (disk_Valid_fn k x35.1 x42 hx42) rfl [] (by repeat' (first | exact All2.nil | refine All2.cons ?_ ?_ | refine ArgV.one ?_ | refine ArgV.agg ?_ | exact ArgC.mk rfl | exact ArgC.lend rfl (by simp) | exact ArgC.le (CLe.nil _) rfl | exact ArgC.le (CLe.emp _) rfl | exact ArgC.le (CLe.any _) rfl)) rfl rfl rfl (.inl rfl) rfl) ?_
         refine aops_yes rfl rfl rfl rfl q41 (ev_not rfl rfl) ?_
         refine aops_step1 rfl (st_pick_no rfl (by first | rfl | exact q41) rfl rfl) ?_
         refine aops_nil ?_
         refine aw_cond rfl (fun c43 => ?_) (fun c43 => ?_)
         · replace l6 := Md.cond_t l6 c43
           refine aw_seq ?_
           refine aw_region ?_
           refine aops_step1 rfl (st_assign rfl rfl) ?_
           refine aops_nil ?_
           cases Option.some.inj l6
           replace h := Md.onS_r h
           cases Option.some.inj h
           refine aw_ret ⟨rfl, ret_v (.inl ⟨_, rfl, rfl, fun _ e => nomatch e⟩) rfl rfl rfl ?_⟩
           (repeat' (first | exact TLe.refl _ | exact VLe.refl _ | exact CLe.refl _ | exact All2.nil | refine TLe.tup ?_ | refine TLe.v ?_ | refine All2.cons ?_ ?_ | refine VLe.agg ?_ | refine VLe.one ?_ | exact CLe.nil _ | exact CLe.emp _ | refine CLe.val ?_ | refine CLe.slc ?_ ?_))
         replace l6 := Md.cond_f l6 c43
         refine aw_skip ?_
         obtain ⟨g44, l6⟩ := Md.ifp_s l6
         refine aw_region ?_
         refine aops_step1 rfl (st_move rfl rfl) ?_
         refine aops_step1 rfl (ev_add rfl rfl rfl (Md.nat_add g44)) ?_
         refine aops_step1 rfl (st_assign rfl rfl) ?_
         refine aops_nil ?_
         exact ⟨⟨(n6, s6_0, s6_1, (s6_2 + 1), x35.1, x36.1), l6⟩, Nat.lt_succ_self _, (by (refine weak_mk rfl rfl ?_ ?_ rfl <;> repeat' (first | exact trivial | refine ⟨?_, ?_⟩ | exact VLe.refl _ | exact BLe.refl _ | refine VLe.one (CLe.val ?_) | exact VLe.one (CLe.nil _) | exact VLe.one (CLe.emp _))))⟩
      replace l6 := Md.cond_f l6 c39
      refine aw_skip ?_
      obtain ⟨x45, hx45, l6⟩ := Md.bind_s l6
      rcases Md.bool_or ((!x45)) with q46 | q46
      · replace l6 := Md.cond_t l6 q46
        refine aw_seq ?_
        refine aw_region ?_
        refine aops_step1 rfl (ev_loads (ds := [_, _, _, _, _, _]) rfl rfl rfl rfl rfl) ?_
        refine aops_step1 rfl (st_move rfl rfl) ?_
        refine aops_step1 rfl (ev_loads (ds := [_, _, _, _, _, _]) rfl rfl rfl rfl rfl) ?_
        refine aops_step1 rfl (st_move rfl rfl) ?_
        refine aops_step1 rfl (ev_call_v (actorgridlaw26_same_fn k s6_3 s6_0 s6_4 s6_1 x45 hx45) rfl [] (by repeat' (first | exact All2.nil | refine All2.cons ?_ ?_ | refine ArgV.one ?_ | refine ArgV.agg ?_ | exact ArgC.mk rfl | exact ArgC.lend rfl (by simp) | exact ArgC.le (CLe.nil _) rfl | exact ArgC.le (CLe.emp _) rfl | exact ArgC.le (CLe.any _) rfl)) rfl rfl rfl (.inl rfl) rfl) ?_
        refine aops_step1 rfl (ev_not rfl rfl) ?_
        refine aops_step1 rfl (st_move rfl rfl) ?_
        refine aops_no rfl rfl rfl rfl rfl (by first | decide | (rw [q46]; decide)) ?_
        refine aops_no rfl rfl rfl rfl rfl (by first | decide | (rw [q46]; decide)) ?_
        refine aops_no rfl rfl rfl rfl rfl (by first | decide | (rw [q46]; decide)) ?_
        refine aops_step1 rfl (st_pick_yes rfl (by first | rfl | exact q46) rfl rfl) ?_
        refine aops_nil ?_
        refine aw_yes rfl (rfl) ?_
        refine aw_seq ?_
        refine aw_region ?_
        refine aops_step1 rfl (st_assign rfl rfl) ?_
        refine aops_nil ?_
        cases Option.some.inj l6
        replace h := Md.onS_r h
        cases Option.some.inj h
        refine aw_ret ⟨rfl, ret_v (.inl ⟨_, rfl, rfl, fun _ e => nomatch e⟩) rfl rfl rfl ?_⟩
        (repeat' (first | exact TLe.refl _ | exact VLe.refl _ | exact CLe.refl _ | exact All2.nil | refine TLe.tup ?_ | refine TLe.v ?_ | refine All2.cons ?_ ?_ | refine VLe.agg ?_ | refine VLe.one ?_ | exact CLe.nil _ | exact CLe.emp _ | refine CLe.val ?_ | refine CLe.slc ?_ ?_))
      replace l6 := Md.cond_f l6 q46
      obtain ⟨x47, hx47, l6⟩ := Md.bind_s l6
      refine aw_seq ?_
      refine aw_region ?_
      refine aops_step1 rfl (ev_loads (ds := [_, _, _, _, _, _]) rfl rfl rfl rfl rfl) ?_
      refine aops_step1 rfl (st_move rfl rfl) ?_
      refine aops_step1 rfl (ev_loads (ds := [_, _, _, _, _, _]) rfl rfl rfl rfl rfl) ?_
      refine aops_step1 rfl (st_move rfl rfl) ?_
      refine aops_step1 rfl (ev_call_v (actorgridlaw26_same_fn k s6_3 s6_0 s6_4 s6_1 x45 hx45) rfl [] (by repeat' (first | exact All2.nil | refine All2.cons ?_ ?_ | refine ArgV.one ?_ | refine ArgV.agg ?_ | exact ArgC.mk rfl | exact ArgC.lend rfl (by simp) | exact ArgC.le (CLe.nil _) rfl | exact ArgC.le (CLe.emp _) rfl | exact ArgC.le (CLe.any _) rfl)) rfl rfl rfl (.inl rfl) rfl) ?_
      refine aops_step1 rfl (ev_not rfl rfl) ?_
      refine aops_step1 rfl (st_move rfl rfl) ?_
      refine aops_yes rfl rfl rfl rfl q46 (ev_loads (ds := [_, _, _, _, _, _]) rfl rfl rfl rfl rfl) ?_
      refine aops_yes rfl rfl rfl rfl q46 (ev_call_v (disk_Valid_fn k s6_3 x47 hx47) rfl [] (by repeat' (first | exact All2.nil | refine All2.cons ?_ ?_ | refine ArgV.one ?_ | refine ArgV.agg ?_ | exact ArgC.mk rfl | exact ArgC.lend rfl (by simp) | exact ArgC.le (CLe.nil _) rfl | exact ArgC.le (CLe.emp _) rfl | exact ArgC.le (CLe.any _) rfl)) rfl rfl rfl (.inl rfl) rfl) ?_
      refine aops_yes rfl rfl rfl rfl q46 (ev_not rfl rfl) ?_
      refine aops_step1 rfl (st_pick_no rfl (by first | rfl | exact q46) rfl rfl) ?_
      refine aops_nil ?_
      refine aw_cond rfl (fun c48 => ?_) (fun c48 => ?_)
      · replace l6 := Md.cond_t l6 c48
        refine aw_seq ?_
        refine aw_region ?_
        refine aops_step1 rfl (st_assign rfl rfl) ?_
        refine aops_nil ?_
        cases Option.some.inj l6
        replace h := Md.onS_r h
        cases Option.some.inj h
        refine aw_ret ⟨rfl, ret_v (.inl ⟨_, rfl, rfl, fun _ e => nomatch e⟩) rfl rfl rfl ?_⟩
        (repeat' (first | exact TLe.refl _ | exact VLe.refl _ | exact CLe.refl _ | exact All2.nil | refine TLe.tup ?_ | refine TLe.v ?_ | refine All2.cons ?_ ?_ | refine VLe.agg ?_ | refine VLe.one ?_ | exact CLe.nil _ | exact CLe.emp _ | refine CLe.val ?_ | refine CLe.slc ?_ ?_))
      replace l6 := Md.cond_f l6 c48
      refine aw_skip ?_
      obtain ⟨g49, l6⟩ := Md.ifp_s l6
      refine aw_region ?_
      refine aops_step1 rfl (st_move rfl rfl) ?_
      refine aops_step1 rfl (ev_add rfl rfl rfl (Md.nat_add g49)) ?_
      refine aops_step1 rfl (st_assign rfl rfl) ?_
      refine aops_nil ?_
      exact ⟨⟨(n6, s6_0, s6_1, (s6_2 + 1), s6_3, s6_4), l6⟩, Nat.lt_succ_self _, (by (refine weak_mk rfl rfl ?_ ?_ rfl <;> repeat' (first | exact trivial | refine ⟨?_, ?_⟩ | exact VLe.refl _ | exact BLe.refl _ | refine VLe.one (CLe.val ?_) | exact VLe.one (CLe.nil _) | exact VLe.one (CLe.emp _))))⟩
    replace l6 := Md.cond_f l6 c34
    obtain ⟨x50, hx50, l6⟩ := Md.bind_s l6
    refine aw_seq ?_
    refine aw_region ?_
    refine aops_step1 rfl (ev_loads (ds := [_, _, _, _, _, _]) rfl rfl rfl rfl rfl) ?_
    refine aops_step1 rfl (ev_call_v (disk_Restart_fn k s6_3 x50 hx50) rfl [] (by repeat' (first | exact All2.nil | refine All2.cons ?_ ?_ | refine ArgV.one ?_ | refine ArgV.agg ?_ | exact ArgC.mk rfl | exact ArgC.lend rfl (by simp) | exact ArgC.le (CLe.nil _) rfl | exact ArgC.le (CLe.emp _) rfl | exact ArgC.le (CLe.any _) rfl)) rfl rfl rfl (.inl rfl) rfl) ?_
    refine aops_step1 rfl (st_movet rfl rfl) ?_
    refine aops_step1 rfl (ev_extract rfl rfl rfl) ?_
    refine aops_step1 rfl (ev_extract rfl rfl rfl) ?_
    refine aops_step1 rfl (st_store (cs' := [_, _, _, _, _, _]) rfl rfl rfl rfl rfl rfl rfl rfl rfl) ?_
    refine aops_step1 rfl (st_assign rfl rfl) ?_
    refine aops_nil ?_
    obtain ⟨x51, hx51, l6⟩ := Md.bind_s l6
    refine aw_region ?_
    refine aops_step1 rfl (ev_loads (ds := [_, _, _, _, _, _]) rfl rfl rfl rfl rfl) ?_
    refine aops_step1 rfl (ev_call_v (actorgridref26_Restart_fn k s6_4 x51 hx51) rfl [] (by repeat' (first | exact All2.nil | refine All2.cons ?_ ?_ | refine ArgV.one ?_ | refine ArgV.agg ?_ | exact ArgC.mk rfl | exact ArgC.lend rfl (by simp) | exact ArgC.le (CLe.nil _) rfl | exact ArgC.le (CLe.emp _) rfl | exact ArgC.le (CLe.any _) rfl)) rfl rfl rfl (.inl rfl) rfl) ?_
    refine aops_step1 rfl (st_movet rfl rfl) ?_
    refine aops_step1 rfl (ev_extract rfl rfl rfl) ?_
    refine aops_step1 rfl (ev_extract rfl rfl rfl) ?_
    refine aops_step1 rfl (st_store (cs' := [_, _, _, _, _, _]) rfl rfl rfl rfl rfl rfl rfl rfl rfl) ?_
    refine aops_step1 rfl (st_assign rfl rfl) ?_
    refine aops_nil ?_
    obtain ⟨x52, hx52, l6⟩ := Md.bind_s l6
    rcases Md.bool_or ((!x52)) with q53 | q53
    · replace l6 := Md.cond_t l6 q53
      refine aw_seq ?_
      refine aw_region ?_
      refine aops_step1 rfl (ev_loads (ds := [_, _, _, _, _, _]) rfl rfl rfl rfl rfl) ?_
      refine aops_step1 rfl (st_move rfl rfl) ?_
      refine aops_step1 rfl (ev_loads (ds := [_, _, _, _, _, _]) rfl rfl rfl rfl rfl) ?_
      refine aops_step1 rfl (st_move rfl rfl) ?_
      refine aops_step1 rfl (ev_call_v (actorgridlaw26_same_fn k x50.1 x50.2 x51.1 x51.2 x52 hx52) rfl [] (by repeat' (first | exact All2.nil | refine All2.cons ?_ ?_ | refine ArgV.one ?_ | refine ArgV.agg ?_ | exact ArgC.mk rfl | exact ArgC.lend rfl (by simp) | exact ArgC.le (CLe.nil _) rfl | exact ArgC.le (CLe.emp _) rfl | exact ArgC.le (CLe.any _) rfl)) rfl rfl rfl (.inl rfl) rfl) ?_
      refine aops_step1 rfl (ev_not rfl rfl) ?_
      refine aops_step1 rfl (st_move rfl rfl) ?_
      refine aops_no rfl rfl rfl rfl rfl (by first | decide | (rw [q53]; decide)) ?_
      refine aops_no rfl rfl rfl rfl rfl (by first | decide | (rw [q53]; decide)) ?_
      refine aops_no rfl rfl rfl rfl rfl (by first | decide | (rw [q53]; decide)) ?_
      refine aops_step1 rfl (st_pick_yes rfl (by first | rfl | exact q53) rfl rfl) ?_
      refine aops_nil ?_
      refine aw_yes rfl (rfl) ?_
      refine aw_seq ?_
      refine aw_region ?_
      refine aops_step1 rfl (st_assign rfl rfl) ?_
      refine aops_nil ?_
      cases Option.some.inj l6
      replace h := Md.onS_r h
      cases Option.some.inj h
      refine aw_ret ⟨rfl, ret_v (.inl ⟨_, rfl, rfl, fun _ e => nomatch e⟩) rfl rfl rfl ?_⟩
      (repeat' (first | exact TLe.refl _ | exact VLe.refl _ | exact CLe.refl _ | exact All2.nil | refine TLe.tup ?_ | refine TLe.v ?_ | refine All2.cons ?_ ?_ | refine VLe.agg ?_ | refine VLe.one ?_ | exact CLe.nil _ | exact CLe.emp _ | refine CLe.val ?_ | refine CLe.slc ?_ ?_))
    replace l6 := Md.cond_f l6 q53
    obtain ⟨x54, hx54, l6⟩ := Md.bind_s l6
    refine aw_seq ?_
    refine aw_region ?_
    refine aops_step1 rfl (ev_loads (ds := [_, _, _, _, _, _]) rfl rfl rfl rfl rfl) ?_
    refine aops_step1 rfl (st_move rfl rfl) ?_
    refine aops_step1 rfl (ev_loads (ds := [_, _, _, _, _, _]) rfl rfl rfl rfl rfl) ?_
    refine aops_step1 rfl (st_move rfl rfl) ?_
    refine aops_step1 rfl (ev_call_v (actorgridlaw26_same_fn k x50.1 x50.2 x51.1 x51.2 x52 hx52) rfl [] (by repeat' (first | exact All2.nil | refine All2.cons ?_ ?_ | refine ArgV.one ?_ | refine ArgV.agg ?_ | exact ArgC.mk rfl | exact ArgC.lend rfl (by simp) | exact ArgC.le (CLe.nil _) rfl | exact ArgC.le (CLe.emp _) rfl | exact ArgC.le (CLe.any _) rfl)) rfl rfl rfl (.inl rfl) rfl) ?_
    refine aops_step1 rfl (ev_not rfl rfl) ?_
    refine aops_step1 rfl (st_move rfl rfl) ?_
    refine aops_yes rfl rfl rfl rfl q53 (ev_loads (ds := [_, _, _, _, _, _]) rfl rfl rfl rfl rfl) ?_
    refine aops_yes rfl rfl rfl rfl q53 (ev_call_v (disk_Valid_fn k x50.1 x54 hx54) rfl [] (by repeat' (first | exact All2.nil | refine All2.cons ?_ ?_ | refine ArgV.one ?_ | refine ArgV.agg ?_ | exact ArgC.mk rfl | exact ArgC.lend rfl (by simp) | exact ArgC.le (CLe.nil _) rfl | exact ArgC.le (CLe.emp _) rfl | exact ArgC.le (CLe.any _) rfl)) rfl rfl rfl (.inl rfl) rfl) ?_
    refine aops_yes rfl rfl rfl rfl q53 (ev_not rfl rfl) ?_
    refine aops_step1 rfl (st_pick_no rfl (by first | rfl | exact q53) rfl rfl) ?_
    refine aops_nil ?_
    refine aw_cond rfl (fun c55 => ?_) (fun c55 => ?_)
    · replace l6 := Md.cond_t l6 c55
      refine aw_seq ?_
      refine aw_region ?_
      refine aops_step1 rfl (st_assign rfl rfl) ?_
      refine aops_nil ?_
      cases Option.some.inj l6
      replace h := Md.onS_r h
      cases Option.some.inj h
      refine aw_ret ⟨rfl, ret_v (.inl ⟨_, rfl, rfl, fun _ e => nomatch e⟩) rfl rfl rfl ?_⟩
      (repeat' (first | exact TLe.refl _ | exact VLe.refl _ | exact CLe.refl _ | exact All2.nil | refine TLe.tup ?_ | refine TLe.v ?_ | refine All2.cons ?_ ?_ | refine VLe.agg ?_ | refine VLe.one ?_ | exact CLe.nil _ | exact CLe.emp _ | refine CLe.val ?_ | refine CLe.slc ?_ ?_))
    replace l6 := Md.cond_f l6 c55
    refine aw_skip ?_
    obtain ⟨g56, l6⟩ := Md.ifp_s l6
    refine aw_region ?_
    refine aops_step1 rfl (st_move rfl rfl) ?_
    refine aops_step1 rfl (ev_add rfl rfl rfl (Md.nat_add g56)) ?_
    refine aops_step1 rfl (st_assign rfl rfl) ?_
    refine aops_nil ?_
    exact ⟨⟨(n6, x50.2, x51.2, (s6_2 + 1), x50.1, x51.1), l6⟩, Nat.lt_succ_self _, (by (refine weak_mk rfl rfl ?_ ?_ rfl <;> repeat' (first | exact trivial | refine ⟨?_, ?_⟩ | exact VLe.refl _ | exact BLe.refl _ | refine VLe.one (CLe.val ?_) | exact VLe.one (CLe.nil _) | exact VLe.one (CLe.emp _))))⟩
  replace l6 := Md.cond_f l6 c7
  refine aw_exit ?_
  show ∃ _x : Unit, _ = _ ∧ Weak _ _
  exact ⟨(), (Option.some.inj l6).symm, (by (refine weak_mk rfl rfl ?_ ?_ rfl <;> repeat' (first | exact trivial | refine ⟨?_, ?_⟩ | exact VLe.refl _ | exact BLe.refl _ | refine VLe.one (CLe.val ?_) | exact VLe.one (CLe.nil _) | exact VLe.one (CLe.emp _))))⟩
end Md
end Go.Proofs.Ytkcfkcgclljncaa
