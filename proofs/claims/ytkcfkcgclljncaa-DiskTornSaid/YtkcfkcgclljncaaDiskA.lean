/-
  DiskA: where a function's model gives a value, the function returns what reads as it (printed by wip/tools/auto.py). Condition of each: the model gives a value.
-/
import Derived.Test.YtkcfkcgclljncaaDiskAM
import Derived.Test.YtkcfkcgclljncaaTy
import Derived.Test.YtkcfkcgclljncaaAbsX
namespace Go.Proofs.Ytkcfkcgclljncaa
open Go.ChangeShapes Go.WideShapes Go.RowKit
open Abs
set_option linter.unusedVariables false
set_option linter.unusedSimpArgs false
set_option maxRecDepth 10000
namespace Md
set_option maxHeartbeats 2000000 in
theorem disk_Valid_fn (k : Nat) (a0 : Disk) (r : Bool) (h : disk_Valid k a0 = some r) : FnC Try.prog 21 [.agg [CV.ls byC a0.Data, .val (.int .i64 a0.Capacity), .val (.bool a0.Armed), .val (.int .i64 a0.Writes), .val (.int .i64 a0.Keep), .val (.bool a0.Down)]] [] (Det (.one (.val (.bool r))) []) := by
  unfold disk_Valid at h
  refine fn_intro' 36 Try.func21 rfl rfl rfl ?_
  refine aw_seq ?_
  refine aw_region ?_
  refine aops_step1 rfl (st_box 0 rfl rfl rfl rfl) ?_
  refine aops_step1 rfl (st_assign rfl rfl) ?_
  refine aops_nil ?_
  refine aw_seq ?_
  refine aw_block ?_
  refine aw_seq ?_
  refine aw_seq ?_
  refine aw_region ?_
  refine aops_step1 rfl (ev_field rfl rfl rfl) ?_
  refine aops_step1 rfl (ev_load rfl rfl rfl rfl) ?_
  refine aops_step1 rfl (ev_cmp rfl rfl rfl rfl) ?_
  refine aops_step1 rfl (st_assign rfl rfl) ?_
  refine aops_nil ?_
  refine aw_cond rfl (fun c1 => ?_) (fun c1 => ?_)
  · replace h := Md.cond_t h c1
    refine aw_skip ?_
    refine aw_yes rfl (c1) ?_
    refine aw_seq ?_
    refine aw_region ?_
    refine aops_step1 rfl (st_assign rfl rfl) ?_
    refine aops_nil ?_
    cases Option.some.inj h
    refine aw_ret ⟨rfl, ret_v (.inl ⟨_, rfl, rfl, fun _ e => nomatch e⟩) rfl rfl rfl ?_⟩
    (repeat' (first | exact TLe.refl _ | exact VLe.refl _ | exact CLe.refl _ | exact All2.nil | refine TLe.tup ?_ | refine TLe.v ?_ | refine All2.cons ?_ ?_ | refine VLe.agg ?_ | refine VLe.one ?_ | exact CLe.nil _ | exact CLe.emp _ | refine CLe.val ?_ | refine CLe.slc ?_ ?_))
  replace h := Md.cond_f h c1
  refine aw_seq ?_
  refine aw_region ?_
  refine aops_step1 rfl (ev_field rfl rfl rfl) ?_
  refine aops_step1 rfl (ev_load rfl rfl rfl rfl) ?_
  refine aops_step1 rfl (ev_cmp rfl rfl rfl rfl) ?_
  refine aops_step1 rfl (st_assign rfl rfl) ?_
  refine aops_nil ?_
  refine aw_cond rfl (fun c2 => ?_) (fun c2 => ?_)
  · replace h := Md.cond_t h c2
    refine aw_skip ?_
    refine aw_yes rfl (c2) ?_
    refine aw_seq ?_
    refine aw_region ?_
    refine aops_step1 rfl (st_assign rfl rfl) ?_
    refine aops_nil ?_
    cases Option.some.inj h
    refine aw_ret ⟨rfl, ret_v (.inl ⟨_, rfl, rfl, fun _ e => nomatch e⟩) rfl rfl rfl ?_⟩
    (repeat' (first | exact TLe.refl _ | exact VLe.refl _ | exact CLe.refl _ | exact All2.nil | refine TLe.tup ?_ | refine TLe.v ?_ | refine All2.cons ?_ ?_ | refine VLe.agg ?_ | refine VLe.one ?_ | exact CLe.nil _ | exact CLe.emp _ | refine CLe.val ?_ | refine CLe.slc ?_ ?_))
  replace h := Md.cond_f h c2
  refine aw_seq ?_
  refine aw_region ?_
  refine aops_step1 rfl (ev_field rfl rfl rfl) ?_
  refine aops_step1 rfl (ev_load rfl rfl rfl rfl) ?_
  refine aops_step1 rfl (ev_len_slc rfl rfl) ?_
  refine aops_step1 rfl (ev_field rfl rfl rfl) ?_
  refine aops_step1 rfl (ev_load rfl rfl rfl rfl) ?_
  refine aops_step1 rfl (ev_cmp rfl rfl rfl rfl) ?_
  refine aops_step1 rfl (st_assign rfl rfl) ?_
  refine aops_nil ?_
  refine aw_cond rfl (fun c3 => ?_) (fun c3 => ?_)
  · replace h := Md.cond_t h c3
    refine aw_skip ?_
    refine aw_yes rfl (c3) ?_
    refine aw_seq ?_
    refine aw_region ?_
    refine aops_step1 rfl (st_assign rfl rfl) ?_
    refine aops_nil ?_
    cases Option.some.inj h
    refine aw_ret ⟨rfl, ret_v (.inl ⟨_, rfl, rfl, fun _ e => nomatch e⟩) rfl rfl rfl ?_⟩
    (repeat' (first | exact TLe.refl _ | exact VLe.refl _ | exact CLe.refl _ | exact All2.nil | refine TLe.tup ?_ | refine TLe.v ?_ | refine All2.cons ?_ ?_ | refine VLe.agg ?_ | refine VLe.one ?_ | exact CLe.nil _ | exact CLe.emp _ | refine CLe.val ?_ | refine CLe.slc ?_ ?_))
  replace h := Md.cond_f h c3
  refine aw_seq ?_
  refine aw_region ?_
  refine aops_step1 rfl (ev_field rfl rfl rfl) ?_
  refine aops_step1 rfl (ev_load rfl rfl rfl rfl) ?_
  refine aops_step1 rfl (ev_cmp rfl rfl rfl rfl) ?_
  refine aops_step1 rfl (st_assign rfl rfl) ?_
  refine aops_nil ?_
  refine aw_cond rfl (fun c4 => ?_) (fun c4 => ?_)
  · replace h := Md.cond_t h c4
    refine aw_skip ?_
    refine aw_yes rfl (c4) ?_
    refine aw_seq ?_
    refine aw_region ?_
    refine aops_step1 rfl (st_assign rfl rfl) ?_
    refine aops_nil ?_
    cases Option.some.inj h
    refine aw_ret ⟨rfl, ret_v (.inl ⟨_, rfl, rfl, fun _ e => nomatch e⟩) rfl rfl rfl ?_⟩
    (repeat' (first | exact TLe.refl _ | exact VLe.refl _ | exact CLe.refl _ | exact All2.nil | refine TLe.tup ?_ | refine TLe.v ?_ | refine All2.cons ?_ ?_ | refine VLe.agg ?_ | refine VLe.one ?_ | exact CLe.nil _ | exact CLe.emp _ | refine CLe.val ?_ | refine CLe.slc ?_ ?_))
  replace h := Md.cond_f h c4
  refine aw_region ?_
  refine aops_step1 rfl (ev_field rfl rfl rfl) ?_
  refine aops_step1 rfl (ev_load rfl rfl rfl rfl) ?_
  refine aops_step1 rfl (ev_cmp rfl rfl rfl rfl) ?_
  refine aops_step1 rfl (st_assign rfl rfl) ?_
  refine aops_nil ?_
  refine aw_cond rfl (fun c5 => ?_) (fun c5 => ?_)
  · replace h := Md.cond_t h c5
    refine aw_seq ?_
    refine aw_region ?_
    refine aops_step1 rfl (st_assign rfl rfl) ?_
    refine aops_nil ?_
    cases Option.some.inj h
    refine aw_ret ⟨rfl, ret_v (.inl ⟨_, rfl, rfl, fun _ e => nomatch e⟩) rfl rfl rfl ?_⟩
    (repeat' (first | exact TLe.refl _ | exact VLe.refl _ | exact CLe.refl _ | exact All2.nil | refine TLe.tup ?_ | refine TLe.v ?_ | refine All2.cons ?_ ?_ | refine VLe.agg ?_ | refine VLe.one ?_ | exact CLe.nil _ | exact CLe.emp _ | refine CLe.val ?_ | refine CLe.slc ?_ ?_))
  replace h := Md.cond_f h c5
  refine aw_seq ?_
  refine aw_region ?_
  refine aops_step1 rfl (ev_field rfl rfl rfl) ?_
  refine aops_step1 rfl (ev_load rfl rfl rfl rfl) ?_
  refine aops_step1 rfl (st_assign rfl rfl) ?_
  refine aops_nil ?_
  refine aw_cond rfl (fun c6 => ?_) (fun c6 => ?_)
  · replace h := Md.cond_t h c6
    refine aw_seq ?_
    refine aw_region ?_
    refine aops_step1 rfl (ev_field rfl rfl rfl) ?_
    refine aops_step1 rfl (ev_load rfl rfl rfl rfl) ?_
    refine aops_step1 rfl (ev_not rfl rfl) ?_
    refine aops_step1 rfl (st_assign rfl rfl) ?_
    refine aops_nil ?_
    cases Option.some.inj h
    refine aw_ret ⟨rfl, ret_v (.inl ⟨_, rfl, rfl, fun _ e => nomatch e⟩) rfl rfl rfl ?_⟩
    (repeat' (first | exact TLe.refl _ | exact VLe.refl _ | exact CLe.refl _ | exact All2.nil | refine TLe.tup ?_ | refine TLe.v ?_ | refine All2.cons ?_ ?_ | refine VLe.agg ?_ | refine VLe.one ?_ | exact CLe.nil _ | exact CLe.emp _ | refine CLe.val ?_ | refine CLe.slc ?_ ?_))
  replace h := Md.cond_f h c6
  refine aw_skip ?_
  rcases Md.bool_or ((a0.Writes == 0)) with q7 | q7
  · replace h := Md.cond_t h q7
    refine aw_seq ?_
    refine aw_region ?_
    refine aops_step1 rfl (ev_field rfl rfl rfl) ?_
    refine aops_step1 rfl (ev_load rfl rfl rfl rfl) ?_
    refine aops_step1 rfl (ev_cmp rfl rfl rfl rfl) ?_
    refine aops_step1 rfl (st_move rfl rfl) ?_
    refine aops_yes rfl rfl rfl rfl q7 (ev_field rfl rfl rfl) ?_
    refine aops_yes rfl rfl rfl rfl q7 (ev_load rfl rfl rfl rfl) ?_
    refine aops_yes rfl rfl rfl rfl q7 (ev_cmp rfl rfl rfl rfl) ?_
    refine aops_step1 rfl (st_pick_yes rfl (by first | rfl | exact q7) rfl rfl) ?_
    refine aops_step1 rfl (st_assign rfl rfl) ?_
    refine aops_nil ?_
    cases Option.some.inj h
    refine aw_ret ⟨rfl, ret_v (.inl ⟨_, rfl, rfl, fun _ e => nomatch e⟩) rfl rfl rfl ?_⟩
    (repeat' (first | exact TLe.refl _ | exact VLe.refl _ | exact CLe.refl _ | exact All2.nil | refine TLe.tup ?_ | refine TLe.v ?_ | refine All2.cons ?_ ?_ | refine VLe.agg ?_ | refine VLe.one ?_ | exact CLe.nil _ | exact CLe.emp _ | refine CLe.val ?_ | refine CLe.slc ?_ ?_))
  replace h := Md.cond_f h q7
  refine aw_seq ?_
  refine aw_region ?_
  refine aops_step1 rfl (ev_field rfl rfl rfl) ?_
  refine aops_step1 rfl (ev_load rfl rfl rfl rfl) ?_
  refine aops_step1 rfl (ev_cmp rfl rfl rfl rfl) ?_
  refine aops_step1 rfl (st_move rfl rfl) ?_
  refine aops_no rfl rfl rfl rfl rfl (by first | decide | (rw [q7]; decide)) ?_
  refine aops_no rfl rfl rfl rfl rfl (by first | decide | (rw [q7]; decide)) ?_
  refine aops_no rfl rfl rfl rfl rfl (by first | decide | (rw [q7]; decide)) ?_
  refine aops_step1 rfl (st_pick_no rfl (by first | rfl | exact q7) rfl rfl) ?_
  refine aops_step1 rfl (st_assign rfl rfl) ?_
  refine aops_nil ?_
  cases Option.some.inj h
  refine aw_ret ⟨rfl, ret_v (.inl ⟨_, rfl, rfl, fun _ e => nomatch e⟩) rfl rfl rfl ?_⟩
  (repeat' (first | exact TLe.refl _ | exact VLe.refl _ | exact CLe.refl _ | exact All2.nil | refine TLe.tup ?_ | refine TLe.v ?_ | refine All2.cons ?_ ?_ | refine VLe.agg ?_ | refine VLe.one ?_ | exact CLe.nil _ | exact CLe.emp _ | refine CLe.val ?_ | refine CLe.slc ?_ ?_))
set_option maxHeartbeats 2000000 in
theorem actorgridref26_ValidDisk_fn (k : Nat) (a0 : Disk) (r : Bool) (h : actorgridref26_ValidDisk k a0 = some r) : FnC Try.prog 22 [.agg [CV.ls byC a0.Data, .val (.int .i64 a0.Capacity), .val (.bool a0.Armed), .val (.int .i64 a0.Writes), .val (.int .i64 a0.Keep), .val (.bool a0.Down)]] [] (Det (.one (.val (.bool r))) []) := by
  unfold actorgridref26_ValidDisk at h
  refine fn_intro' 51 Try.func22 rfl rfl rfl ?_
  refine aw_seq ?_
  refine aw_region ?_
  refine aops_step1 rfl (st_box 0 rfl rfl rfl rfl) ?_
  refine aops_step1 rfl (st_assign rfl rfl) ?_
  refine aops_nil ?_
  refine aw_seq ?_
  rcases Md.bool_or ((decide (a0.Capacity < 0))) with q1 | q1
  · replace h := Md.cond_t h q1
    refine aw_seq ?_
    refine aw_region ?_
    refine aops_step1 rfl (ev_field rfl rfl rfl) ?_
    refine aops_step1 rfl (ev_load rfl rfl rfl rfl) ?_
    refine aops_step1 rfl (ev_cmp rfl rfl rfl rfl) ?_
    refine aops_step1 rfl (st_move rfl rfl) ?_
    refine aops_no rfl rfl rfl rfl rfl (by first | decide | (rw [q1]; decide)) ?_
    refine aops_no rfl rfl rfl rfl rfl (by first | decide | (rw [q1]; decide)) ?_
    refine aops_no rfl rfl rfl rfl rfl (by first | decide | (rw [q1]; decide)) ?_
    refine aops_step1 rfl (st_pick_yes rfl (by first | rfl | exact q1) rfl rfl) ?_
    refine aops_step1 rfl (st_move rfl rfl) ?_
    refine aops_no rfl rfl rfl rfl rfl (by decide) ?_
    refine aops_no rfl rfl rfl rfl rfl (by decide) ?_
    refine aops_no rfl rfl rfl rfl rfl (by decide) ?_
    refine aops_no rfl rfl rfl rfl rfl (by decide) ?_
    refine aops_no rfl rfl rfl rfl rfl (by decide) ?_
    refine aops_no rfl rfl rfl rfl rfl (by decide) ?_
    refine aops_step1 rfl (st_pick_yes rfl (by first | rfl | exact rfl) rfl rfl) ?_
    refine aops_step1 rfl (st_move rfl rfl) ?_
    refine aops_no rfl rfl rfl rfl rfl (by decide) ?_
    refine aops_no rfl rfl rfl rfl rfl (by decide) ?_
    refine aops_no rfl rfl rfl rfl rfl (by decide) ?_
    refine aops_step1 rfl (st_pick_yes rfl (by first | rfl | exact rfl) rfl rfl) ?_
    refine aops_step1 rfl (st_move rfl rfl) ?_
    refine aops_no rfl rfl rfl rfl rfl (by decide) ?_
    refine aops_no rfl rfl rfl rfl rfl (by decide) ?_
    refine aops_no rfl rfl rfl rfl rfl (by decide) ?_
    refine aops_step1 rfl (st_pick_yes rfl (by first | rfl | exact rfl) rfl rfl) ?_
    refine aops_nil ?_
    refine aw_yes rfl (rfl) ?_
    refine aw_seq ?_
    refine aw_region ?_
    refine aops_step1 rfl (st_assign rfl rfl) ?_
    refine aops_nil ?_
    cases Option.some.inj h
    refine aw_ret ⟨rfl, ret_v (.inl ⟨_, rfl, rfl, fun _ e => nomatch e⟩) rfl rfl rfl ?_⟩
    (repeat' (first | exact TLe.refl _ | exact VLe.refl _ | exact CLe.refl _ | exact All2.nil | refine TLe.tup ?_ | refine TLe.v ?_ | refine All2.cons ?_ ?_ | refine VLe.agg ?_ | refine VLe.one ?_ | exact CLe.nil _ | exact CLe.emp _ | refine CLe.val ?_ | refine CLe.slc ?_ ?_))
  replace h := Md.cond_f h q1
  rcases Md.bool_or ((decide (a0.Capacity > 1048576))) with q2 | q2
  · replace h := Md.cond_t h q2
    refine aw_seq ?_
    refine aw_region ?_
    refine aops_step1 rfl (ev_field rfl rfl rfl) ?_
    refine aops_step1 rfl (ev_load rfl rfl rfl rfl) ?_
    refine aops_step1 rfl (ev_cmp rfl rfl rfl rfl) ?_
    refine aops_step1 rfl (st_move rfl rfl) ?_
    refine aops_yes rfl rfl rfl rfl q1 (ev_field rfl rfl rfl) ?_
    refine aops_yes rfl rfl rfl rfl q1 (ev_load rfl rfl rfl rfl) ?_
    refine aops_yes rfl rfl rfl rfl q1 (ev_cmp rfl rfl rfl rfl) ?_
    refine aops_step1 rfl (st_pick_no rfl (by first | rfl | exact q1) rfl rfl) ?_
    refine aops_step1 rfl (st_move rfl rfl) ?_
    refine aops_no rfl rfl rfl rfl rfl (by first | decide | (rw [q2]; decide)) ?_
    refine aops_no rfl rfl rfl rfl rfl (by first | decide | (rw [q2]; decide)) ?_
    refine aops_no rfl rfl rfl rfl rfl (by first | decide | (rw [q2]; decide)) ?_
    refine aops_no rfl rfl rfl rfl rfl (by first | decide | (rw [q2]; decide)) ?_
    refine aops_no rfl rfl rfl rfl rfl (by first | decide | (rw [q2]; decide)) ?_
    refine aops_no rfl rfl rfl rfl rfl (by first | decide | (rw [q2]; decide)) ?_
    refine aops_step1 rfl (st_pick_yes rfl (by first | rfl | exact q2) rfl rfl) ?_
    refine aops_step1 rfl (st_move rfl rfl) ?_
    refine aops_no rfl rfl rfl rfl rfl (by decide) ?_
    refine aops_no rfl rfl rfl rfl rfl (by decide) ?_
    refine aops_no rfl rfl rfl rfl rfl (by decide) ?_
    refine aops_step1 rfl (st_pick_yes rfl (by first | rfl | exact rfl) rfl rfl) ?_
    refine aops_step1 rfl (st_move rfl rfl) ?_
    refine aops_no rfl rfl rfl rfl rfl (by decide) ?_
    refine aops_no rfl rfl rfl rfl rfl (by decide) ?_
    refine aops_no rfl rfl rfl rfl rfl (by decide) ?_
    refine aops_step1 rfl (st_pick_yes rfl (by first | rfl | exact rfl) rfl rfl) ?_
    refine aops_nil ?_
    refine aw_yes rfl (rfl) ?_
    refine aw_seq ?_
    refine aw_region ?_
    refine aops_step1 rfl (st_assign rfl rfl) ?_
    refine aops_nil ?_
    cases Option.some.inj h
    refine aw_ret ⟨rfl, ret_v (.inl ⟨_, rfl, rfl, fun _ e => nomatch e⟩) rfl rfl rfl ?_⟩
    (repeat' (first | exact TLe.refl _ | exact VLe.refl _ | exact CLe.refl _ | exact All2.nil | refine TLe.tup ?_ | refine TLe.v ?_ | refine All2.cons ?_ ?_ | refine VLe.agg ?_ | refine VLe.one ?_ | exact CLe.nil _ | exact CLe.emp _ | refine CLe.val ?_ | refine CLe.slc ?_ ?_))
  replace h := Md.cond_f h q2
  rcases Md.bool_or ((decide (((a0.Data.length : Nat) : Int) > a0.Capacity))) with q3 | q3
  · replace h := Md.cond_t h q3
    refine aw_seq ?_
    refine aw_region ?_
    refine aops_step1 rfl (ev_field rfl rfl rfl) ?_
    refine aops_step1 rfl (ev_load rfl rfl rfl rfl) ?_
    refine aops_step1 rfl (ev_cmp rfl rfl rfl rfl) ?_
    refine aops_step1 rfl (st_move rfl rfl) ?_
    refine aops_yes rfl rfl rfl rfl q1 (ev_field rfl rfl rfl) ?_
    refine aops_yes rfl rfl rfl rfl q1 (ev_load rfl rfl rfl rfl) ?_
    refine aops_yes rfl rfl rfl rfl q1 (ev_cmp rfl rfl rfl rfl) ?_
    refine aops_step1 rfl (st_pick_no rfl (by first | rfl | exact q1) rfl rfl) ?_
    refine aops_step1 rfl (st_move rfl rfl) ?_
    refine aops_yes rfl rfl rfl rfl q2 (ev_field rfl rfl rfl) ?_
    refine aops_yes rfl rfl rfl rfl q2 (ev_load rfl rfl rfl rfl) ?_
    refine aops_yes rfl rfl rfl rfl q2 (ev_len_slc rfl rfl) ?_
    refine aops_yes rfl rfl rfl rfl q2 (ev_field rfl rfl rfl) ?_
    refine aops_yes rfl rfl rfl rfl q2 (ev_load rfl rfl rfl rfl) ?_
    refine aops_yes rfl rfl rfl rfl q2 (ev_cmp rfl rfl rfl rfl) ?_
    refine aops_step1 rfl (st_pick_no rfl (by first | rfl | exact q2) rfl rfl) ?_
    refine aops_step1 rfl (st_move rfl rfl) ?_
    refine aops_no rfl rfl rfl rfl rfl (by first | decide | (rw [q3]; decide)) ?_
    refine aops_no rfl rfl rfl rfl rfl (by first | decide | (rw [q3]; decide)) ?_
    refine aops_no rfl rfl rfl rfl rfl (by first | decide | (rw [q3]; decide)) ?_
    refine aops_step1 rfl (st_pick_yes rfl (by first | rfl | exact q3) rfl rfl) ?_
    refine aops_step1 rfl (st_move rfl rfl) ?_
    refine aops_no rfl rfl rfl rfl rfl (by decide) ?_
    refine aops_no rfl rfl rfl rfl rfl (by decide) ?_
    refine aops_no rfl rfl rfl rfl rfl (by decide) ?_
    refine aops_step1 rfl (st_pick_yes rfl (by first | rfl | exact rfl) rfl rfl) ?_
    refine aops_nil ?_
    refine aw_yes rfl (rfl) ?_
    refine aw_seq ?_
    refine aw_region ?_
    refine aops_step1 rfl (st_assign rfl rfl) ?_
    refine aops_nil ?_
    cases Option.some.inj h
    refine aw_ret ⟨rfl, ret_v (.inl ⟨_, rfl, rfl, fun _ e => nomatch e⟩) rfl rfl rfl ?_⟩
    (repeat' (first | exact TLe.refl _ | exact VLe.refl _ | exact CLe.refl _ | exact All2.nil | refine TLe.tup ?_ | refine TLe.v ?_ | refine All2.cons ?_ ?_ | refine VLe.agg ?_ | refine VLe.one ?_ | exact CLe.nil _ | exact CLe.emp _ | refine CLe.val ?_ | refine CLe.slc ?_ ?_))
  replace h := Md.cond_f h q3
  rcases Md.bool_or ((decide (a0.Writes < 0))) with q4 | q4
  · replace h := Md.cond_t h q4
    refine aw_seq ?_
    refine aw_region ?_
    refine aops_step1 rfl (ev_field rfl rfl rfl) ?_
    refine aops_step1 rfl (ev_load rfl rfl rfl rfl) ?_
    refine aops_step1 rfl (ev_cmp rfl rfl rfl rfl) ?_
    refine aops_step1 rfl (st_move rfl rfl) ?_
    refine aops_yes rfl rfl rfl rfl q1 (ev_field rfl rfl rfl) ?_
    refine aops_yes rfl rfl rfl rfl q1 (ev_load rfl rfl rfl rfl) ?_
    refine aops_yes rfl rfl rfl rfl q1 (ev_cmp rfl rfl rfl rfl) ?_
    refine aops_step1 rfl (st_pick_no rfl (by first | rfl | exact q1) rfl rfl) ?_
    refine aops_step1 rfl (st_move rfl rfl) ?_
    refine aops_yes rfl rfl rfl rfl q2 (ev_field rfl rfl rfl) ?_
    refine aops_yes rfl rfl rfl rfl q2 (ev_load rfl rfl rfl rfl) ?_
    refine aops_yes rfl rfl rfl rfl q2 (ev_len_slc rfl rfl) ?_
    refine aops_yes rfl rfl rfl rfl q2 (ev_field rfl rfl rfl) ?_
    refine aops_yes rfl rfl rfl rfl q2 (ev_load rfl rfl rfl rfl) ?_
    refine aops_yes rfl rfl rfl rfl q2 (ev_cmp rfl rfl rfl rfl) ?_
    refine aops_step1 rfl (st_pick_no rfl (by first | rfl | exact q2) rfl rfl) ?_
    refine aops_step1 rfl (st_move rfl rfl) ?_
    refine aops_yes rfl rfl rfl rfl q3 (ev_field rfl rfl rfl) ?_
    refine aops_yes rfl rfl rfl rfl q3 (ev_load rfl rfl rfl rfl) ?_
    refine aops_yes rfl rfl rfl rfl q3 (ev_cmp rfl rfl rfl rfl) ?_
    refine aops_step1 rfl (st_pick_no rfl (by first | rfl | exact q3) rfl rfl) ?_
    refine aops_step1 rfl (st_move rfl rfl) ?_
    refine aops_no rfl rfl rfl rfl rfl (by first | decide | (rw [q4]; decide)) ?_
    refine aops_no rfl rfl rfl rfl rfl (by first | decide | (rw [q4]; decide)) ?_
    refine aops_no rfl rfl rfl rfl rfl (by first | decide | (rw [q4]; decide)) ?_
    refine aops_step1 rfl (st_pick_yes rfl (by first | rfl | exact q4) rfl rfl) ?_
    refine aops_nil ?_
    refine aw_yes rfl (rfl) ?_
    refine aw_seq ?_
    refine aw_region ?_
    refine aops_step1 rfl (st_assign rfl rfl) ?_
    refine aops_nil ?_
    cases Option.some.inj h
    refine aw_ret ⟨rfl, ret_v (.inl ⟨_, rfl, rfl, fun _ e => nomatch e⟩) rfl rfl rfl ?_⟩
    (repeat' (first | exact TLe.refl _ | exact VLe.refl _ | exact CLe.refl _ | exact All2.nil | refine TLe.tup ?_ | refine TLe.v ?_ | refine All2.cons ?_ ?_ | refine VLe.agg ?_ | refine VLe.one ?_ | exact CLe.nil _ | exact CLe.emp _ | refine CLe.val ?_ | refine CLe.slc ?_ ?_))
  replace h := Md.cond_f h q4
  refine aw_seq ?_
  refine aw_region ?_
  refine aops_step1 rfl (ev_field rfl rfl rfl) ?_
  refine aops_step1 rfl (ev_load rfl rfl rfl rfl) ?_
  refine aops_step1 rfl (ev_cmp rfl rfl rfl rfl) ?_
  refine aops_step1 rfl (st_move rfl rfl) ?_
  refine aops_yes rfl rfl rfl rfl q1 (ev_field rfl rfl rfl) ?_
  refine aops_yes rfl rfl rfl rfl q1 (ev_load rfl rfl rfl rfl) ?_
  refine aops_yes rfl rfl rfl rfl q1 (ev_cmp rfl rfl rfl rfl) ?_
  refine aops_step1 rfl (st_pick_no rfl (by first | rfl | exact q1) rfl rfl) ?_
  refine aops_step1 rfl (st_move rfl rfl) ?_
  refine aops_yes rfl rfl rfl rfl q2 (ev_field rfl rfl rfl) ?_
  refine aops_yes rfl rfl rfl rfl q2 (ev_load rfl rfl rfl rfl) ?_
  refine aops_yes rfl rfl rfl rfl q2 (ev_len_slc rfl rfl) ?_
  refine aops_yes rfl rfl rfl rfl q2 (ev_field rfl rfl rfl) ?_
  refine aops_yes rfl rfl rfl rfl q2 (ev_load rfl rfl rfl rfl) ?_
  refine aops_yes rfl rfl rfl rfl q2 (ev_cmp rfl rfl rfl rfl) ?_
  refine aops_step1 rfl (st_pick_no rfl (by first | rfl | exact q2) rfl rfl) ?_
  refine aops_step1 rfl (st_move rfl rfl) ?_
  refine aops_yes rfl rfl rfl rfl q3 (ev_field rfl rfl rfl) ?_
  refine aops_yes rfl rfl rfl rfl q3 (ev_load rfl rfl rfl rfl) ?_
  refine aops_yes rfl rfl rfl rfl q3 (ev_cmp rfl rfl rfl rfl) ?_
  refine aops_step1 rfl (st_pick_no rfl (by first | rfl | exact q3) rfl rfl) ?_
  refine aops_step1 rfl (st_move rfl rfl) ?_
  refine aops_yes rfl rfl rfl rfl q4 (ev_field rfl rfl rfl) ?_
  refine aops_yes rfl rfl rfl rfl q4 (ev_load rfl rfl rfl rfl) ?_
  refine aops_yes rfl rfl rfl rfl q4 (ev_cmp rfl rfl rfl rfl) ?_
  refine aops_step1 rfl (st_pick_no rfl (by first | rfl | exact q4) rfl rfl) ?_
  refine aops_nil ?_
  refine aw_cond rfl (fun c5 => ?_) (fun c5 => ?_)
  · replace h := Md.cond_t h c5
    refine aw_seq ?_
    refine aw_region ?_
    refine aops_step1 rfl (st_assign rfl rfl) ?_
    refine aops_nil ?_
    cases Option.some.inj h
    refine aw_ret ⟨rfl, ret_v (.inl ⟨_, rfl, rfl, fun _ e => nomatch e⟩) rfl rfl rfl ?_⟩
    (repeat' (first | exact TLe.refl _ | exact VLe.refl _ | exact CLe.refl _ | exact All2.nil | refine TLe.tup ?_ | refine TLe.v ?_ | refine All2.cons ?_ ?_ | refine VLe.agg ?_ | refine VLe.one ?_ | exact CLe.nil _ | exact CLe.emp _ | refine CLe.val ?_ | refine CLe.slc ?_ ?_))
  replace h := Md.cond_f h c5
  refine aw_skip ?_
  rcases Md.bool_or (a0.Armed) with q6 | q6
  · replace h := Md.cond_t h q6
    rcases Md.bool_or ((!a0.Down)) with q7 | q7
    · replace h := Md.cond_t h q7
      refine aw_seq ?_
      refine aw_region ?_
      refine aops_step1 rfl (ev_field rfl rfl rfl) ?_
      refine aops_step1 rfl (ev_load rfl rfl rfl rfl) ?_
      refine aops_step1 rfl (st_move rfl rfl) ?_
      refine aops_yes rfl rfl rfl rfl q6 (ev_field rfl rfl rfl) ?_
      refine aops_yes rfl rfl rfl rfl q6 (ev_load rfl rfl rfl rfl) ?_
      refine aops_yes rfl rfl rfl rfl q6 (ev_not rfl rfl) ?_
      refine aops_step1 rfl (st_pick_yes rfl (by first | rfl | exact q6) rfl rfl) ?_
      refine aops_step1 rfl (st_move rfl rfl) ?_
      refine aops_no rfl rfl rfl rfl rfl (by first | decide | (rw [q7]; decide)) ?_
      refine aops_no rfl rfl rfl rfl rfl (by first | decide | (rw [q7]; decide)) ?_
      refine aops_no rfl rfl rfl rfl rfl (by first | decide | (rw [q7]; decide)) ?_
      refine aops_no rfl rfl rfl rfl rfl (by first | decide | (rw [q7]; decide)) ?_
      refine aops_und rfl rfl rfl rfl rfl ?_
      refine aops_und rfl rfl rfl rfl rfl ?_
      refine aops_und rfl rfl rfl rfl rfl ?_
      refine aops_no rfl rfl rfl rfl rfl (by first | decide | (rw [q7]; decide)) ?_
      refine aops_no rfl rfl rfl rfl rfl (by first | decide | (rw [q7]; decide)) ?_
      refine aops_und rfl rfl rfl rfl rfl ?_
      refine aops_und rfl rfl rfl rfl rfl ?_
      refine aops_und rfl rfl rfl rfl rfl ?_
      refine aops_no rfl rfl rfl rfl rfl (by first | decide | (rw [q7]; decide)) ?_
      refine aops_step1 rfl (st_pick_yes rfl (by first | rfl | exact q7) rfl rfl) ?_
      refine aops_step1 rfl (st_assign rfl rfl) ?_
      refine aops_nil ?_
      cases Option.some.inj h
      refine aw_ret ⟨rfl, ret_v (.inl ⟨_, rfl, rfl, fun _ e => nomatch e⟩) rfl rfl rfl ?_⟩
      (repeat' (first | exact TLe.refl _ | exact VLe.refl _ | exact CLe.refl _ | exact All2.nil | refine TLe.tup ?_ | refine TLe.v ?_ | refine All2.cons ?_ ?_ | refine VLe.agg ?_ | refine VLe.one ?_ | exact CLe.nil _ | exact CLe.emp _ | refine CLe.val ?_ | refine CLe.slc ?_ ?_))
    replace h := Md.cond_f h q7
    refine aw_seq ?_
    refine aw_region ?_
    refine aops_step1 rfl (ev_field rfl rfl rfl) ?_
    refine aops_step1 rfl (ev_load rfl rfl rfl rfl) ?_
    refine aops_step1 rfl (st_move rfl rfl) ?_
    refine aops_yes rfl rfl rfl rfl q6 (ev_field rfl rfl rfl) ?_
    refine aops_yes rfl rfl rfl rfl q6 (ev_load rfl rfl rfl rfl) ?_
    refine aops_yes rfl rfl rfl rfl q6 (ev_not rfl rfl) ?_
    refine aops_step1 rfl (st_pick_yes rfl (by first | rfl | exact q6) rfl rfl) ?_
    refine aops_step1 rfl (st_move rfl rfl) ?_
    refine aops_yes rfl rfl rfl rfl q7 (ev_field rfl rfl rfl) ?_
    refine aops_yes rfl rfl rfl rfl q7 (ev_load rfl rfl rfl rfl) ?_
    refine aops_yes rfl rfl rfl rfl q7 (ev_not rfl rfl) ?_
    refine aops_yes rfl rfl rfl rfl q7 (st_move rfl rfl) ?_
    refine aops_no rfl rfl rfl rfl rfl (by first | decide | (rw [(Md.neg_t q6)]; decide)) ?_
    refine aops_no rfl rfl rfl rfl rfl (by first | decide | (rw [(Md.neg_t q6)]; decide)) ?_
    refine aops_no rfl rfl rfl rfl rfl (by first | decide | (rw [(Md.neg_t q6)]; decide)) ?_
    refine aops_yes rfl rfl rfl rfl q7 (st_pick_no rfl (by first | rfl | exact (Md.neg_t q6)) rfl rfl) ?_
    refine aops_yes rfl rfl rfl rfl q7 (st_move rfl rfl) ?_
    refine aops_no rfl rfl rfl rfl rfl (by decide) ?_
    refine aops_no rfl rfl rfl rfl rfl (by decide) ?_
    refine aops_no rfl rfl rfl rfl rfl (by decide) ?_
    refine aops_yes rfl rfl rfl rfl q7 (st_pick_no rfl (by first | rfl | exact rfl) rfl rfl) ?_
    refine aops_step1 rfl (st_pick_no rfl (by first | rfl | exact q7) rfl rfl) ?_
    refine aops_step1 rfl (st_assign rfl rfl) ?_
    refine aops_nil ?_
    cases Option.some.inj h
    refine aw_ret ⟨rfl, ret_v (.inl ⟨_, rfl, rfl, fun _ e => nomatch e⟩) rfl rfl rfl ?_⟩
    (repeat' (first | exact TLe.refl _ | exact VLe.refl _ | exact CLe.refl _ | exact All2.nil | refine TLe.tup ?_ | refine TLe.v ?_ | refine All2.cons ?_ ?_ | refine VLe.agg ?_ | refine VLe.one ?_ | exact CLe.nil _ | exact CLe.emp _ | refine CLe.val ?_ | refine CLe.slc ?_ ?_))
  replace h := Md.cond_f h q6
  rcases Md.bool_or ((a0.Writes == 0)) with q8 | q8
  · replace h := Md.cond_t h q8
    refine aw_seq ?_
    refine aw_region ?_
    refine aops_step1 rfl (ev_field rfl rfl rfl) ?_
    refine aops_step1 rfl (ev_load rfl rfl rfl rfl) ?_
    refine aops_step1 rfl (st_move rfl rfl) ?_
    refine aops_no rfl rfl rfl rfl rfl (by first | decide | (rw [q6]; decide)) ?_
    refine aops_no rfl rfl rfl rfl rfl (by first | decide | (rw [q6]; decide)) ?_
    refine aops_no rfl rfl rfl rfl rfl (by first | decide | (rw [q6]; decide)) ?_
    refine aops_step1 rfl (st_pick_no rfl (by first | rfl | exact q6) rfl rfl) ?_
    refine aops_step1 rfl (st_move rfl rfl) ?_
    refine aops_yes rfl rfl rfl rfl rfl (ev_field rfl rfl rfl) ?_
    refine aops_yes rfl rfl rfl rfl rfl (ev_load rfl rfl rfl rfl) ?_
    refine aops_yes rfl rfl rfl rfl rfl (ev_not rfl rfl) ?_
    refine aops_yes rfl rfl rfl rfl rfl (st_move rfl rfl) ?_
    refine aops_yes rfl rfl rfl rfl (Md.neg_f q6) (ev_field rfl rfl rfl) ?_
    refine aops_yes rfl rfl rfl rfl (Md.neg_f q6) (ev_load rfl rfl rfl rfl) ?_
    refine aops_yes rfl rfl rfl rfl (Md.neg_f q6) (ev_cmp rfl rfl rfl rfl) ?_
    refine aops_yes rfl rfl rfl rfl rfl (st_pick_yes rfl (by first | rfl | exact (Md.neg_f q6)) rfl rfl) ?_
    refine aops_yes rfl rfl rfl rfl rfl (st_move rfl rfl) ?_
    refine aops_yes rfl rfl rfl rfl q8 (ev_field rfl rfl rfl) ?_
    refine aops_yes rfl rfl rfl rfl q8 (ev_load rfl rfl rfl rfl) ?_
    refine aops_yes rfl rfl rfl rfl q8 (ev_cmp rfl rfl rfl rfl) ?_
    refine aops_yes rfl rfl rfl rfl rfl (st_pick_yes rfl (by first | rfl | exact q8) rfl rfl) ?_
    refine aops_step1 rfl (st_pick_no rfl (by first | rfl | exact rfl) rfl rfl) ?_
    refine aops_step1 rfl (st_assign rfl rfl) ?_
    refine aops_nil ?_
    cases Option.some.inj h
    refine aw_ret ⟨rfl, ret_v (.inl ⟨_, rfl, rfl, fun _ e => nomatch e⟩) rfl rfl rfl ?_⟩
    (repeat' (first | exact TLe.refl _ | exact VLe.refl _ | exact CLe.refl _ | exact All2.nil | refine TLe.tup ?_ | refine TLe.v ?_ | refine All2.cons ?_ ?_ | refine VLe.agg ?_ | refine VLe.one ?_ | exact CLe.nil _ | exact CLe.emp _ | refine CLe.val ?_ | refine CLe.slc ?_ ?_))
  replace h := Md.cond_f h q8
  refine aw_seq ?_
  refine aw_region ?_
  refine aops_step1 rfl (ev_field rfl rfl rfl) ?_
  refine aops_step1 rfl (ev_load rfl rfl rfl rfl) ?_
  refine aops_step1 rfl (st_move rfl rfl) ?_
  refine aops_no rfl rfl rfl rfl rfl (by first | decide | (rw [q6]; decide)) ?_
  refine aops_no rfl rfl rfl rfl rfl (by first | decide | (rw [q6]; decide)) ?_
  refine aops_no rfl rfl rfl rfl rfl (by first | decide | (rw [q6]; decide)) ?_
  refine aops_step1 rfl (st_pick_no rfl (by first | rfl | exact q6) rfl rfl) ?_
  refine aops_step1 rfl (st_move rfl rfl) ?_
  refine aops_yes rfl rfl rfl rfl rfl (ev_field rfl rfl rfl) ?_
  refine aops_yes rfl rfl rfl rfl rfl (ev_load rfl rfl rfl rfl) ?_
  refine aops_yes rfl rfl rfl rfl rfl (ev_not rfl rfl) ?_
  refine aops_yes rfl rfl rfl rfl rfl (st_move rfl rfl) ?_
  refine aops_yes rfl rfl rfl rfl (Md.neg_f q6) (ev_field rfl rfl rfl) ?_
  refine aops_yes rfl rfl rfl rfl (Md.neg_f q6) (ev_load rfl rfl rfl rfl) ?_
  refine aops_yes rfl rfl rfl rfl (Md.neg_f q6) (ev_cmp rfl rfl rfl rfl) ?_
  refine aops_yes rfl rfl rfl rfl rfl (st_pick_yes rfl (by first | rfl | exact (Md.neg_f q6)) rfl rfl) ?_
  refine aops_yes rfl rfl rfl rfl rfl (st_move rfl rfl) ?_
  refine aops_no rfl rfl rfl rfl rfl (by first | decide | (rw [q8]; decide)) ?_
  refine aops_no rfl rfl rfl rfl rfl (by first | decide | (rw [q8]; decide)) ?_
  refine aops_no rfl rfl rfl rfl rfl (by first | decide | (rw [q8]; decide)) ?_
  refine aops_yes rfl rfl rfl rfl rfl (st_pick_no rfl (by first | rfl | exact q8) rfl rfl) ?_
  refine aops_step1 rfl (st_pick_no rfl (by first | rfl | exact rfl) rfl rfl) ?_
  refine aops_step1 rfl (st_assign rfl rfl) ?_
  refine aops_nil ?_
  cases Option.some.inj h
  refine aw_ret ⟨rfl, ret_v (.inl ⟨_, rfl, rfl, fun _ e => nomatch e⟩) rfl rfl rfl ?_⟩
  (repeat' (first | exact TLe.refl _ | exact VLe.refl _ | exact CLe.refl _ | exact All2.nil | refine TLe.tup ?_ | refine TLe.v ?_ | refine All2.cons ?_ ?_ | refine VLe.agg ?_ | refine VLe.one ?_ | exact CLe.nil _ | exact CLe.emp _ | refine CLe.val ?_ | refine CLe.slc ?_ ?_))
set_option maxHeartbeats 2000000 in
theorem disk_New_fn (k : Nat) (a0 : Int) (r : Disk × Int) (h : disk_New k a0 = some r) : FnC Try.prog 16 [.one (.val (.int .i64 a0))] [] (Det (.tup [.agg [CV.ls byC r.1.Data, .val (.int .i64 r.1.Capacity), .val (.bool r.1.Armed), .val (.int .i64 r.1.Writes), .val (.int .i64 r.1.Keep), .val (.bool r.1.Down)], .one (.val (.int .i64 r.2))]) []) := by
  unfold disk_New at h
  refine fn_intro' 13 Try.func16 rfl rfl rfl ?_
  refine aw_seq ?_
  refine aw_region ?_
  refine aops_step1 rfl (st_alloc (cs := [.val (.slice none 0 0), .val (.int .i64 0), .val (.bool false), .val (.int .i64 0), .val (.int .i64 0), .val (.bool false)]) 0 rfl rfl rfl rfl rfl) ?_
  refine aops_step1 rfl (st_assign rfl rfl) ?_
  refine aops_nil ?_
  refine aw_seq ?_
  rcases Md.bool_or ((decide (a0 < 0))) with q1 | q1
  · replace h := Md.cond_t h q1
    refine aw_seq ?_
    refine aw_region ?_
    refine aops_step1 rfl (st_move rfl rfl) ?_
    refine aops_step1 rfl (ev_cmp rfl rfl rfl rfl) ?_
    refine aops_step1 rfl (st_move rfl rfl) ?_
    refine aops_no rfl rfl rfl rfl rfl (by first | decide | (rw [q1]; decide)) ?_
    refine aops_no rfl rfl rfl rfl rfl (by first | decide | (rw [q1]; decide)) ?_
    refine aops_step1 rfl (st_pick_yes rfl (by first | rfl | exact q1) rfl rfl) ?_
    refine aops_nil ?_
    refine aw_yes rfl (rfl) ?_
    refine aw_seq ?_
    refine aw_region ?_
    refine aops_step1 rfl (ev_build' (out := [_, _, _, _, _, _]) rfl rfl rfl rfl rfl) ?_
    refine aops_step1 rfl (st_store (cs' := [_, _, _, _, _, _]) rfl rfl rfl rfl rfl rfl rfl rfl rfl) ?_
    refine aops_step1 rfl (st_assign rfl rfl) ?_
    refine aops_nil ?_
    cases Option.some.inj h
    refine aw_ret ⟨rfl, ret_v (.inr ⟨by decide, _, rfl, .cons (show resVar _ _ _ (AV.agg [_, _, _, _, _, _]) from ⟨_, _, _, _, _, rfl, rfl, TVar.h, rfl, rfl⟩) (.cons (show get _ _ = AV.one _ from rfl) (.nil)), by intro y hy vs e; subst e; simp at hy⟩) rfl rfl rfl ?_⟩
    (repeat' (first | exact TLe.refl _ | exact VLe.refl _ | exact CLe.refl _ | exact All2.nil | refine TLe.tup ?_ | refine TLe.v ?_ | refine All2.cons ?_ ?_ | refine VLe.agg ?_ | refine VLe.one ?_ | exact CLe.nil _ | exact CLe.emp _ | refine CLe.val ?_ | refine CLe.slc ?_ ?_))
  replace h := Md.cond_f h q1
  refine aw_seq ?_
  refine aw_region ?_
  refine aops_step1 rfl (st_move rfl rfl) ?_
  refine aops_step1 rfl (ev_cmp rfl rfl rfl rfl) ?_
  refine aops_step1 rfl (st_move rfl rfl) ?_
  refine aops_yes rfl rfl rfl rfl q1 (st_move rfl rfl) ?_
  refine aops_yes rfl rfl rfl rfl q1 (ev_cmp rfl rfl rfl rfl) ?_
  refine aops_step1 rfl (st_pick_no rfl (by first | rfl | exact q1) rfl rfl) ?_
  refine aops_nil ?_
  refine aw_cond rfl (fun c2 => ?_) (fun c2 => ?_)
  · replace h := Md.cond_t h c2
    refine aw_seq ?_
    refine aw_region ?_
    refine aops_step1 rfl (ev_build' (out := [_, _, _, _, _, _]) rfl rfl rfl rfl rfl) ?_
    refine aops_step1 rfl (st_store (cs' := [_, _, _, _, _, _]) rfl rfl rfl rfl rfl rfl rfl rfl rfl) ?_
    refine aops_step1 rfl (st_assign rfl rfl) ?_
    refine aops_nil ?_
    cases Option.some.inj h
    refine aw_ret ⟨rfl, ret_v (.inr ⟨by decide, _, rfl, .cons (show resVar _ _ _ (AV.agg [_, _, _, _, _, _]) from ⟨_, _, _, _, _, rfl, rfl, TVar.h, rfl, rfl⟩) (.cons (show get _ _ = AV.one _ from rfl) (.nil)), by intro y hy vs e; subst e; simp at hy⟩) rfl rfl rfl ?_⟩
    (repeat' (first | exact TLe.refl _ | exact VLe.refl _ | exact CLe.refl _ | exact All2.nil | refine TLe.tup ?_ | refine TLe.v ?_ | refine All2.cons ?_ ?_ | refine VLe.agg ?_ | refine VLe.one ?_ | exact CLe.nil _ | exact CLe.emp _ | refine CLe.val ?_ | refine CLe.slc ?_ ?_))
  replace h := Md.cond_f h c2
  refine aw_skip ?_
  refine aw_seq ?_
  refine aw_region ?_
  refine aops_step1 rfl (st_move rfl rfl) ?_
  refine aops_step1 rfl (ev_build' (out := [_, _, _, _, _, _]) rfl rfl rfl rfl rfl) ?_
  refine aops_step1 rfl (st_store (cs' := [_, _, _, _, _, _]) rfl rfl rfl rfl rfl rfl rfl rfl rfl) ?_
  refine aops_step1 rfl (st_assign rfl rfl) ?_
  refine aops_nil ?_
  cases Option.some.inj h
  refine aw_ret ⟨rfl, ret_v (.inr ⟨by decide, _, rfl, .cons (show resVar _ _ _ (AV.agg [_, _, _, _, _, _]) from ⟨_, _, _, _, _, rfl, rfl, TVar.h, rfl, rfl⟩) (.cons (show get _ _ = AV.one _ from rfl) (.nil)), by intro y hy vs e; subst e; simp at hy⟩) rfl rfl rfl ?_⟩
  (repeat' (first | exact TLe.refl _ | exact VLe.refl _ | exact CLe.refl _ | exact All2.nil | refine TLe.tup ?_ | refine TLe.v ?_ | refine All2.cons ?_ ?_ | refine VLe.agg ?_ | refine VLe.one ?_ | exact CLe.nil _ | exact CLe.emp _ | refine CLe.val ?_ | refine CLe.slc ?_ ?_))
set_option maxHeartbeats 2000000 in
theorem actorgridref26_NewDisk_fn (k : Nat) (a0 : Int) (r : Disk × Int) (h : actorgridref26_NewDisk k a0 = some r) : FnC Try.prog 30 [.one (.val (.int .i64 a0))] [] (Det (.tup [.agg [CV.ls byC r.1.Data, .val (.int .i64 r.1.Capacity), .val (.bool r.1.Armed), .val (.int .i64 r.1.Writes), .val (.int .i64 r.1.Keep), .val (.bool r.1.Down)], .one (.val (.int .i64 r.2))]) []) := by
  unfold actorgridref26_NewDisk at h
  refine fn_intro' 13 Try.func30 rfl rfl rfl ?_
  refine aw_seq ?_
  refine aw_region ?_
  refine aops_step1 rfl (st_alloc (cs := [.val (.slice none 0 0), .val (.int .i64 0), .val (.bool false), .val (.int .i64 0), .val (.int .i64 0), .val (.bool false)]) 0 rfl rfl rfl rfl rfl) ?_
  refine aops_step1 rfl (st_assign rfl rfl) ?_
  refine aops_nil ?_
  refine aw_seq ?_
  rcases Md.bool_or ((decide (a0 < 0))) with q1 | q1
  · replace h := Md.cond_t h q1
    refine aw_seq ?_
    refine aw_region ?_
    refine aops_step1 rfl (st_move rfl rfl) ?_
    refine aops_step1 rfl (ev_cmp rfl rfl rfl rfl) ?_
    refine aops_step1 rfl (st_move rfl rfl) ?_
    refine aops_no rfl rfl rfl rfl rfl (by first | decide | (rw [q1]; decide)) ?_
    refine aops_no rfl rfl rfl rfl rfl (by first | decide | (rw [q1]; decide)) ?_
    refine aops_step1 rfl (st_pick_yes rfl (by first | rfl | exact q1) rfl rfl) ?_
    refine aops_nil ?_
    refine aw_yes rfl (rfl) ?_
    refine aw_seq ?_
    refine aw_region ?_
    refine aops_step1 rfl (ev_build' (out := [_, _, _, _, _, _]) rfl rfl rfl rfl rfl) ?_
    refine aops_step1 rfl (st_store (cs' := [_, _, _, _, _, _]) rfl rfl rfl rfl rfl rfl rfl rfl rfl) ?_
    refine aops_step1 rfl (st_assign rfl rfl) ?_
    refine aops_nil ?_
    cases Option.some.inj h
    refine aw_ret ⟨rfl, ret_v (.inr ⟨by decide, _, rfl, .cons (show resVar _ _ _ (AV.agg [_, _, _, _, _, _]) from ⟨_, _, _, _, _, rfl, rfl, TVar.h, rfl, rfl⟩) (.cons (show get _ _ = AV.one _ from rfl) (.nil)), by intro y hy vs e; subst e; simp at hy⟩) rfl rfl rfl ?_⟩
    (repeat' (first | exact TLe.refl _ | exact VLe.refl _ | exact CLe.refl _ | exact All2.nil | refine TLe.tup ?_ | refine TLe.v ?_ | refine All2.cons ?_ ?_ | refine VLe.agg ?_ | refine VLe.one ?_ | exact CLe.nil _ | exact CLe.emp _ | refine CLe.val ?_ | refine CLe.slc ?_ ?_))
  replace h := Md.cond_f h q1
  refine aw_seq ?_
  refine aw_region ?_
  refine aops_step1 rfl (st_move rfl rfl) ?_
  refine aops_step1 rfl (ev_cmp rfl rfl rfl rfl) ?_
  refine aops_step1 rfl (st_move rfl rfl) ?_
  refine aops_yes rfl rfl rfl rfl q1 (st_move rfl rfl) ?_
  refine aops_yes rfl rfl rfl rfl q1 (ev_cmp rfl rfl rfl rfl) ?_
  refine aops_step1 rfl (st_pick_no rfl (by first | rfl | exact q1) rfl rfl) ?_
  refine aops_nil ?_
  refine aw_cond rfl (fun c2 => ?_) (fun c2 => ?_)
  · replace h := Md.cond_t h c2
    refine aw_seq ?_
    refine aw_region ?_
    refine aops_step1 rfl (ev_build' (out := [_, _, _, _, _, _]) rfl rfl rfl rfl rfl) ?_
    refine aops_step1 rfl (st_store (cs' := [_, _, _, _, _, _]) rfl rfl rfl rfl rfl rfl rfl rfl rfl) ?_
    refine aops_step1 rfl (st_assign rfl rfl) ?_
    refine aops_nil ?_
    cases Option.some.inj h
    refine aw_ret ⟨rfl, ret_v (.inr ⟨by decide, _, rfl, .cons (show resVar _ _ _ (AV.agg [_, _, _, _, _, _]) from ⟨_, _, _, _, _, rfl, rfl, TVar.h, rfl, rfl⟩) (.cons (show get _ _ = AV.one _ from rfl) (.nil)), by intro y hy vs e; subst e; simp at hy⟩) rfl rfl rfl ?_⟩
    (repeat' (first | exact TLe.refl _ | exact VLe.refl _ | exact CLe.refl _ | exact All2.nil | refine TLe.tup ?_ | refine TLe.v ?_ | refine All2.cons ?_ ?_ | refine VLe.agg ?_ | refine VLe.one ?_ | exact CLe.nil _ | exact CLe.emp _ | refine CLe.val ?_ | refine CLe.slc ?_ ?_))
  replace h := Md.cond_f h c2
  refine aw_skip ?_
  refine aw_seq ?_
  refine aw_region ?_
  refine aops_step1 rfl (st_move rfl rfl) ?_
  refine aops_step1 rfl (ev_build' (out := [_, _, _, _, _, _]) rfl rfl rfl rfl rfl) ?_
  refine aops_step1 rfl (st_store (cs' := [_, _, _, _, _, _]) rfl rfl rfl rfl rfl rfl rfl rfl rfl) ?_
  refine aops_step1 rfl (st_assign rfl rfl) ?_
  refine aops_nil ?_
  cases Option.some.inj h
  refine aw_ret ⟨rfl, ret_v (.inr ⟨by decide, _, rfl, .cons (show resVar _ _ _ (AV.agg [_, _, _, _, _, _]) from ⟨_, _, _, _, _, rfl, rfl, TVar.h, rfl, rfl⟩) (.cons (show get _ _ = AV.one _ from rfl) (.nil)), by intro y hy vs e; subst e; simp at hy⟩) rfl rfl rfl ?_⟩
  (repeat' (first | exact TLe.refl _ | exact VLe.refl _ | exact CLe.refl _ | exact All2.nil | refine TLe.tup ?_ | refine TLe.v ?_ | refine All2.cons ?_ ?_ | refine VLe.agg ?_ | refine VLe.one ?_ | exact CLe.nil _ | exact CLe.emp _ | refine CLe.val ?_ | refine CLe.slc ?_ ?_))
set_option maxHeartbeats 2000000 in
theorem actorgridref26_SameDisk_fn (k : Nat) (a0 : Disk) (a1 : Disk) (r : Bool) (h : actorgridref26_SameDisk k a0 a1 = some r) : FnC Try.prog 34 [.agg [CV.ls byC a0.Data, .val (.int .i64 a0.Capacity), .val (.bool a0.Armed), .val (.int .i64 a0.Writes), .val (.int .i64 a0.Keep), .val (.bool a0.Down)], .agg [CV.ls byC a1.Data, .val (.int .i64 a1.Capacity), .val (.bool a1.Armed), .val (.int .i64 a1.Writes), .val (.int .i64 a1.Keep), .val (.bool a1.Down)]] [] (Det (.one (.val (.bool r))) []) := by
  unfold actorgridref26_SameDisk at h
  refine fn_intro' 47 Try.func34 rfl rfl rfl ?_
  refine aw_seq ?_
  refine aw_region ?_
  refine aops_step1 rfl (st_box 0 rfl rfl rfl rfl) ?_
  refine aops_step1 rfl (st_box 1 rfl rfl rfl rfl) ?_
  refine aops_step1 rfl (st_assign rfl rfl) ?_
  refine aops_nil ?_
  rcases Md.bool_or ((decide (a0.Data = a1.Data))) with q1 | q1
  · replace h := Md.cond_t h q1
    rcases Md.bool_or ((a0.Capacity == a1.Capacity)) with q2 | q2
    · replace h := Md.cond_t h q2
      rcases Md.bool_or ((a0.Armed == a1.Armed)) with q3 | q3
      · replace h := Md.cond_t h q3
        rcases Md.bool_or ((a0.Writes == a1.Writes)) with q4 | q4
        · replace h := Md.cond_t h q4
          rcases Md.bool_or ((a0.Keep == a1.Keep)) with q5 | q5
          · replace h := Md.cond_t h q5
            refine aw_seq ?_
            refine aw_region ?_
            refine aops_step1 rfl (ev_field rfl rfl rfl) ?_
            refine aops_step1 rfl (ev_load rfl rfl rfl rfl) ?_
            refine aops_step1 rfl (ev_str_bytes (.inl rfl) Try.underlying24 Try.underlying5 Try.underlying9 rfl) ?_
            refine aops_step1 rfl (ev_field rfl rfl rfl) ?_
            refine aops_step1 rfl (ev_load rfl rfl rfl rfl) ?_
            refine aops_step1 rfl (ev_str_bytes (.inl rfl) Try.underlying24 Try.underlying5 Try.underlying9 rfl) ?_
            refine aops_step1 rfl (st_str_eq rfl rfl rfl) ?_
            refine aops_step1 rfl (st_move rfl rfl) ?_
            refine aops_yes rfl rfl rfl rfl q1 (ev_field rfl rfl rfl) ?_
            refine aops_yes rfl rfl rfl rfl q1 (ev_load rfl rfl rfl rfl) ?_
            refine aops_yes rfl rfl rfl rfl q1 (ev_field rfl rfl rfl) ?_
            refine aops_yes rfl rfl rfl rfl q1 (ev_load rfl rfl rfl rfl) ?_
            refine aops_yes rfl rfl rfl rfl q1 (ev_cmp rfl rfl rfl rfl) ?_
            refine aops_step1 rfl (st_pick_yes rfl (by first | rfl | exact q1) rfl rfl) ?_
            refine aops_step1 rfl (st_move rfl rfl) ?_
            refine aops_yes rfl rfl rfl rfl q2 (ev_field rfl rfl rfl) ?_
            refine aops_yes rfl rfl rfl rfl q2 (ev_load rfl rfl rfl rfl) ?_
            refine aops_yes rfl rfl rfl rfl q2 (ev_field rfl rfl rfl) ?_
            refine aops_yes rfl rfl rfl rfl q2 (ev_load rfl rfl rfl rfl) ?_
            refine aops_yes rfl rfl rfl rfl q2 (ev_bool_eq rfl rfl rfl Try.underlying4 rfl) ?_
            refine aops_step1 rfl (st_pick_yes rfl (by first | rfl | exact q2) rfl rfl) ?_
            refine aops_step1 rfl (st_move rfl rfl) ?_
            refine aops_yes rfl rfl rfl rfl q3 (ev_field rfl rfl rfl) ?_
            refine aops_yes rfl rfl rfl rfl q3 (ev_load rfl rfl rfl rfl) ?_
            refine aops_yes rfl rfl rfl rfl q3 (ev_field rfl rfl rfl) ?_
            refine aops_yes rfl rfl rfl rfl q3 (ev_load rfl rfl rfl rfl) ?_
            refine aops_yes rfl rfl rfl rfl q3 (ev_cmp rfl rfl rfl rfl) ?_
            refine aops_step1 rfl (st_pick_yes rfl (by first | rfl | exact q3) rfl rfl) ?_
            refine aops_step1 rfl (st_move rfl rfl) ?_
            refine aops_yes rfl rfl rfl rfl q4 (ev_field rfl rfl rfl) ?_
            refine aops_yes rfl rfl rfl rfl q4 (ev_load rfl rfl rfl rfl) ?_
            refine aops_yes rfl rfl rfl rfl q4 (ev_field rfl rfl rfl) ?_
            refine aops_yes rfl rfl rfl rfl q4 (ev_load rfl rfl rfl rfl) ?_
            refine aops_yes rfl rfl rfl rfl q4 (ev_cmp rfl rfl rfl rfl) ?_
            refine aops_step1 rfl (st_pick_yes rfl (by first | rfl | exact q4) rfl rfl) ?_
            refine aops_step1 rfl (st_move rfl rfl) ?_
            refine aops_yes rfl rfl rfl rfl q5 (ev_field rfl rfl rfl) ?_
            refine aops_yes rfl rfl rfl rfl q5 (ev_load rfl rfl rfl rfl) ?_
            refine aops_yes rfl rfl rfl rfl q5 (ev_field rfl rfl rfl) ?_
            refine aops_yes rfl rfl rfl rfl q5 (ev_load rfl rfl rfl rfl) ?_
            refine aops_yes rfl rfl rfl rfl q5 (ev_bool_eq rfl rfl rfl Try.underlying4 rfl) ?_
            refine aops_step1 rfl (st_pick_yes rfl (by first | rfl | exact q5) rfl rfl) ?_
            refine aops_step1 rfl (st_assign rfl rfl) ?_
            refine aops_nil ?_
            cases Option.some.inj h
            refine aw_ret ⟨rfl, ret_v (.inl ⟨_, rfl, rfl, fun _ e => nomatch e⟩) rfl rfl rfl ?_⟩
            (repeat' (first | exact TLe.refl _ | exact VLe.refl _ | exact CLe.refl _ | exact All2.nil | refine TLe.tup ?_ | refine TLe.v ?_ | refine All2.cons ?_ ?_ | refine VLe.agg ?_ | refine VLe.one ?_ | exact CLe.nil _ | exact CLe.emp _ | refine CLe.val ?_ | refine CLe.slc ?_ ?_))
          replace h := Md.cond_f h q5
          refine aw_seq ?_
          refine aw_region ?_
          refine aops_step1 rfl (ev_field rfl rfl rfl) ?_
          refine aops_step1 rfl (ev_load rfl rfl rfl rfl) ?_
          refine aops_step1 rfl (ev_str_bytes (.inl rfl) Try.underlying24 Try.underlying5 Try.underlying9 rfl) ?_
          refine aops_step1 rfl (ev_field rfl rfl rfl) ?_
          refine aops_step1 rfl (ev_load rfl rfl rfl rfl) ?_
          refine aops_step1 rfl (ev_str_bytes (.inl rfl) Try.underlying24 Try.underlying5 Try.underlying9 rfl) ?_
          refine aops_step1 rfl (st_str_eq rfl rfl rfl) ?_
          refine aops_step1 rfl (st_move rfl rfl) ?_
          refine aops_yes rfl rfl rfl rfl q1 (ev_field rfl rfl rfl) ?_
          refine aops_yes rfl rfl rfl rfl q1 (ev_load rfl rfl rfl rfl) ?_
          refine aops_yes rfl rfl rfl rfl q1 (ev_field rfl rfl rfl) ?_
          refine aops_yes rfl rfl rfl rfl q1 (ev_load rfl rfl rfl rfl) ?_
          refine aops_yes rfl rfl rfl rfl q1 (ev_cmp rfl rfl rfl rfl) ?_
          refine aops_step1 rfl (st_pick_yes rfl (by first | rfl | exact q1) rfl rfl) ?_
          refine aops_step1 rfl (st_move rfl rfl) ?_
          refine aops_yes rfl rfl rfl rfl q2 (ev_field rfl rfl rfl) ?_
          refine aops_yes rfl rfl rfl rfl q2 (ev_load rfl rfl rfl rfl) ?_
          refine aops_yes rfl rfl rfl rfl q2 (ev_field rfl rfl rfl) ?_
          refine aops_yes rfl rfl rfl rfl q2 (ev_load rfl rfl rfl rfl) ?_
          refine aops_yes rfl rfl rfl rfl q2 (ev_bool_eq rfl rfl rfl Try.underlying4 rfl) ?_
          refine aops_step1 rfl (st_pick_yes rfl (by first | rfl | exact q2) rfl rfl) ?_
          refine aops_step1 rfl (st_move rfl rfl) ?_
          refine aops_yes rfl rfl rfl rfl q3 (ev_field rfl rfl rfl) ?_
          refine aops_yes rfl rfl rfl rfl q3 (ev_load rfl rfl rfl rfl) ?_
          refine aops_yes rfl rfl rfl rfl q3 (ev_field rfl rfl rfl) ?_
          refine aops_yes rfl rfl rfl rfl q3 (ev_load rfl rfl rfl rfl) ?_
          refine aops_yes rfl rfl rfl rfl q3 (ev_cmp rfl rfl rfl rfl) ?_
          refine aops_step1 rfl (st_pick_yes rfl (by first | rfl | exact q3) rfl rfl) ?_
          refine aops_step1 rfl (st_move rfl rfl) ?_
          refine aops_yes rfl rfl rfl rfl q4 (ev_field rfl rfl rfl) ?_
          refine aops_yes rfl rfl rfl rfl q4 (ev_load rfl rfl rfl rfl) ?_
          refine aops_yes rfl rfl rfl rfl q4 (ev_field rfl rfl rfl) ?_
          refine aops_yes rfl rfl rfl rfl q4 (ev_load rfl rfl rfl rfl) ?_
          refine aops_yes rfl rfl rfl rfl q4 (ev_cmp rfl rfl rfl rfl) ?_
          refine aops_step1 rfl (st_pick_yes rfl (by first | rfl | exact q4) rfl rfl) ?_
          refine aops_step1 rfl (st_move rfl rfl) ?_
          refine aops_no rfl rfl rfl rfl rfl (by first | decide | (rw [q5]; decide)) ?_
          refine aops_no rfl rfl rfl rfl rfl (by first | decide | (rw [q5]; decide)) ?_
          refine aops_no rfl rfl rfl rfl rfl (by first | decide | (rw [q5]; decide)) ?_
          refine aops_no rfl rfl rfl rfl rfl (by first | decide | (rw [q5]; decide)) ?_
          refine aops_no rfl rfl rfl rfl rfl (by first | decide | (rw [q5]; decide)) ?_
          refine aops_step1 rfl (st_pick_no rfl (by first | rfl | exact q5) rfl rfl) ?_
          refine aops_step1 rfl (st_assign rfl rfl) ?_
          refine aops_nil ?_
          cases Option.some.inj h
          refine aw_ret ⟨rfl, ret_v (.inl ⟨_, rfl, rfl, fun _ e => nomatch e⟩) rfl rfl rfl ?_⟩
          (repeat' (first | exact TLe.refl _ | exact VLe.refl _ | exact CLe.refl _ | exact All2.nil | refine TLe.tup ?_ | refine TLe.v ?_ | refine All2.cons ?_ ?_ | refine VLe.agg ?_ | refine VLe.one ?_ | exact CLe.nil _ | exact CLe.emp _ | refine CLe.val ?_ | refine CLe.slc ?_ ?_))
        replace h := Md.cond_f h q4
        refine aw_seq ?_
        refine aw_region ?_
        refine aops_step1 rfl (ev_field rfl rfl rfl) ?_
        refine aops_step1 rfl (ev_load rfl rfl rfl rfl) ?_
        refine aops_step1 rfl (ev_str_bytes (.inl rfl) Try.underlying24 Try.underlying5 Try.underlying9 rfl) ?_
        refine aops_step1 rfl (ev_field rfl rfl rfl) ?_
        refine aops_step1 rfl (ev_load rfl rfl rfl rfl) ?_
        refine aops_step1 rfl (ev_str_bytes (.inl rfl) Try.underlying24 Try.underlying5 Try.underlying9 rfl) ?_
        refine aops_step1 rfl (st_str_eq rfl rfl rfl) ?_
        refine aops_step1 rfl (st_move rfl rfl) ?_
        refine aops_yes rfl rfl rfl rfl q1 (ev_field rfl rfl rfl) ?_
        refine aops_yes rfl rfl rfl rfl q1 (ev_load rfl rfl rfl rfl) ?_
        refine aops_yes rfl rfl rfl rfl q1 (ev_field rfl rfl rfl) ?_
        refine aops_yes rfl rfl rfl rfl q1 (ev_load rfl rfl rfl rfl) ?_
        refine aops_yes rfl rfl rfl rfl q1 (ev_cmp rfl rfl rfl rfl) ?_
        refine aops_step1 rfl (st_pick_yes rfl (by first | rfl | exact q1) rfl rfl) ?_
        refine aops_step1 rfl (st_move rfl rfl) ?_
        refine aops_yes rfl rfl rfl rfl q2 (ev_field rfl rfl rfl) ?_
        refine aops_yes rfl rfl rfl rfl q2 (ev_load rfl rfl rfl rfl) ?_
        refine aops_yes rfl rfl rfl rfl q2 (ev_field rfl rfl rfl) ?_
        refine aops_yes rfl rfl rfl rfl q2 (ev_load rfl rfl rfl rfl) ?_
        refine aops_yes rfl rfl rfl rfl q2 (ev_bool_eq rfl rfl rfl Try.underlying4 rfl) ?_
        refine aops_step1 rfl (st_pick_yes rfl (by first | rfl | exact q2) rfl rfl) ?_
        refine aops_step1 rfl (st_move rfl rfl) ?_
        refine aops_yes rfl rfl rfl rfl q3 (ev_field rfl rfl rfl) ?_
        refine aops_yes rfl rfl rfl rfl q3 (ev_load rfl rfl rfl rfl) ?_
        refine aops_yes rfl rfl rfl rfl q3 (ev_field rfl rfl rfl) ?_
        refine aops_yes rfl rfl rfl rfl q3 (ev_load rfl rfl rfl rfl) ?_
        refine aops_yes rfl rfl rfl rfl q3 (ev_cmp rfl rfl rfl rfl) ?_
        refine aops_step1 rfl (st_pick_yes rfl (by first | rfl | exact q3) rfl rfl) ?_
        refine aops_step1 rfl (st_move rfl rfl) ?_
        refine aops_no rfl rfl rfl rfl rfl (by first | decide | (rw [q4]; decide)) ?_
        refine aops_no rfl rfl rfl rfl rfl (by first | decide | (rw [q4]; decide)) ?_
        refine aops_no rfl rfl rfl rfl rfl (by first | decide | (rw [q4]; decide)) ?_
        refine aops_no rfl rfl rfl rfl rfl (by first | decide | (rw [q4]; decide)) ?_
        refine aops_no rfl rfl rfl rfl rfl (by first | decide | (rw [q4]; decide)) ?_
        refine aops_step1 rfl (st_pick_no rfl (by first | rfl | exact q4) rfl rfl) ?_
        refine aops_step1 rfl (st_move rfl rfl) ?_
        refine aops_no rfl rfl rfl rfl rfl (by decide) ?_
        refine aops_no rfl rfl rfl rfl rfl (by decide) ?_
        refine aops_no rfl rfl rfl rfl rfl (by decide) ?_
        refine aops_no rfl rfl rfl rfl rfl (by decide) ?_
        refine aops_no rfl rfl rfl rfl rfl (by decide) ?_
        refine aops_step1 rfl (st_pick_no rfl (by first | rfl | exact rfl) rfl rfl) ?_
        refine aops_step1 rfl (st_assign rfl rfl) ?_
        refine aops_nil ?_
        cases Option.some.inj h
        refine aw_ret ⟨rfl, ret_v (.inl ⟨_, rfl, rfl, fun _ e => nomatch e⟩) rfl rfl rfl ?_⟩
        (repeat' (first | exact TLe.refl _ | exact VLe.refl _ | exact CLe.refl _ | exact All2.nil | refine TLe.tup ?_ | refine TLe.v ?_ | refine All2.cons ?_ ?_ | refine VLe.agg ?_ | refine VLe.one ?_ | exact CLe.nil _ | exact CLe.emp _ | refine CLe.val ?_ | refine CLe.slc ?_ ?_))
      replace h := Md.cond_f h q3
      refine aw_seq ?_
      refine aw_region ?_
      refine aops_step1 rfl (ev_field rfl rfl rfl) ?_
      refine aops_step1 rfl (ev_load rfl rfl rfl rfl) ?_
      refine aops_step1 rfl (ev_str_bytes (.inl rfl) Try.underlying24 Try.underlying5 Try.underlying9 rfl) ?_
      refine aops_step1 rfl (ev_field rfl rfl rfl) ?_
      refine aops_step1 rfl (ev_load rfl rfl rfl rfl) ?_
      refine aops_step1 rfl (ev_str_bytes (.inl rfl) Try.underlying24 Try.underlying5 Try.underlying9 rfl) ?_
      refine aops_step1 rfl (st_str_eq rfl rfl rfl) ?_
      refine aops_step1 rfl (st_move rfl rfl) ?_
      refine aops_yes rfl rfl rfl rfl q1 (ev_field rfl rfl rfl) ?_
      refine aops_yes rfl rfl rfl rfl q1 (ev_load rfl rfl rfl rfl) ?_
      refine aops_yes rfl rfl rfl rfl q1 (ev_field rfl rfl rfl) ?_
      refine aops_yes rfl rfl rfl rfl q1 (ev_load rfl rfl rfl rfl) ?_
      refine aops_yes rfl rfl rfl rfl q1 (ev_cmp rfl rfl rfl rfl) ?_
      refine aops_step1 rfl (st_pick_yes rfl (by first | rfl | exact q1) rfl rfl) ?_
      refine aops_step1 rfl (st_move rfl rfl) ?_
      refine aops_yes rfl rfl rfl rfl q2 (ev_field rfl rfl rfl) ?_
      refine aops_yes rfl rfl rfl rfl q2 (ev_load rfl rfl rfl rfl) ?_
      refine aops_yes rfl rfl rfl rfl q2 (ev_field rfl rfl rfl) ?_
      refine aops_yes rfl rfl rfl rfl q2 (ev_load rfl rfl rfl rfl) ?_
      refine aops_yes rfl rfl rfl rfl q2 (ev_bool_eq rfl rfl rfl Try.underlying4 rfl) ?_
      refine aops_step1 rfl (st_pick_yes rfl (by first | rfl | exact q2) rfl rfl) ?_
      refine aops_step1 rfl (st_move rfl rfl) ?_
      refine aops_no rfl rfl rfl rfl rfl (by first | decide | (rw [q3]; decide)) ?_
      refine aops_no rfl rfl rfl rfl rfl (by first | decide | (rw [q3]; decide)) ?_
      refine aops_no rfl rfl rfl rfl rfl (by first | decide | (rw [q3]; decide)) ?_
      refine aops_no rfl rfl rfl rfl rfl (by first | decide | (rw [q3]; decide)) ?_
      refine aops_no rfl rfl rfl rfl rfl (by first | decide | (rw [q3]; decide)) ?_
      refine aops_step1 rfl (st_pick_no rfl (by first | rfl | exact q3) rfl rfl) ?_
      refine aops_step1 rfl (st_move rfl rfl) ?_
      refine aops_no rfl rfl rfl rfl rfl (by decide) ?_
      refine aops_no rfl rfl rfl rfl rfl (by decide) ?_
      refine aops_no rfl rfl rfl rfl rfl (by decide) ?_
      refine aops_no rfl rfl rfl rfl rfl (by decide) ?_
      refine aops_no rfl rfl rfl rfl rfl (by decide) ?_
      refine aops_step1 rfl (st_pick_no rfl (by first | rfl | exact rfl) rfl rfl) ?_
      refine aops_step1 rfl (st_move rfl rfl) ?_
      refine aops_no rfl rfl rfl rfl rfl (by decide) ?_
      refine aops_no rfl rfl rfl rfl rfl (by decide) ?_
      refine aops_no rfl rfl rfl rfl rfl (by decide) ?_
      refine aops_no rfl rfl rfl rfl rfl (by decide) ?_
      refine aops_no rfl rfl rfl rfl rfl (by decide) ?_
      refine aops_step1 rfl (st_pick_no rfl (by first | rfl | exact rfl) rfl rfl) ?_
      refine aops_step1 rfl (st_assign rfl rfl) ?_
      refine aops_nil ?_
      cases Option.some.inj h
      refine aw_ret ⟨rfl, ret_v (.inl ⟨_, rfl, rfl, fun _ e => nomatch e⟩) rfl rfl rfl ?_⟩
      (repeat' (first | exact TLe.refl _ | exact VLe.refl _ | exact CLe.refl _ | exact All2.nil | refine TLe.tup ?_ | refine TLe.v ?_ | refine All2.cons ?_ ?_ | refine VLe.agg ?_ | refine VLe.one ?_ | exact CLe.nil _ | exact CLe.emp _ | refine CLe.val ?_ | refine CLe.slc ?_ ?_))
    replace h := Md.cond_f h q2
    refine aw_seq ?_
    refine aw_region ?_
    refine aops_step1 rfl (ev_field rfl rfl rfl) ?_
    refine aops_step1 rfl (ev_load rfl rfl rfl rfl) ?_
    refine aops_step1 rfl (ev_str_bytes (.inl rfl) Try.underlying24 Try.underlying5 Try.underlying9 rfl) ?_
    refine aops_step1 rfl (ev_field rfl rfl rfl) ?_
    refine aops_step1 rfl (ev_load rfl rfl rfl rfl) ?_
    refine aops_step1 rfl (ev_str_bytes (.inl rfl) Try.underlying24 Try.underlying5 Try.underlying9 rfl) ?_
    refine aops_step1 rfl (st_str_eq rfl rfl rfl) ?_
    refine aops_step1 rfl (st_move rfl rfl) ?_
    refine aops_yes rfl rfl rfl rfl q1 (ev_field rfl rfl rfl) ?_
    refine aops_yes rfl rfl rfl rfl q1 (ev_load rfl rfl rfl rfl) ?_
    refine aops_yes rfl rfl rfl rfl q1 (ev_field rfl rfl rfl) ?_
    refine aops_yes rfl rfl rfl rfl q1 (ev_load rfl rfl rfl rfl) ?_
    refine aops_yes rfl rfl rfl rfl q1 (ev_cmp rfl rfl rfl rfl) ?_
    refine aops_step1 rfl (st_pick_yes rfl (by first | rfl | exact q1) rfl rfl) ?_
    refine aops_step1 rfl (st_move rfl rfl) ?_
    refine aops_no rfl rfl rfl rfl rfl (by first | decide | (rw [q2]; decide)) ?_
    refine aops_no rfl rfl rfl rfl rfl (by first | decide | (rw [q2]; decide)) ?_
    refine aops_no rfl rfl rfl rfl rfl (by first | decide | (rw [q2]; decide)) ?_
    refine aops_no rfl rfl rfl rfl rfl (by first | decide | (rw [q2]; decide)) ?_
    refine aops_no rfl rfl rfl rfl rfl (by first | decide | (rw [q2]; decide)) ?_
    refine aops_step1 rfl (st_pick_no rfl (by first | rfl | exact q2) rfl rfl) ?_
    refine aops_step1 rfl (st_move rfl rfl) ?_
    refine aops_no rfl rfl rfl rfl rfl (by decide) ?_
    refine aops_no rfl rfl rfl rfl rfl (by decide) ?_
    refine aops_no rfl rfl rfl rfl rfl (by decide) ?_
    refine aops_no rfl rfl rfl rfl rfl (by decide) ?_
    refine aops_no rfl rfl rfl rfl rfl (by decide) ?_
    refine aops_step1 rfl (st_pick_no rfl (by first | rfl | exact rfl) rfl rfl) ?_
    refine aops_step1 rfl (st_move rfl rfl) ?_
    refine aops_no rfl rfl rfl rfl rfl (by decide) ?_
    refine aops_no rfl rfl rfl rfl rfl (by decide) ?_
    refine aops_no rfl rfl rfl rfl rfl (by decide) ?_
    refine aops_no rfl rfl rfl rfl rfl (by decide) ?_
    refine aops_no rfl rfl rfl rfl rfl (by decide) ?_
    refine aops_step1 rfl (st_pick_no rfl (by first | rfl | exact rfl) rfl rfl) ?_
    refine aops_step1 rfl (st_move rfl rfl) ?_
    refine aops_no rfl rfl rfl rfl rfl (by decide) ?_
    refine aops_no rfl rfl rfl rfl rfl (by decide) ?_
    refine aops_no rfl rfl rfl rfl rfl (by decide) ?_
    refine aops_no rfl rfl rfl rfl rfl (by decide) ?_
    refine aops_no rfl rfl rfl rfl rfl (by decide) ?_
    refine aops_step1 rfl (st_pick_no rfl (by first | rfl | exact rfl) rfl rfl) ?_
    refine aops_step1 rfl (st_assign rfl rfl) ?_
    refine aops_nil ?_
    cases Option.some.inj h
    refine aw_ret ⟨rfl, ret_v (.inl ⟨_, rfl, rfl, fun _ e => nomatch e⟩) rfl rfl rfl ?_⟩
    (repeat' (first | exact TLe.refl _ | exact VLe.refl _ | exact CLe.refl _ | exact All2.nil | refine TLe.tup ?_ | refine TLe.v ?_ | refine All2.cons ?_ ?_ | refine VLe.agg ?_ | refine VLe.one ?_ | exact CLe.nil _ | exact CLe.emp _ | refine CLe.val ?_ | refine CLe.slc ?_ ?_))
  replace h := Md.cond_f h q1
  refine aw_seq ?_
  refine aw_region ?_
  refine aops_step1 rfl (ev_field rfl rfl rfl) ?_
  refine aops_step1 rfl (ev_load rfl rfl rfl rfl) ?_
  refine aops_step1 rfl (ev_str_bytes (.inl rfl) Try.underlying24 Try.underlying5 Try.underlying9 rfl) ?_
  refine aops_step1 rfl (ev_field rfl rfl rfl) ?_
  refine aops_step1 rfl (ev_load rfl rfl rfl rfl) ?_
  refine aops_step1 rfl (ev_str_bytes (.inl rfl) Try.underlying24 Try.underlying5 Try.underlying9 rfl) ?_
  refine aops_step1 rfl (st_str_eq rfl rfl rfl) ?_
  refine aops_step1 rfl (st_move rfl rfl) ?_
  refine aops_no rfl rfl rfl rfl rfl (by first | decide | (rw [q1]; decide)) ?_
  refine aops_no rfl rfl rfl rfl rfl (by first | decide | (rw [q1]; decide)) ?_
  refine aops_no rfl rfl rfl rfl rfl (by first | decide | (rw [q1]; decide)) ?_
  refine aops_no rfl rfl rfl rfl rfl (by first | decide | (rw [q1]; decide)) ?_
  refine aops_no rfl rfl rfl rfl rfl (by first | decide | (rw [q1]; decide)) ?_
  refine aops_step1 rfl (st_pick_no rfl (by first | rfl | exact q1) rfl rfl) ?_
  refine aops_step1 rfl (st_move rfl rfl) ?_
  refine aops_no rfl rfl rfl rfl rfl (by decide) ?_
  refine aops_no rfl rfl rfl rfl rfl (by decide) ?_
  refine aops_no rfl rfl rfl rfl rfl (by decide) ?_
  refine aops_no rfl rfl rfl rfl rfl (by decide) ?_
  refine aops_no rfl rfl rfl rfl rfl (by decide) ?_
  refine aops_step1 rfl (st_pick_no rfl (by first | rfl | exact rfl) rfl rfl) ?_
  refine aops_step1 rfl (st_move rfl rfl) ?_
  refine aops_no rfl rfl rfl rfl rfl (by decide) ?_
  refine aops_no rfl rfl rfl rfl rfl (by decide) ?_
  refine aops_no rfl rfl rfl rfl rfl (by decide) ?_
  refine aops_no rfl rfl rfl rfl rfl (by decide) ?_
  refine aops_no rfl rfl rfl rfl rfl (by decide) ?_
  refine aops_step1 rfl (st_pick_no rfl (by first | rfl | exact rfl) rfl rfl) ?_
  refine aops_step1 rfl (st_move rfl rfl) ?_
  refine aops_no rfl rfl rfl rfl rfl (by decide) ?_
  refine aops_no rfl rfl rfl rfl rfl (by decide) ?_
  refine aops_no rfl rfl rfl rfl rfl (by decide) ?_
  refine aops_no rfl rfl rfl rfl rfl (by decide) ?_
  refine aops_no rfl rfl rfl rfl rfl (by decide) ?_
  refine aops_step1 rfl (st_pick_no rfl (by first | rfl | exact rfl) rfl rfl) ?_
  refine aops_step1 rfl (st_move rfl rfl) ?_
  refine aops_no rfl rfl rfl rfl rfl (by decide) ?_
  refine aops_no rfl rfl rfl rfl rfl (by decide) ?_
  refine aops_no rfl rfl rfl rfl rfl (by decide) ?_
  refine aops_no rfl rfl rfl rfl rfl (by decide) ?_
  refine aops_no rfl rfl rfl rfl rfl (by decide) ?_
  refine aops_step1 rfl (st_pick_no rfl (by first | rfl | exact rfl) rfl rfl) ?_
  refine aops_step1 rfl (st_assign rfl rfl) ?_
  refine aops_nil ?_
  cases Option.some.inj h
  refine aw_ret ⟨rfl, ret_v (.inl ⟨_, rfl, rfl, fun _ e => nomatch e⟩) rfl rfl rfl ?_⟩
  (repeat' (first | exact TLe.refl _ | exact VLe.refl _ | exact CLe.refl _ | exact All2.nil | refine TLe.tup ?_ | refine TLe.v ?_ | refine All2.cons ?_ ?_ | refine VLe.agg ?_ | refine VLe.one ?_ | exact CLe.nil _ | exact CLe.emp _ | refine CLe.val ?_ | refine CLe.slc ?_ ?_))
end Md
end Go.Proofs.Ytkcfkcgclljncaa
