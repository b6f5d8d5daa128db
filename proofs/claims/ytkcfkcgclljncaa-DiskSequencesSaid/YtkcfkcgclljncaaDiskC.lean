/-
  DiskC: where a function's model gives a value, the function returns what reads as it (printed by wip/tools/auto.py). Condition of each: the model gives a value.
-/
import Derived.Test.YtkcfkcgclljncaaDiskCM
import Derived.Test.YtkcfkcgclljncaaDiskB
namespace Go.Proofs.Ytkcfkcgclljncaa
open Go.ChangeShapes Go.WideShapes Go.RowKit
open Abs
set_option linter.unusedVariables false
set_option linter.unusedSimpArgs false
set_option maxRecDepth 10000
namespace Md
set_option maxHeartbeats 2000000 in
theorem actorgridref26_copyDisk_fn (k : Nat) (a0 : Disk) (r : Disk) (h : actorgridref26_copyDisk k a0 = some r) : FnC Try.prog 63 [.agg [CV.ls byC a0.Data, .val (.int .i64 a0.Capacity), .val (.bool a0.Armed), .val (.int .i64 a0.Writes), .val (.int .i64 a0.Keep), .val (.bool a0.Down)]] [] (Det (.agg [.own 0, .val (.int .i64 r.Capacity), .val (.bool r.Armed), .val (.int .i64 r.Writes), .val (.int .i64 r.Keep), .val (.bool r.Down)]) [(0, some (.row 5 1 r.Data.length (lsEl byC r.Data)))]) := by
  unfold actorgridref26_copyDisk at h
  refine fn_intro' 9 Try.func63 rfl rfl rfl ?_
  refine aw_seq ?_
  refine aw_region ?_
  refine aops_step1 rfl (st_box 0 rfl rfl rfl rfl) ?_
  refine aops_step1 rfl (st_alloc (cs := [.val (.slice none 0 0), .val (.int .i64 0), .val (.bool false), .val (.int .i64 0), .val (.int .i64 0), .val (.bool false)]) 1 rfl rfl rfl rfl rfl) ?_
  refine aops_nil ?_
  obtain ⟨g1, h⟩ := Md.ifp_s h
  refine aw_seq ?_
  refine aw_region ?_
  refine aops_step1 rfl (st_slice_lit (el := lsEl byC ([] : List UInt8)) 2 rfl rfl rfl rfl rfl rfl rfl rfl (lit_el byC 1 ([] : List UInt8) (fun _ => rfl)) rfl) ?_
  refine aops_step1 rfl (ev_field rfl rfl rfl) ?_
  refine aops_step1 rfl (ev_load rfl rfl rfl rfl) ?_
  refine aops_step1 rfl (st_app_ls (f := byC) ([] : List UInt8) a0.Data (fun _ => rfl) rfl rfl (.inl rfl) (by omega) (by omega) rfl) ?_
  refine aops_step1 rfl (ev_field rfl rfl rfl) ?_
  refine aops_step1 rfl (st_store (cs' := [_, _, _, _, _, _]) rfl rfl rfl rfl rfl rfl rfl rfl rfl) ?_
  refine aops_nil ?_
  refine aw_seq ?_
  refine aw_region ?_
  refine aops_step1 rfl (ev_loads (ds := [_, _, _, _, _, _]) rfl rfl rfl rfl rfl) ?_
  refine aops_step1 rfl (st_store (cs' := [_, _, _, _, _, _]) rfl rfl rfl rfl rfl rfl rfl rfl rfl) ?_
  refine aops_nil ?_
  cases Option.some.inj h
  refine aw_ret ⟨rfl, ret_r 2 (.inl ⟨_, rfl, (show resVar _ _ _ (AV.agg [_, _, _, _, _, _]) from ⟨_, _, _, _, _, rfl, rfl, TVar.h, rfl, rfl⟩), fun _ e => nomatch e⟩) rfl rfl rfl ?_ ?_ ?_⟩
  · first | exact TLe.refl _ | (repeat' (first | exact TLe.refl _ | exact VLe.refl _ | exact CLe.refl _ | exact All2.nil | refine TLe.tup ?_ | refine TLe.v ?_ | refine All2.cons ?_ ?_ | refine VLe.agg ?_ | refine VLe.one ?_ | exact CLe.nil _ | exact CLe.emp _ | refine CLe.val ?_ | refine CLe.slc ?_ ?_))
  · rfl
  · rfl
set_option maxHeartbeats 2000000 in
theorem actorgridref26_AppendDisk_fn (k : Nat) (a0 : Disk) (a1 : List UInt8) (r : Disk × Int) (h : actorgridref26_AppendDisk k a0 a1 = some r) : FnC Try.prog 23 [.agg [CV.ls byC a0.Data, .val (.int .i64 a0.Capacity), .val (.bool a0.Armed), .val (.int .i64 a0.Writes), .val (.int .i64 a0.Keep), .val (.bool a0.Down)], .one (CV.ls byC a1)] [] (Det (.tup [.agg [CV.ls byC r.1.Data, .val (.int .i64 r.1.Capacity), .val (.bool r.1.Armed), .val (.int .i64 r.1.Writes), .val (.int .i64 r.1.Keep), .val (.bool r.1.Down)], .one (.val (.int .i64 r.2))]) []) := by
  unfold actorgridref26_AppendDisk at h
  refine fn_intro' 60 Try.func23 rfl rfl rfl ?_
  refine aw_seq ?_
  refine aw_region ?_
  refine aops_step1 rfl (st_box 0 rfl rfl rfl rfl) ?_
  refine aops_step1 rfl (st_alloc (cs := [.val (.slice none 0 0), .val (.int .i64 0), .val (.bool false), .val (.int .i64 0), .val (.int .i64 0), .val (.bool false)]) 1 rfl rfl rfl rfl rfl) ?_
  refine aops_step1 rfl (st_assign rfl rfl) ?_
  refine aops_nil ?_
  refine aw_seq ?_
  obtain ⟨x1, hx1, h⟩ := Md.bind_s h
  refine aw_seq ?_
  refine aw_region ?_
  refine aops_step1 rfl (ev_loads (ds := [_, _, _, _, _, _]) rfl rfl rfl rfl rfl) ?_
  refine aops_step1 rfl (ev_call_v (actorgridref26_ValidDisk_fn k a0 x1 hx1) rfl [] (by repeat' (first | exact All2.nil | refine All2.cons ?_ ?_ | refine ArgV.one ?_ | refine ArgV.agg ?_ | exact ArgC.mk rfl | exact ArgC.lend rfl (by simp) | exact ArgC.le (CLe.nil _) rfl | exact ArgC.le (CLe.emp _) rfl | exact ArgC.le (CLe.any _) rfl)) rfl rfl rfl (.inl rfl) rfl) ?_
  refine aops_step1 rfl (ev_not rfl rfl) ?_
  refine aops_nil ?_
  refine aw_cond rfl (fun c2 => ?_) (fun c2 => ?_)
  · replace h := Md.cond_t h c2
    refine aw_seq ?_
    refine aw_region ?_
    refine aops_step1 rfl (ev_build' (out := [_, _, _, _, _, _]) rfl rfl rfl rfl rfl) ?_
    refine aops_step1 rfl (st_store (cs' := [_, _, _, _, _, _]) rfl rfl rfl rfl rfl rfl rfl rfl rfl) ?_
    refine aops_step1 rfl (st_assign rfl rfl) ?_
    refine aops_nil ?_
    cases Option.some.inj h
    refine aw_ret ⟨rfl, ret_v (.inr ⟨by decide, _, rfl, .cons (show resVar _ _ _ (AV.agg [_, _, _, _, _, _]) from ⟨_, _, _, _, _, rfl, rfl, TVar.h, rfl, rfl⟩) (.cons (show get _ _ = AV.one _ from rfl) (.nil)), by intro y hy vs e; subst e; simp at hy⟩) rfl rfl rfl ?_⟩
    (repeat' (first | exact TLe.refl _ | exact VLe.refl _ | exact CLe.refl _ | exact All2.nil | refine TLe.tup ?_ | refine TLe.v ?_ | refine All2.cons ?_ ?_ | refine VLe.agg ?_ | refine VLe.one ?_ | exact CLe.nil _ | exact CLe.emp _ | refine CLe.val ?_ | refine CLe.slc ?_ ?_))
  replace h := Md.cond_f h c2
  refine aw_skip ?_
  obtain ⟨x3, hx3, h⟩ := Md.bind_s h
  refine aw_seq ?_
  refine aw_region ?_
  refine aops_step1 rfl (ev_loads (ds := [_, _, _, _, _, _]) rfl rfl rfl rfl rfl) ?_
  refine aops_step1 rfl (st_call_r 2 rfl (actorgridref26_copyDisk_fn k a0 x3 hx3) rfl [] (by repeat' (first | exact All2.nil | refine All2.cons ?_ ?_ | refine ArgV.one ?_ | refine ArgV.agg ?_ | exact ArgC.mk rfl | exact ArgC.lend rfl (by simp) | exact ArgC.le (CLe.nil _) rfl | exact ArgC.le (CLe.emp _) rfl | exact ArgC.le (CLe.any _) rfl)) rfl rfl rfl (.inl rfl) rfl rfl) ?_
  refine aops_step1 rfl (st_store (cs' := [_, _, _, _, _, _]) rfl rfl rfl rfl rfl rfl rfl rfl rfl) ?_
  refine aops_nil ?_
  refine aw_seq ?_
  refine aw_seq ?_
  refine aw_region ?_
  refine aops_step1 rfl (ev_field rfl rfl rfl) ?_
  refine aops_step1 rfl (ev_load rfl rfl rfl rfl) ?_
  refine aops_nil ?_
  refine aw_cond rfl (fun c4 => ?_) (fun c4 => ?_)
  · replace h := Md.cond_t h c4
    refine aw_seq ?_
    refine aw_region ?_
    refine aops_step1 rfl (ev_loads (ds := [_, _, _, _, _, _]) rfl rfl rfl rfl rfl) ?_
    refine aops_step1 rfl (st_store (cs' := [_, _, _, _, _, _]) rfl rfl rfl rfl rfl rfl rfl rfl rfl) ?_
    refine aops_step1 rfl (st_assign rfl rfl) ?_
    refine aops_nil ?_
    cases Option.some.inj h
    refine aw_freeze 2 rfl ?_
    refine aw_ret ⟨rfl, ret_v (.inr ⟨by decide, _, rfl, .cons (show resVar _ _ _ (AV.agg [_, _, _, _, _, _]) from ⟨_, _, _, _, _, rfl, rfl, TVar.h, rfl, rfl⟩) (.cons (show get _ _ = AV.one _ from rfl) (.nil)), by intro y hy vs e; subst e; simp at hy⟩) rfl rfl rfl ?_⟩
    (repeat' (first | exact TLe.refl _ | exact VLe.refl _ | exact CLe.refl _ | exact All2.nil | refine TLe.tup ?_ | refine TLe.v ?_ | refine All2.cons ?_ ?_ | refine VLe.agg ?_ | refine VLe.one ?_ | exact CLe.nil _ | exact CLe.emp _ | refine CLe.val ?_ | refine CLe.slc ?_ ?_))
  replace h := Md.cond_f h c4
  refine aw_skip ?_
  refine aw_seq ?_
  refine aw_seq ?_
  refine aw_region ?_
  refine aops_step1 rfl (st_move rfl rfl) ?_
  refine aops_step1 rfl (ev_len_slc rfl rfl) ?_
  refine aops_step1 rfl (ev_field rfl rfl rfl) ?_
  refine aops_step1 rfl (ev_load rfl rfl rfl rfl) ?_
  refine aops_step1 rfl (ev_field rfl rfl rfl) ?_
  refine aops_step1 rfl (ev_load rfl rfl rfl rfl) ?_
  refine aops_step1 rfl (ev_len_own rfl rfl rfl) ?_
  refine aops_step1 rfl (ev_sub rfl rfl rfl (Md.wrap_W _)) ?_
  refine aops_step1 rfl (ev_cmp rfl rfl rfl rfl) ?_
  refine aops_nil ?_
  refine aw_cond rfl (fun c5 => ?_) (fun c5 => ?_)
  · replace h := Md.cond_t h c5
    refine aw_seq ?_
    refine aw_region ?_
    refine aops_step1 rfl (ev_loads (ds := [_, _, _, _, _, _]) rfl rfl rfl rfl rfl) ?_
    refine aops_step1 rfl (st_store (cs' := [_, _, _, _, _, _]) rfl rfl rfl rfl rfl rfl rfl rfl rfl) ?_
    refine aops_step1 rfl (st_assign rfl rfl) ?_
    refine aops_nil ?_
    cases Option.some.inj h
    refine aw_freeze 2 rfl ?_
    refine aw_ret ⟨rfl, ret_v (.inr ⟨by decide, _, rfl, .cons (show resVar _ _ _ (AV.agg [_, _, _, _, _, _]) from ⟨_, _, _, _, _, rfl, rfl, TVar.h, rfl, rfl⟩) (.cons (show get _ _ = AV.one _ from rfl) (.nil)), by intro y hy vs e; subst e; simp at hy⟩) rfl rfl rfl ?_⟩
    (repeat' (first | exact TLe.refl _ | exact VLe.refl _ | exact CLe.refl _ | exact All2.nil | refine TLe.tup ?_ | refine TLe.v ?_ | refine All2.cons ?_ ?_ | refine VLe.agg ?_ | refine VLe.one ?_ | exact CLe.nil _ | exact CLe.emp _ | refine CLe.val ?_ | refine CLe.slc ?_ ?_))
  replace h := Md.cond_f h c5
  refine aw_skip ?_
  refine aw_seq ?_
  rcases Md.bool_or (x3.Armed) with q6 | q6
  · replace h := Md.cond_t h q6
    refine aw_seq ?_
    refine aw_region ?_
    refine aops_step1 rfl (ev_field rfl rfl rfl) ?_
    refine aops_step1 rfl (ev_load rfl rfl rfl rfl) ?_
    refine aops_step1 rfl (st_move rfl rfl) ?_
    refine aops_yes rfl rfl rfl rfl q6 (ev_field rfl rfl rfl) ?_
    refine aops_yes rfl rfl rfl rfl q6 (ev_load rfl rfl rfl rfl) ?_
    refine aops_yes rfl rfl rfl rfl q6 (ev_cmp rfl rfl rfl rfl) ?_
    refine aops_step1 rfl (st_pick_yes rfl (by first | rfl | exact q6) rfl rfl) ?_
    refine aops_nil ?_
    refine aw_cond rfl (fun c7 => ?_) (fun c7 => ?_)
    · replace h := Md.cond_t h c7
      obtain ⟨g8, h⟩ := Md.ifp_s h
      obtain ⟨g9, h⟩ := Md.ifp_s h
      obtain ⟨g10, h⟩ := Md.ifp_s h
      refine aw_seq ?_
      apply aw_draw 9 ((⟨[], .one (.ptr 0 _)⟩ : Add) :: ⟨[], .one (.own 2)⟩ :: ⟨[], .one (CV.ls byC a1)⟩ :: ⟨[], .one (.ptr 0 _)⟩ :: ⟨[], .one (.val (.int .i64 x3.Keep))⟩ :: ⟨[], .one (CV.ls byC a1)⟩ :: ⟨[], .one (.val (.int .i64 ((a1.length : Nat) : Int)))⟩ :: ⟨[], .one (.val (.int .i64 (min x3.Keep ((a1.length : Nat) : Int))))⟩ :: ⟨[], .one (CV.ls byC (a1.take (((min x3.Keep ((a1.length : Nat) : Int))).toNat)))⟩ :: []) (by decide) rfl ?hk1x ?hf1x ?ho1x ?hr1x
      case ho1x =>
       refine ⟨⟨[], (by decide +kernel), fun S hle hfr => ?_⟩, ?_⟩
       · exact .inl ⟨.inl ⟨rfl, rfl⟩, ev_field (hle.ev rfl (by nofun)) rfl (hle.d rfl)⟩
       refine ⟨⟨0 :: [], (by decide +kernel), fun S hle hfr => ?_⟩, ?_⟩
       · exact .inl ⟨.inl ⟨rfl, rfl⟩, ev_load (hle.ev rfl (by nofun)) (hle.heap _ _ rfl) rfl (hle.d rfl)⟩
       refine ⟨⟨[], (by decide +kernel), fun S hle hfr => ?_⟩, ?_⟩
       · exact .inl ⟨.inl ⟨rfl, rfl⟩, st_move (hle.ev rfl (by nofun)) (hle.d rfl)⟩
       refine ⟨⟨[], (by decide +kernel), fun S hle hfr => ?_⟩, ?_⟩
       · exact .inl ⟨.inl ⟨rfl, rfl⟩, ev_field (hle.ev rfl (by nofun)) rfl (hle.d rfl)⟩
       refine ⟨⟨3 :: [], (by decide +kernel), fun S hle hfr => ?_⟩, ?_⟩
       · exact .inl ⟨.inl ⟨rfl, rfl⟩, ev_load (hle.ev rfl (by nofun)) (hle.heap _ _ rfl) rfl (hle.d rfl)⟩
       refine ⟨⟨[], (by decide +kernel), fun S hle hfr => ?_⟩, ?_⟩
       · exact .inl ⟨.inl ⟨rfl, rfl⟩, st_move (hle.ev rfl (by nofun)) (hle.d rfl)⟩
       refine ⟨⟨5 :: [], (by decide +kernel), fun S hle hfr => ?_⟩, ?_⟩
       · exact .inl ⟨.inl ⟨rfl, rfl⟩, ev_len_slc (hle.ev rfl (by nofun)) (hle.d rfl)⟩
       refine ⟨⟨4 :: 6 :: 3 :: 5 :: [], (by decide +kernel), fun S hle hfr => ?_⟩, ?_⟩
       · exact .inl ⟨.inl ⟨rfl, rfl⟩, ev_min (hle.ev rfl (by nofun)) (hle.ev rfl (by nofun)) (hle.d rfl) (Md.int_min _ _)⟩
       refine ⟨⟨2 :: 7 :: 4 :: 6 :: 3 :: 5 :: [], (by decide +kernel), fun S hle hfr => ?_⟩, ?_⟩
       · exact .inl ⟨.inl ⟨rfl, rfl⟩, st_cut_hi (f := byC) (fun _ => rfl) (hle.ev rfl (by nofun)) ⟨_, _, (hle.ev rfl (by nofun)), (Md.nn_eq g8)⟩ g9 (hle.d rfl)⟩
       exact trivial
      case hk1x => rfl
      case hf1x => rfl
      refine aops_step1 rfl (st_app_ls (f := byC) x3.Data (a1.take (((min x3.Keep ((a1.length : Nat) : Int))).toNat)) (fun _ => rfl) rfl rfl (.inl rfl) (by omega) (by omega) rfl) ?_
      refine aops_step1 rfl (ev_field rfl rfl rfl) ?_
      refine aops_step1 rfl (st_store (cs' := [_, _, _, _, _, _]) rfl rfl rfl rfl rfl rfl rfl rfl rfl) ?_
      refine aops_nil ?_
      refine aw_seq ?_
      refine aw_region ?_
      refine aops_step1 rfl (ev_field rfl rfl rfl) ?_
      refine aops_step1 rfl (ev_load rfl rfl rfl rfl) ?_
      refine aops_step1 rfl (ev_field rfl rfl rfl) ?_
      refine aops_step1 rfl (ev_load rfl rfl rfl rfl) ?_
      refine aops_step1 rfl (ev_build' (out := [_, _, _, _, _, _]) rfl rfl rfl rfl rfl) ?_
      refine aops_step1 rfl (st_store (cs' := [_, _, _, _, _, _]) rfl rfl rfl rfl rfl rfl rfl rfl rfl) ?_
      refine aops_step1 rfl (st_assign rfl rfl) ?_
      refine aops_nil ?_
      cases Option.some.inj h
      refine aw_freeze 2 rfl ?_
      refine aw_ret ⟨rfl, ret_v (.inr ⟨by decide, _, rfl, .cons (show resVar _ _ _ (AV.agg [_, _, _, _, _, _]) from ⟨_, _, _, _, _, rfl, rfl, TVar.h, rfl, rfl⟩) (.cons (show get _ _ = AV.one _ from rfl) (.nil)), by intro y hy vs e; subst e; simp at hy⟩) rfl rfl rfl ?_⟩
      (repeat' (first | exact TLe.refl _ | exact VLe.refl _ | exact CLe.refl _ | exact All2.nil | refine TLe.tup ?_ | refine TLe.v ?_ | refine All2.cons ?_ ?_ | refine VLe.agg ?_ | refine VLe.one ?_ | exact CLe.nil _ | exact CLe.emp _ | refine CLe.val ?_ | refine CLe.slc ?_ ?_))
    replace h := Md.cond_f h c7
    refine aw_skip ?_
    obtain ⟨g11, h⟩ := Md.ifp_s h
    refine aw_seq ?_
    refine aw_region ?_
    refine aops_step1 rfl (ev_field rfl rfl rfl) ?_
    refine aops_step1 rfl (ev_load rfl rfl rfl rfl) ?_
    refine aops_step1 rfl (st_move rfl rfl) ?_
    refine aops_step1 rfl (st_app_ls (f := byC) x3.Data a1 (fun _ => rfl) rfl rfl (.inl rfl) (by omega) (by omega) rfl) ?_
    refine aops_step1 rfl (ev_field rfl rfl rfl) ?_
    refine aops_step1 rfl (st_store (cs' := [_, _, _, _, _, _]) rfl rfl rfl rfl rfl rfl rfl rfl rfl) ?_
    refine aops_nil ?_
    refine aw_seq ?_
    refine aw_seq ?_
    refine aw_region ?_
    refine aops_step1 rfl (ev_field rfl rfl rfl) ?_
    refine aops_step1 rfl (ev_load rfl rfl rfl rfl) ?_
    refine aops_nil ?_
    refine aw_yes rfl (q6) ?_
    refine aw_region ?_
    refine aops_step1 rfl (ev_field rfl rfl rfl) ?_
    refine aops_step1 rfl (ev_load rfl rfl rfl rfl) ?_
    refine aops_step1 rfl (ev_sub rfl rfl rfl (Md.wrap_W _)) ?_
    refine aops_step1 rfl (ev_field rfl rfl rfl) ?_
    refine aops_step1 rfl (st_store (cs' := [_, _, _, _, _, _]) rfl rfl rfl rfl rfl rfl rfl rfl rfl) ?_
    refine aops_nil ?_
    refine aw_seq ?_
    refine aw_region ?_
    refine aops_step1 rfl (ev_loads (ds := [_, _, _, _, _, _]) rfl rfl rfl rfl rfl) ?_
    refine aops_step1 rfl (st_store (cs' := [_, _, _, _, _, _]) rfl rfl rfl rfl rfl rfl rfl rfl rfl) ?_
    refine aops_step1 rfl (st_assign rfl rfl) ?_
    refine aops_nil ?_
    cases Option.some.inj h
    refine aw_freeze 2 rfl ?_
    refine aw_ret ⟨rfl, ret_v (.inr ⟨by decide, _, rfl, .cons (show resVar _ _ _ (AV.agg [_, _, _, _, _, _]) from ⟨_, _, _, _, _, rfl, rfl, TVar.h, rfl, rfl⟩) (.cons (show get _ _ = AV.one _ from rfl) (.nil)), by intro y hy vs e; subst e; simp at hy⟩) rfl rfl rfl ?_⟩
    (repeat' (first | exact TLe.refl _ | exact VLe.refl _ | exact CLe.refl _ | exact All2.nil | refine TLe.tup ?_ | refine TLe.v ?_ | refine All2.cons ?_ ?_ | refine VLe.agg ?_ | refine VLe.one ?_ | exact CLe.nil _ | exact CLe.emp _ | refine CLe.val ?_ | refine CLe.slc ?_ ?_))
  replace h := Md.cond_f h q6
  refine aw_seq ?_
  refine aw_region ?_
  refine aops_step1 rfl (ev_field rfl rfl rfl) ?_
  refine aops_step1 rfl (ev_load rfl rfl rfl rfl) ?_
  refine aops_step1 rfl (st_move rfl rfl) ?_
  refine aops_no rfl rfl rfl rfl rfl (by first | decide | (rw [q6]; decide)) ?_
  refine aops_no rfl rfl rfl rfl rfl (by first | decide | (rw [q6]; decide)) ?_
  refine aops_no rfl rfl rfl rfl rfl (by first | decide | (rw [q6]; decide)) ?_
  refine aops_step1 rfl (st_pick_no rfl (by first | rfl | exact q6) rfl rfl) ?_
  refine aops_nil ?_
  refine aw_no rfl (rfl) ?_
  refine aw_skip ?_
  obtain ⟨g12, h⟩ := Md.ifp_s h
  refine aw_seq ?_
  refine aw_region ?_
  refine aops_step1 rfl (ev_field rfl rfl rfl) ?_
  refine aops_step1 rfl (ev_load rfl rfl rfl rfl) ?_
  refine aops_step1 rfl (st_move rfl rfl) ?_
  refine aops_step1 rfl (st_app_ls (f := byC) x3.Data a1 (fun _ => rfl) rfl rfl (.inl rfl) (by omega) (by omega) rfl) ?_
  refine aops_step1 rfl (ev_field rfl rfl rfl) ?_
  refine aops_step1 rfl (st_store (cs' := [_, _, _, _, _, _]) rfl rfl rfl rfl rfl rfl rfl rfl rfl) ?_
  refine aops_nil ?_
  refine aw_seq ?_
  refine aw_seq ?_
  refine aw_region ?_
  refine aops_step1 rfl (ev_field rfl rfl rfl) ?_
  refine aops_step1 rfl (ev_load rfl rfl rfl rfl) ?_
  refine aops_nil ?_
  refine aw_no rfl (q6) ?_
  refine aw_skip ?_
  refine aw_seq ?_
  refine aw_region ?_
  refine aops_step1 rfl (ev_loads (ds := [_, _, _, _, _, _]) rfl rfl rfl rfl rfl) ?_
  refine aops_step1 rfl (st_store (cs' := [_, _, _, _, _, _]) rfl rfl rfl rfl rfl rfl rfl rfl rfl) ?_
  refine aops_step1 rfl (st_assign rfl rfl) ?_
  refine aops_nil ?_
  cases Option.some.inj h
  refine aw_freeze 2 rfl ?_
  refine aw_ret ⟨rfl, ret_v (.inr ⟨by decide, _, rfl, .cons (show resVar _ _ _ (AV.agg [_, _, _, _, _, _]) from ⟨_, _, _, _, _, rfl, rfl, TVar.h, rfl, rfl⟩) (.cons (show get _ _ = AV.one _ from rfl) (.nil)), by intro y hy vs e; subst e; simp at hy⟩) rfl rfl rfl ?_⟩
  (repeat' (first | exact TLe.refl _ | exact VLe.refl _ | exact CLe.refl _ | exact All2.nil | refine TLe.tup ?_ | refine TLe.v ?_ | refine All2.cons ?_ ?_ | refine VLe.agg ?_ | refine VLe.one ?_ | exact CLe.nil _ | exact CLe.emp _ | refine CLe.val ?_ | refine CLe.slc ?_ ?_))
set_option maxHeartbeats 2000000 in
theorem actorgridref26_Truncate_fn (k : Nat) (a0 : Disk) (a1 : Int) (r : Disk × Int) (h : actorgridref26_Truncate k a0 a1 = some r) : FnC Try.prog 26 [.agg [CV.ls byC a0.Data, .val (.int .i64 a0.Capacity), .val (.bool a0.Armed), .val (.int .i64 a0.Writes), .val (.int .i64 a0.Keep), .val (.bool a0.Down)], .one (.val (.int .i64 a1))] [] (Det (.tup [.agg [CV.ls byC r.1.Data, .val (.int .i64 r.1.Capacity), .val (.bool r.1.Armed), .val (.int .i64 r.1.Writes), .val (.int .i64 r.1.Keep), .val (.bool r.1.Down)], .one (.val (.int .i64 r.2))]) []) := by
  unfold actorgridref26_Truncate at h
  refine fn_intro' 57 Try.func26 rfl rfl rfl ?_
  refine aw_seq ?_
  refine aw_region ?_
  refine aops_step1 rfl (st_box 0 rfl rfl rfl rfl) ?_
  refine aops_step1 rfl (st_alloc (cs := [.val (.slice none 0 0), .val (.int .i64 0), .val (.bool false), .val (.int .i64 0), .val (.int .i64 0), .val (.bool false)]) 1 rfl rfl rfl rfl rfl) ?_
  refine aops_step1 rfl (st_assign rfl rfl) ?_
  refine aops_nil ?_
  refine aw_seq ?_
  obtain ⟨x1, hx1, h⟩ := Md.bind_s h
  refine aw_seq ?_
  refine aw_region ?_
  refine aops_step1 rfl (ev_loads (ds := [_, _, _, _, _, _]) rfl rfl rfl rfl rfl) ?_
  refine aops_step1 rfl (ev_call_v (actorgridref26_ValidDisk_fn k a0 x1 hx1) rfl [] (by repeat' (first | exact All2.nil | refine All2.cons ?_ ?_ | refine ArgV.one ?_ | refine ArgV.agg ?_ | exact ArgC.mk rfl | exact ArgC.lend rfl (by simp) | exact ArgC.le (CLe.nil _) rfl | exact ArgC.le (CLe.emp _) rfl | exact ArgC.le (CLe.any _) rfl)) rfl rfl rfl (.inl rfl) rfl) ?_
  refine aops_step1 rfl (ev_not rfl rfl) ?_
  refine aops_nil ?_
  refine aw_cond rfl (fun c2 => ?_) (fun c2 => ?_)
  · replace h := Md.cond_t h c2
    refine aw_seq ?_
    refine aw_region ?_
    refine aops_step1 rfl (ev_build' (out := [_, _, _, _, _, _]) rfl rfl rfl rfl rfl) ?_
    refine aops_step1 rfl (st_store (cs' := [_, _, _, _, _, _]) rfl rfl rfl rfl rfl rfl rfl rfl rfl) ?_
    refine aops_step1 rfl (st_assign rfl rfl) ?_
    refine aops_nil ?_
    cases Option.some.inj h
    refine aw_ret ⟨rfl, ret_v (.inr ⟨by decide, _, rfl, .cons (show resVar _ _ _ (AV.agg [_, _, _, _, _, _]) from ⟨_, _, _, _, _, rfl, rfl, TVar.h, rfl, rfl⟩) (.cons (show get _ _ = AV.one _ from rfl) (.nil)), by intro y hy vs e; subst e; simp at hy⟩) rfl rfl rfl ?_⟩
    (repeat' (first | exact TLe.refl _ | exact VLe.refl _ | exact CLe.refl _ | exact All2.nil | refine TLe.tup ?_ | refine TLe.v ?_ | refine All2.cons ?_ ?_ | refine VLe.agg ?_ | refine VLe.one ?_ | exact CLe.nil _ | exact CLe.emp _ | refine CLe.val ?_ | refine CLe.slc ?_ ?_))
  replace h := Md.cond_f h c2
  refine aw_skip ?_
  obtain ⟨x3, hx3, h⟩ := Md.bind_s h
  refine aw_seq ?_
  refine aw_region ?_
  refine aops_step1 rfl (ev_loads (ds := [_, _, _, _, _, _]) rfl rfl rfl rfl rfl) ?_
  refine aops_step1 rfl (st_call_r 2 rfl (actorgridref26_copyDisk_fn k a0 x3 hx3) rfl [] (by repeat' (first | exact All2.nil | refine All2.cons ?_ ?_ | refine ArgV.one ?_ | refine ArgV.agg ?_ | exact ArgC.mk rfl | exact ArgC.lend rfl (by simp) | exact ArgC.le (CLe.nil _) rfl | exact ArgC.le (CLe.emp _) rfl | exact ArgC.le (CLe.any _) rfl)) rfl rfl rfl (.inl rfl) rfl rfl) ?_
  refine aops_step1 rfl (st_store (cs' := [_, _, _, _, _, _]) rfl rfl rfl rfl rfl rfl rfl rfl rfl) ?_
  refine aops_nil ?_
  refine aw_seq ?_
  refine aw_seq ?_
  refine aw_region ?_
  refine aops_step1 rfl (ev_field rfl rfl rfl) ?_
  refine aops_step1 rfl (ev_load rfl rfl rfl rfl) ?_
  refine aops_nil ?_
  refine aw_cond rfl (fun c4 => ?_) (fun c4 => ?_)
  · replace h := Md.cond_t h c4
    refine aw_seq ?_
    refine aw_region ?_
    refine aops_step1 rfl (ev_loads (ds := [_, _, _, _, _, _]) rfl rfl rfl rfl rfl) ?_
    refine aops_step1 rfl (st_store (cs' := [_, _, _, _, _, _]) rfl rfl rfl rfl rfl rfl rfl rfl rfl) ?_
    refine aops_step1 rfl (st_assign rfl rfl) ?_
    refine aops_nil ?_
    cases Option.some.inj h
    refine aw_freeze 2 rfl ?_
    refine aw_ret ⟨rfl, ret_v (.inr ⟨by decide, _, rfl, .cons (show resVar _ _ _ (AV.agg [_, _, _, _, _, _]) from ⟨_, _, _, _, _, rfl, rfl, TVar.h, rfl, rfl⟩) (.cons (show get _ _ = AV.one _ from rfl) (.nil)), by intro y hy vs e; subst e; simp at hy⟩) rfl rfl rfl ?_⟩
    (repeat' (first | exact TLe.refl _ | exact VLe.refl _ | exact CLe.refl _ | exact All2.nil | refine TLe.tup ?_ | refine TLe.v ?_ | refine All2.cons ?_ ?_ | refine VLe.agg ?_ | refine VLe.one ?_ | exact CLe.nil _ | exact CLe.emp _ | refine CLe.val ?_ | refine CLe.slc ?_ ?_))
  replace h := Md.cond_f h c4
  refine aw_skip ?_
  refine aw_seq ?_
  rcases Md.bool_or ((decide (a1 < 0))) with q5 | q5
  · replace h := Md.cond_t h q5
    refine aw_seq ?_
    refine aw_region ?_
    refine aops_step1 rfl (st_move rfl rfl) ?_
    refine aops_step1 rfl (ev_cmp rfl rfl rfl rfl) ?_
    refine aops_step1 rfl (st_move rfl rfl) ?_
    refine aops_no rfl rfl rfl rfl rfl (by first | decide | (rw [q5]; decide)) ?_
    refine aops_no rfl rfl rfl rfl rfl (by first | decide | (rw [q5]; decide)) ?_
    refine aops_no rfl rfl rfl rfl rfl (by first | decide | (rw [q5]; decide)) ?_
    refine aops_no rfl rfl rfl rfl rfl (by first | decide | (rw [q5]; decide)) ?_
    refine aops_no rfl rfl rfl rfl rfl (by first | decide | (rw [q5]; decide)) ?_
    refine aops_step1 rfl (st_pick_yes rfl (by first | rfl | exact q5) rfl rfl) ?_
    refine aops_nil ?_
    refine aw_yes rfl (rfl) ?_
    refine aw_seq ?_
    refine aw_region ?_
    refine aops_step1 rfl (ev_loads (ds := [_, _, _, _, _, _]) rfl rfl rfl rfl rfl) ?_
    refine aops_step1 rfl (st_store (cs' := [_, _, _, _, _, _]) rfl rfl rfl rfl rfl rfl rfl rfl rfl) ?_
    refine aops_step1 rfl (st_assign rfl rfl) ?_
    refine aops_nil ?_
    cases Option.some.inj h
    refine aw_freeze 2 rfl ?_
    refine aw_ret ⟨rfl, ret_v (.inr ⟨by decide, _, rfl, .cons (show resVar _ _ _ (AV.agg [_, _, _, _, _, _]) from ⟨_, _, _, _, _, rfl, rfl, TVar.h, rfl, rfl⟩) (.cons (show get _ _ = AV.one _ from rfl) (.nil)), by intro y hy vs e; subst e; simp at hy⟩) rfl rfl rfl ?_⟩
    (repeat' (first | exact TLe.refl _ | exact VLe.refl _ | exact CLe.refl _ | exact All2.nil | refine TLe.tup ?_ | refine TLe.v ?_ | refine All2.cons ?_ ?_ | refine VLe.agg ?_ | refine VLe.one ?_ | exact CLe.nil _ | exact CLe.emp _ | refine CLe.val ?_ | refine CLe.slc ?_ ?_))
  replace h := Md.cond_f h q5
  refine aw_seq ?_
  refine aw_region ?_
  refine aops_step1 rfl (st_move rfl rfl) ?_
  refine aops_step1 rfl (ev_cmp rfl rfl rfl rfl) ?_
  refine aops_step1 rfl (st_move rfl rfl) ?_
  refine aops_yes rfl rfl rfl rfl q5 (st_move rfl rfl) ?_
  refine aops_yes rfl rfl rfl rfl q5 (ev_field rfl rfl rfl) ?_
  refine aops_yes rfl rfl rfl rfl q5 (ev_load rfl rfl rfl rfl) ?_
  refine aops_yes rfl rfl rfl rfl q5 (ev_len_own rfl rfl rfl) ?_
  refine aops_yes rfl rfl rfl rfl q5 (ev_cmp rfl rfl rfl rfl) ?_
  refine aops_step1 rfl (st_pick_no rfl (by first | rfl | exact q5) rfl rfl) ?_
  refine aops_nil ?_
  refine aw_cond rfl (fun c6 => ?_) (fun c6 => ?_)
  · replace h := Md.cond_t h c6
    refine aw_seq ?_
    refine aw_region ?_
    refine aops_step1 rfl (ev_loads (ds := [_, _, _, _, _, _]) rfl rfl rfl rfl rfl) ?_
    refine aops_step1 rfl (st_store (cs' := [_, _, _, _, _, _]) rfl rfl rfl rfl rfl rfl rfl rfl rfl) ?_
    refine aops_step1 rfl (st_assign rfl rfl) ?_
    refine aops_nil ?_
    cases Option.some.inj h
    refine aw_freeze 2 rfl ?_
    refine aw_ret ⟨rfl, ret_v (.inr ⟨by decide, _, rfl, .cons (show resVar _ _ _ (AV.agg [_, _, _, _, _, _]) from ⟨_, _, _, _, _, rfl, rfl, TVar.h, rfl, rfl⟩) (.cons (show get _ _ = AV.one _ from rfl) (.nil)), by intro y hy vs e; subst e; simp at hy⟩) rfl rfl rfl ?_⟩
    (repeat' (first | exact TLe.refl _ | exact VLe.refl _ | exact CLe.refl _ | exact All2.nil | refine TLe.tup ?_ | refine TLe.v ?_ | refine All2.cons ?_ ?_ | refine VLe.agg ?_ | refine VLe.one ?_ | exact CLe.nil _ | exact CLe.emp _ | refine CLe.val ?_ | refine CLe.slc ?_ ?_))
  replace h := Md.cond_f h c6
  refine aw_skip ?_
  refine aw_seq ?_
  rcases Md.bool_or (x3.Armed) with q7 | q7
  · replace h := Md.cond_t h q7
    refine aw_seq ?_
    refine aw_region ?_
    refine aops_step1 rfl (ev_field rfl rfl rfl) ?_
    refine aops_step1 rfl (ev_load rfl rfl rfl rfl) ?_
    refine aops_step1 rfl (st_move rfl rfl) ?_
    refine aops_yes rfl rfl rfl rfl q7 (ev_field rfl rfl rfl) ?_
    refine aops_yes rfl rfl rfl rfl q7 (ev_load rfl rfl rfl rfl) ?_
    refine aops_yes rfl rfl rfl rfl q7 (ev_cmp rfl rfl rfl rfl) ?_
    refine aops_step1 rfl (st_pick_yes rfl (by first | rfl | exact q7) rfl rfl) ?_
    refine aops_nil ?_
    refine aw_cond rfl (fun c8 => ?_) (fun c8 => ?_)
    · replace h := Md.cond_t h c8
      refine aw_seq ?_
      refine aw_seq ?_
      refine aw_region ?_
      refine aops_step1 rfl (ev_field rfl rfl rfl) ?_
      refine aops_step1 rfl (ev_load rfl rfl rfl rfl) ?_
      refine aops_step1 rfl (ev_cmp rfl rfl rfl rfl) ?_
      refine aops_nil ?_
      refine aw_cond rfl (fun c9 => ?_) (fun c9 => ?_)
      · replace h := Md.cond_t h c9
        obtain ⟨g10, h⟩ := Md.ifp_s h
        obtain ⟨g11, h⟩ := Md.ifp_s h
        refine aw_region ?_
        refine aops_step1 rfl (ev_field rfl rfl rfl) ?_
        refine aops_step1 rfl (ev_load rfl rfl rfl rfl) ?_
        refine aops_step1 rfl (st_move rfl rfl) ?_
        refine aops_freeze 2 rfl ?_
        refine aops_step1 rfl (st_cut_hi (f := byC) (fun _ => rfl) rfl ⟨_, _, rfl, (Md.nn_eq g10)⟩ g11 rfl) ?_
        refine aops_step1 rfl (ev_field rfl rfl rfl) ?_
        refine aops_step1 rfl (st_store (cs' := [_, _, _, _, _, _]) rfl rfl rfl rfl rfl rfl rfl rfl rfl) ?_
        refine aops_nil ?_
        refine aw_seq ?_
        refine aw_region ?_
        refine aops_step1 rfl (ev_field rfl rfl rfl) ?_
        refine aops_step1 rfl (ev_load rfl rfl rfl rfl) ?_
        refine aops_step1 rfl (ev_field rfl rfl rfl) ?_
        refine aops_step1 rfl (ev_load rfl rfl rfl rfl) ?_
        refine aops_step1 rfl (ev_build' (out := [_, _, _, _, _, _]) rfl rfl rfl rfl rfl) ?_
        refine aops_step1 rfl (st_store (cs' := [_, _, _, _, _, _]) rfl rfl rfl rfl rfl rfl rfl rfl rfl) ?_
        refine aops_step1 rfl (st_assign rfl rfl) ?_
        refine aops_nil ?_
        cases Option.some.inj h
        refine aw_ret ⟨rfl, ret_v (.inr ⟨by decide, _, rfl, .cons (show resVar _ _ _ (AV.agg [_, _, _, _, _, _]) from ⟨_, _, _, _, _, rfl, rfl, TVar.h, rfl, rfl⟩) (.cons (show get _ _ = AV.one _ from rfl) (.nil)), by intro y hy vs e; subst e; simp at hy⟩) rfl rfl rfl ?_⟩
        (repeat' (first | exact TLe.refl _ | exact VLe.refl _ | exact CLe.refl _ | exact All2.nil | refine TLe.tup ?_ | refine TLe.v ?_ | refine All2.cons ?_ ?_ | refine VLe.agg ?_ | refine VLe.one ?_ | exact CLe.nil _ | exact CLe.emp _ | refine CLe.val ?_ | refine CLe.slc ?_ ?_))
      replace h := Md.cond_f h c9
      refine aw_skip ?_
      refine aw_seq ?_
      refine aw_region ?_
      refine aops_step1 rfl (ev_field rfl rfl rfl) ?_
      refine aops_step1 rfl (ev_load rfl rfl rfl rfl) ?_
      refine aops_step1 rfl (ev_field rfl rfl rfl) ?_
      refine aops_step1 rfl (ev_load rfl rfl rfl rfl) ?_
      refine aops_step1 rfl (ev_build' (out := [_, _, _, _, _, _]) rfl rfl rfl rfl rfl) ?_
      refine aops_step1 rfl (st_store (cs' := [_, _, _, _, _, _]) rfl rfl rfl rfl rfl rfl rfl rfl rfl) ?_
      refine aops_step1 rfl (st_assign rfl rfl) ?_
      refine aops_nil ?_
      cases Option.some.inj h
      refine aw_freeze 2 rfl ?_
      refine aw_ret ⟨rfl, ret_v (.inr ⟨by decide, _, rfl, .cons (show resVar _ _ _ (AV.agg [_, _, _, _, _, _]) from ⟨_, _, _, _, _, rfl, rfl, TVar.h, rfl, rfl⟩) (.cons (show get _ _ = AV.one _ from rfl) (.nil)), by intro y hy vs e; subst e; simp at hy⟩) rfl rfl rfl ?_⟩
      (repeat' (first | exact TLe.refl _ | exact VLe.refl _ | exact CLe.refl _ | exact All2.nil | refine TLe.tup ?_ | refine TLe.v ?_ | refine All2.cons ?_ ?_ | refine VLe.agg ?_ | refine VLe.one ?_ | exact CLe.nil _ | exact CLe.emp _ | refine CLe.val ?_ | refine CLe.slc ?_ ?_))
    replace h := Md.cond_f h c8
    refine aw_skip ?_
    obtain ⟨g12, h⟩ := Md.ifp_s h
    obtain ⟨g13, h⟩ := Md.ifp_s h
    refine aw_seq ?_
    refine aw_region ?_
    refine aops_step1 rfl (ev_field rfl rfl rfl) ?_
    refine aops_step1 rfl (ev_load rfl rfl rfl rfl) ?_
    refine aops_step1 rfl (st_move rfl rfl) ?_
    refine aops_freeze 2 rfl ?_
    refine aops_step1 rfl (st_cut_hi (f := byC) (fun _ => rfl) rfl ⟨_, _, rfl, (Md.nn_eq g12)⟩ g13 rfl) ?_
    refine aops_step1 rfl (ev_field rfl rfl rfl) ?_
    refine aops_step1 rfl (st_store (cs' := [_, _, _, _, _, _]) rfl rfl rfl rfl rfl rfl rfl rfl rfl) ?_
    refine aops_nil ?_
    refine aw_seq ?_
    refine aw_seq ?_
    refine aw_region ?_
    refine aops_step1 rfl (ev_field rfl rfl rfl) ?_
    refine aops_step1 rfl (ev_load rfl rfl rfl rfl) ?_
    refine aops_nil ?_
    refine aw_yes rfl (q7) ?_
    refine aw_region ?_
    refine aops_step1 rfl (ev_field rfl rfl rfl) ?_
    refine aops_step1 rfl (ev_load rfl rfl rfl rfl) ?_
    refine aops_step1 rfl (ev_sub rfl rfl rfl (Md.wrap_W _)) ?_
    refine aops_step1 rfl (ev_field rfl rfl rfl) ?_
    refine aops_step1 rfl (st_store (cs' := [_, _, _, _, _, _]) rfl rfl rfl rfl rfl rfl rfl rfl rfl) ?_
    refine aops_nil ?_
    refine aw_seq ?_
    refine aw_region ?_
    refine aops_step1 rfl (ev_loads (ds := [_, _, _, _, _, _]) rfl rfl rfl rfl rfl) ?_
    refine aops_step1 rfl (st_store (cs' := [_, _, _, _, _, _]) rfl rfl rfl rfl rfl rfl rfl rfl rfl) ?_
    refine aops_step1 rfl (st_assign rfl rfl) ?_
    refine aops_nil ?_
    cases Option.some.inj h
    refine aw_ret ⟨rfl, ret_v (.inr ⟨by decide, _, rfl, .cons (show resVar _ _ _ (AV.agg [_, _, _, _, _, _]) from ⟨_, _, _, _, _, rfl, rfl, TVar.h, rfl, rfl⟩) (.cons (show get _ _ = AV.one _ from rfl) (.nil)), by intro y hy vs e; subst e; simp at hy⟩) rfl rfl rfl ?_⟩
    (repeat' (first | exact TLe.refl _ | exact VLe.refl _ | exact CLe.refl _ | exact All2.nil | refine TLe.tup ?_ | refine TLe.v ?_ | refine All2.cons ?_ ?_ | refine VLe.agg ?_ | refine VLe.one ?_ | exact CLe.nil _ | exact CLe.emp _ | refine CLe.val ?_ | refine CLe.slc ?_ ?_))
  replace h := Md.cond_f h q7
  refine aw_seq ?_
  refine aw_region ?_
  refine aops_step1 rfl (ev_field rfl rfl rfl) ?_
  refine aops_step1 rfl (ev_load rfl rfl rfl rfl) ?_
  refine aops_step1 rfl (st_move rfl rfl) ?_
  refine aops_no rfl rfl rfl rfl rfl (by first | decide | (rw [q7]; decide)) ?_
  refine aops_no rfl rfl rfl rfl rfl (by first | decide | (rw [q7]; decide)) ?_
  refine aops_no rfl rfl rfl rfl rfl (by first | decide | (rw [q7]; decide)) ?_
  refine aops_step1 rfl (st_pick_no rfl (by first | rfl | exact q7) rfl rfl) ?_
  refine aops_nil ?_
  refine aw_no rfl (rfl) ?_
  refine aw_skip ?_
  obtain ⟨g14, h⟩ := Md.ifp_s h
  obtain ⟨g15, h⟩ := Md.ifp_s h
  refine aw_seq ?_
  refine aw_region ?_
  refine aops_step1 rfl (ev_field rfl rfl rfl) ?_
  refine aops_step1 rfl (ev_load rfl rfl rfl rfl) ?_
  refine aops_step1 rfl (st_move rfl rfl) ?_
  refine aops_freeze 2 rfl ?_
  refine aops_step1 rfl (st_cut_hi (f := byC) (fun _ => rfl) rfl ⟨_, _, rfl, (Md.nn_eq g14)⟩ g15 rfl) ?_
  refine aops_step1 rfl (ev_field rfl rfl rfl) ?_
  refine aops_step1 rfl (st_store (cs' := [_, _, _, _, _, _]) rfl rfl rfl rfl rfl rfl rfl rfl rfl) ?_
  refine aops_nil ?_
  refine aw_seq ?_
  refine aw_seq ?_
  refine aw_region ?_
  refine aops_step1 rfl (ev_field rfl rfl rfl) ?_
  refine aops_step1 rfl (ev_load rfl rfl rfl rfl) ?_
  refine aops_nil ?_
  refine aw_no rfl (q7) ?_
  refine aw_skip ?_
  refine aw_seq ?_
  refine aw_region ?_
  refine aops_step1 rfl (ev_loads (ds := [_, _, _, _, _, _]) rfl rfl rfl rfl rfl) ?_
  refine aops_step1 rfl (st_store (cs' := [_, _, _, _, _, _]) rfl rfl rfl rfl rfl rfl rfl rfl rfl) ?_
  refine aops_step1 rfl (st_assign rfl rfl) ?_
  refine aops_nil ?_
  cases Option.some.inj h
  refine aw_ret ⟨rfl, ret_v (.inr ⟨by decide, _, rfl, .cons (show resVar _ _ _ (AV.agg [_, _, _, _, _, _]) from ⟨_, _, _, _, _, rfl, rfl, TVar.h, rfl, rfl⟩) (.cons (show get _ _ = AV.one _ from rfl) (.nil)), by intro y hy vs e; subst e; simp at hy⟩) rfl rfl rfl ?_⟩
  (repeat' (first | exact TLe.refl _ | exact VLe.refl _ | exact CLe.refl _ | exact All2.nil | refine TLe.tup ?_ | refine TLe.v ?_ | refine All2.cons ?_ ?_ | refine VLe.agg ?_ | refine VLe.one ?_ | exact CLe.nil _ | exact CLe.emp _ | refine CLe.val ?_ | refine CLe.slc ?_ ?_))
set_option maxHeartbeats 2000000 in
theorem actorgridref26_Read_fn (k : Nat) (a0 : Disk) (r : (List UInt8) × Int) (h : actorgridref26_Read k a0 = some r) : FnC Try.prog 29 [.agg [CV.ls byC a0.Data, .val (.int .i64 a0.Capacity), .val (.bool a0.Armed), .val (.int .i64 a0.Writes), .val (.int .i64 a0.Keep), .val (.bool a0.Down)]] [] (Det (.tup [.one (CV.ls byC r.1), .one (.val (.int .i64 r.2))]) []) := by
  unfold actorgridref26_Read at h
  refine fn_intro' 13 Try.func29 rfl rfl rfl ?_
  refine aw_seq ?_
  refine aw_region ?_
  refine aops_step1 rfl (st_box 0 rfl rfl rfl rfl) ?_
  refine aops_step1 rfl (st_assign rfl rfl) ?_
  refine aops_step1 rfl (st_assign rfl rfl) ?_
  refine aops_nil ?_
  refine aw_seq ?_
  obtain ⟨x1, hx1, h⟩ := Md.bind_s h
  refine aw_seq ?_
  refine aw_region ?_
  refine aops_step1 rfl (ev_loads (ds := [_, _, _, _, _, _]) rfl rfl rfl rfl rfl) ?_
  refine aops_step1 rfl (ev_call_v (actorgridref26_ValidDisk_fn k a0 x1 hx1) rfl [] (by repeat' (first | exact All2.nil | refine All2.cons ?_ ?_ | refine ArgV.one ?_ | refine ArgV.agg ?_ | exact ArgC.mk rfl | exact ArgC.lend rfl (by simp) | exact ArgC.le (CLe.nil _) rfl | exact ArgC.le (CLe.emp _) rfl | exact ArgC.le (CLe.any _) rfl)) rfl rfl rfl (.inl rfl) rfl) ?_
  refine aops_step1 rfl (ev_not rfl rfl) ?_
  refine aops_nil ?_
  refine aw_cond rfl (fun c2 => ?_) (fun c2 => ?_)
  · replace h := Md.cond_t h c2
    refine aw_seq ?_
    refine aw_region ?_
    refine aops_step1 rfl (st_assign rfl rfl) ?_
    refine aops_step1 rfl (st_assign rfl rfl) ?_
    refine aops_nil ?_
    cases Option.some.inj h
    refine aw_ret ⟨rfl, ret_v (.inr ⟨by decide, _, rfl, .cons (show get _ _ = AV.one _ from rfl) (.cons (show get _ _ = AV.one _ from rfl) (.nil)), by intro y hy vs e; subst e; simp at hy⟩) rfl rfl rfl ?_⟩
    (repeat' (first | exact TLe.refl _ | exact VLe.refl _ | exact CLe.refl _ | exact All2.nil | refine TLe.tup ?_ | refine TLe.v ?_ | refine All2.cons ?_ ?_ | refine VLe.agg ?_ | refine VLe.one ?_ | exact CLe.nil _ | exact CLe.emp _ | refine CLe.val ?_ | refine CLe.slc ?_ ?_))
  replace h := Md.cond_f h c2
  refine aw_skip ?_
  refine aw_seq ?_
  refine aw_seq ?_
  refine aw_region ?_
  refine aops_step1 rfl (ev_field rfl rfl rfl) ?_
  refine aops_step1 rfl (ev_load rfl rfl rfl rfl) ?_
  refine aops_nil ?_
  refine aw_cond rfl (fun c3 => ?_) (fun c3 => ?_)
  · replace h := Md.cond_t h c3
    refine aw_seq ?_
    refine aw_region ?_
    refine aops_step1 rfl (st_assign rfl rfl) ?_
    refine aops_step1 rfl (st_assign rfl rfl) ?_
    refine aops_nil ?_
    cases Option.some.inj h
    refine aw_ret ⟨rfl, ret_v (.inr ⟨by decide, _, rfl, .cons (show get _ _ = AV.one _ from rfl) (.cons (show get _ _ = AV.one _ from rfl) (.nil)), by intro y hy vs e; subst e; simp at hy⟩) rfl rfl rfl ?_⟩
    (repeat' (first | exact TLe.refl _ | exact VLe.refl _ | exact CLe.refl _ | exact All2.nil | refine TLe.tup ?_ | refine TLe.v ?_ | refine All2.cons ?_ ?_ | refine VLe.agg ?_ | refine VLe.one ?_ | exact CLe.nil _ | exact CLe.emp _ | refine CLe.val ?_ | refine CLe.slc ?_ ?_))
  replace h := Md.cond_f h c3
  refine aw_skip ?_
  obtain ⟨g4, h⟩ := Md.ifp_s h
  refine aw_seq ?_
  refine aw_region ?_
  refine aops_step1 rfl (st_slice_lit (el := lsEl byC ([] : List UInt8)) 1 rfl rfl rfl rfl rfl rfl rfl rfl (lit_el byC 1 ([] : List UInt8) (fun _ => rfl)) rfl) ?_
  refine aops_step1 rfl (ev_field rfl rfl rfl) ?_
  refine aops_step1 rfl (ev_load rfl rfl rfl rfl) ?_
  refine aops_step1 rfl (st_app_ls (f := byC) ([] : List UInt8) a0.Data (fun _ => rfl) rfl rfl (.inl rfl) (by omega) (by omega) rfl) ?_
  refine aops_step1 rfl (st_assign rfl rfl) ?_
  refine aops_step1 rfl (st_assign rfl rfl) ?_
  refine aops_nil ?_
  cases Option.some.inj h
  refine aw_freeze 1 rfl ?_
  refine aw_ret ⟨rfl, ret_v (.inr ⟨by decide, _, rfl, .cons (show get _ _ = AV.one _ from rfl) (.cons (show get _ _ = AV.one _ from rfl) (.nil)), by intro y hy vs e; subst e; simp at hy⟩) rfl rfl rfl ?_⟩
  (repeat' (first | exact TLe.refl _ | exact VLe.refl _ | exact CLe.refl _ | exact All2.nil | refine TLe.tup ?_ | refine TLe.v ?_ | refine All2.cons ?_ ?_ | refine VLe.agg ?_ | refine VLe.one ?_ | exact CLe.nil _ | exact CLe.emp _ | refine CLe.val ?_ | refine CLe.slc ?_ ?_))
set_option maxHeartbeats 2000000 in
theorem actorgridref26_Arm_fn (k : Nat) (a0 : Disk) (a1 : Int) (a2 : Int) (r : Disk × Int) (h : actorgridref26_Arm k a0 a1 a2 = some r) : FnC Try.prog 27 [.agg [CV.ls byC a0.Data, .val (.int .i64 a0.Capacity), .val (.bool a0.Armed), .val (.int .i64 a0.Writes), .val (.int .i64 a0.Keep), .val (.bool a0.Down)], .one (.val (.int .i64 a1)), .one (.val (.int .i64 a2))] [] (Det (.tup [.agg [CV.ls byC r.1.Data, .val (.int .i64 r.1.Capacity), .val (.bool r.1.Armed), .val (.int .i64 r.1.Writes), .val (.int .i64 r.1.Keep), .val (.bool r.1.Down)], .one (.val (.int .i64 r.2))]) []) := by
  unfold actorgridref26_Arm at h
  refine fn_intro' 31 Try.func27 rfl rfl rfl ?_
  refine aw_seq ?_
  refine aw_region ?_
  refine aops_step1 rfl (st_box 0 rfl rfl rfl rfl) ?_
  refine aops_step1 rfl (st_alloc (cs := [.val (.slice none 0 0), .val (.int .i64 0), .val (.bool false), .val (.int .i64 0), .val (.int .i64 0), .val (.bool false)]) 1 rfl rfl rfl rfl rfl) ?_
  refine aops_step1 rfl (st_assign rfl rfl) ?_
  refine aops_nil ?_
  refine aw_seq ?_
  obtain ⟨x1, hx1, h⟩ := Md.bind_s h
  rcases Md.bool_or ((!x1)) with q2 | q2
  · replace h := Md.cond_t h q2
    refine aw_seq ?_
    refine aw_region ?_
    refine aops_step1 rfl (ev_loads (ds := [_, _, _, _, _, _]) rfl rfl rfl rfl rfl) ?_
    refine aops_step1 rfl (ev_call_v (actorgridref26_ValidDisk_fn k a0 x1 hx1) rfl [] (by repeat' (first | exact All2.nil | refine All2.cons ?_ ?_ | refine ArgV.one ?_ | refine ArgV.agg ?_ | exact ArgC.mk rfl | exact ArgC.lend rfl (by simp) | exact ArgC.le (CLe.nil _) rfl | exact ArgC.le (CLe.emp _) rfl | exact ArgC.le (CLe.any _) rfl)) rfl rfl rfl (.inl rfl) rfl) ?_
    refine aops_step1 rfl (ev_not rfl rfl) ?_
    refine aops_step1 rfl (st_move rfl rfl) ?_
    refine aops_no rfl rfl rfl rfl rfl (by first | decide | (rw [q2]; decide)) ?_
    refine aops_no rfl rfl rfl rfl rfl (by first | decide | (rw [q2]; decide)) ?_
    refine aops_step1 rfl (st_pick_yes rfl (by first | rfl | exact q2) rfl rfl) ?_
    refine aops_step1 rfl (st_move rfl rfl) ?_
    refine aops_no rfl rfl rfl rfl rfl (by decide) ?_
    refine aops_no rfl rfl rfl rfl rfl (by decide) ?_
    refine aops_step1 rfl (st_pick_yes rfl (by first | rfl | exact rfl) rfl rfl) ?_
    refine aops_nil ?_
    refine aw_yes rfl (rfl) ?_
    refine aw_seq ?_
    refine aw_region ?_
    refine aops_step1 rfl (ev_build' (out := [_, _, _, _, _, _]) rfl rfl rfl rfl rfl) ?_
    refine aops_step1 rfl (st_store (cs' := [_, _, _, _, _, _]) rfl rfl rfl rfl rfl rfl rfl rfl rfl) ?_
    refine aops_step1 rfl (st_assign rfl rfl) ?_
    refine aops_nil ?_
    cases Option.some.inj h
    refine aw_ret ⟨rfl, ret_v (.inr ⟨by decide, _, rfl, .cons (show resVar _ _ _ (AV.agg [_, _, _, _, _, _]) from ⟨_, _, _, _, _, rfl, rfl, TVar.h, rfl, rfl⟩) (.cons (show get _ _ = AV.one _ from rfl) (.nil)), by intro y hy vs e; subst e; simp at hy⟩) rfl rfl rfl ?_⟩
    (repeat' (first | exact TLe.refl _ | exact VLe.refl _ | exact CLe.refl _ | exact All2.nil | refine TLe.tup ?_ | refine TLe.v ?_ | refine All2.cons ?_ ?_ | refine VLe.agg ?_ | refine VLe.one ?_ | exact CLe.nil _ | exact CLe.emp _ | refine CLe.val ?_ | refine CLe.slc ?_ ?_))
  replace h := Md.cond_f h q2
  rcases Md.bool_or ((decide (a1 < 0))) with q3 | q3
  · replace h := Md.cond_t h q3
    refine aw_seq ?_
    refine aw_region ?_
    refine aops_step1 rfl (ev_loads (ds := [_, _, _, _, _, _]) rfl rfl rfl rfl rfl) ?_
    refine aops_step1 rfl (ev_call_v (actorgridref26_ValidDisk_fn k a0 x1 hx1) rfl [] (by repeat' (first | exact All2.nil | refine All2.cons ?_ ?_ | refine ArgV.one ?_ | refine ArgV.agg ?_ | exact ArgC.mk rfl | exact ArgC.lend rfl (by simp) | exact ArgC.le (CLe.nil _) rfl | exact ArgC.le (CLe.emp _) rfl | exact ArgC.le (CLe.any _) rfl)) rfl rfl rfl (.inl rfl) rfl) ?_
    refine aops_step1 rfl (ev_not rfl rfl) ?_
    refine aops_step1 rfl (st_move rfl rfl) ?_
    refine aops_yes rfl rfl rfl rfl q2 (st_move rfl rfl) ?_
    refine aops_yes rfl rfl rfl rfl q2 (ev_cmp rfl rfl rfl rfl) ?_
    refine aops_step1 rfl (st_pick_no rfl (by first | rfl | exact q2) rfl rfl) ?_
    refine aops_step1 rfl (st_move rfl rfl) ?_
    refine aops_no rfl rfl rfl rfl rfl (by first | decide | (rw [q3]; decide)) ?_
    refine aops_no rfl rfl rfl rfl rfl (by first | decide | (rw [q3]; decide)) ?_
    refine aops_step1 rfl (st_pick_yes rfl (by first | rfl | exact q3) rfl rfl) ?_
    refine aops_nil ?_
    refine aw_yes rfl (rfl) ?_
    refine aw_seq ?_
    refine aw_region ?_
    refine aops_step1 rfl (ev_build' (out := [_, _, _, _, _, _]) rfl rfl rfl rfl rfl) ?_
    refine aops_step1 rfl (st_store (cs' := [_, _, _, _, _, _]) rfl rfl rfl rfl rfl rfl rfl rfl rfl) ?_
    refine aops_step1 rfl (st_assign rfl rfl) ?_
    refine aops_nil ?_
    cases Option.some.inj h
    refine aw_ret ⟨rfl, ret_v (.inr ⟨by decide, _, rfl, .cons (show resVar _ _ _ (AV.agg [_, _, _, _, _, _]) from ⟨_, _, _, _, _, rfl, rfl, TVar.h, rfl, rfl⟩) (.cons (show get _ _ = AV.one _ from rfl) (.nil)), by intro y hy vs e; subst e; simp at hy⟩) rfl rfl rfl ?_⟩
    (repeat' (first | exact TLe.refl _ | exact VLe.refl _ | exact CLe.refl _ | exact All2.nil | refine TLe.tup ?_ | refine TLe.v ?_ | refine All2.cons ?_ ?_ | refine VLe.agg ?_ | refine VLe.one ?_ | exact CLe.nil _ | exact CLe.emp _ | refine CLe.val ?_ | refine CLe.slc ?_ ?_))
  replace h := Md.cond_f h q3
  refine aw_seq ?_
  refine aw_region ?_
  refine aops_step1 rfl (ev_loads (ds := [_, _, _, _, _, _]) rfl rfl rfl rfl rfl) ?_
  refine aops_step1 rfl (ev_call_v (actorgridref26_ValidDisk_fn k a0 x1 hx1) rfl [] (by repeat' (first | exact All2.nil | refine All2.cons ?_ ?_ | refine ArgV.one ?_ | refine ArgV.agg ?_ | exact ArgC.mk rfl | exact ArgC.lend rfl (by simp) | exact ArgC.le (CLe.nil _) rfl | exact ArgC.le (CLe.emp _) rfl | exact ArgC.le (CLe.any _) rfl)) rfl rfl rfl (.inl rfl) rfl) ?_
  refine aops_step1 rfl (ev_not rfl rfl) ?_
  refine aops_step1 rfl (st_move rfl rfl) ?_
  refine aops_yes rfl rfl rfl rfl q2 (st_move rfl rfl) ?_
  refine aops_yes rfl rfl rfl rfl q2 (ev_cmp rfl rfl rfl rfl) ?_
  refine aops_step1 rfl (st_pick_no rfl (by first | rfl | exact q2) rfl rfl) ?_
  refine aops_step1 rfl (st_move rfl rfl) ?_
  refine aops_yes rfl rfl rfl rfl q3 (st_move rfl rfl) ?_
  refine aops_yes rfl rfl rfl rfl q3 (ev_cmp rfl rfl rfl rfl) ?_
  refine aops_step1 rfl (st_pick_no rfl (by first | rfl | exact q3) rfl rfl) ?_
  refine aops_nil ?_
  refine aw_cond rfl (fun c4 => ?_) (fun c4 => ?_)
  · replace h := Md.cond_t h c4
    refine aw_seq ?_
    refine aw_region ?_
    refine aops_step1 rfl (ev_build' (out := [_, _, _, _, _, _]) rfl rfl rfl rfl rfl) ?_
    refine aops_step1 rfl (st_store (cs' := [_, _, _, _, _, _]) rfl rfl rfl rfl rfl rfl rfl rfl rfl) ?_
    refine aops_step1 rfl (st_assign rfl rfl) ?_
    refine aops_nil ?_
    cases Option.some.inj h
    refine aw_ret ⟨rfl, ret_v (.inr ⟨by decide, _, rfl, .cons (show resVar _ _ _ (AV.agg [_, _, _, _, _, _]) from ⟨_, _, _, _, _, rfl, rfl, TVar.h, rfl, rfl⟩) (.cons (show get _ _ = AV.one _ from rfl) (.nil)), by intro y hy vs e; subst e; simp at hy⟩) rfl rfl rfl ?_⟩
    (repeat' (first | exact TLe.refl _ | exact VLe.refl _ | exact CLe.refl _ | exact All2.nil | refine TLe.tup ?_ | refine TLe.v ?_ | refine All2.cons ?_ ?_ | refine VLe.agg ?_ | refine VLe.one ?_ | exact CLe.nil _ | exact CLe.emp _ | refine CLe.val ?_ | refine CLe.slc ?_ ?_))
  replace h := Md.cond_f h c4
  refine aw_skip ?_
  refine aw_seq ?_
  refine aw_seq ?_
  refine aw_region ?_
  refine aops_step1 rfl (ev_field rfl rfl rfl) ?_
  refine aops_step1 rfl (ev_load rfl rfl rfl rfl) ?_
  refine aops_nil ?_
  refine aw_cond rfl (fun c5 => ?_) (fun c5 => ?_)
  · replace h := Md.cond_t h c5
    refine aw_seq ?_
    refine aw_region ?_
    refine aops_step1 rfl (ev_build' (out := [_, _, _, _, _, _]) rfl rfl rfl rfl rfl) ?_
    refine aops_step1 rfl (st_store (cs' := [_, _, _, _, _, _]) rfl rfl rfl rfl rfl rfl rfl rfl rfl) ?_
    refine aops_step1 rfl (st_assign rfl rfl) ?_
    refine aops_nil ?_
    cases Option.some.inj h
    refine aw_ret ⟨rfl, ret_v (.inr ⟨by decide, _, rfl, .cons (show resVar _ _ _ (AV.agg [_, _, _, _, _, _]) from ⟨_, _, _, _, _, rfl, rfl, TVar.h, rfl, rfl⟩) (.cons (show get _ _ = AV.one _ from rfl) (.nil)), by intro y hy vs e; subst e; simp at hy⟩) rfl rfl rfl ?_⟩
    (repeat' (first | exact TLe.refl _ | exact VLe.refl _ | exact CLe.refl _ | exact All2.nil | refine TLe.tup ?_ | refine TLe.v ?_ | refine All2.cons ?_ ?_ | refine VLe.agg ?_ | refine VLe.one ?_ | exact CLe.nil _ | exact CLe.emp _ | refine CLe.val ?_ | refine CLe.slc ?_ ?_))
  replace h := Md.cond_f h c5
  refine aw_skip ?_
  obtain ⟨x6, hx6, h⟩ := Md.bind_s h
  refine aw_seq ?_
  refine aw_region ?_
  refine aops_step1 rfl (ev_loads (ds := [_, _, _, _, _, _]) rfl rfl rfl rfl rfl) ?_
  refine aops_step1 rfl (st_call_r 2 rfl (actorgridref26_copyDisk_fn k a0 x6 hx6) rfl [] (by repeat' (first | exact All2.nil | refine All2.cons ?_ ?_ | refine ArgV.one ?_ | refine ArgV.agg ?_ | exact ArgC.mk rfl | exact ArgC.lend rfl (by simp) | exact ArgC.le (CLe.nil _) rfl | exact ArgC.le (CLe.emp _) rfl | exact ArgC.le (CLe.any _) rfl)) rfl rfl rfl (.inl rfl) rfl rfl) ?_
  refine aops_step1 rfl (st_store (cs' := [_, _, _, _, _, _]) rfl rfl rfl rfl rfl rfl rfl rfl rfl) ?_
  refine aops_nil ?_
  refine aw_seq ?_
  refine aw_region ?_
  refine aops_step1 rfl (st_move rfl rfl) ?_
  refine aops_step1 rfl (st_move rfl rfl) ?_
  refine aops_step1 rfl (ev_field rfl rfl rfl) ?_
  refine aops_step1 rfl (st_store (cs' := [_, _, _, _, _, _]) rfl rfl rfl rfl rfl rfl rfl rfl rfl) ?_
  refine aops_step1 rfl (ev_field rfl rfl rfl) ?_
  refine aops_step1 rfl (st_store (cs' := [_, _, _, _, _, _]) rfl rfl rfl rfl rfl rfl rfl rfl rfl) ?_
  refine aops_step1 rfl (ev_field rfl rfl rfl) ?_
  refine aops_step1 rfl (st_store (cs' := [_, _, _, _, _, _]) rfl rfl rfl rfl rfl rfl rfl rfl rfl) ?_
  refine aops_nil ?_
  refine aw_seq ?_
  refine aw_region ?_
  refine aops_step1 rfl (ev_loads (ds := [_, _, _, _, _, _]) rfl rfl rfl rfl rfl) ?_
  refine aops_step1 rfl (st_store (cs' := [_, _, _, _, _, _]) rfl rfl rfl rfl rfl rfl rfl rfl rfl) ?_
  refine aops_step1 rfl (st_assign rfl rfl) ?_
  refine aops_nil ?_
  cases Option.some.inj h
  refine aw_freeze 2 rfl ?_
  refine aw_ret ⟨rfl, ret_v (.inr ⟨by decide, _, rfl, .cons (show resVar _ _ _ (AV.agg [_, _, _, _, _, _]) from ⟨_, _, _, _, _, rfl, rfl, TVar.h, rfl, rfl⟩) (.cons (show get _ _ = AV.one _ from rfl) (.nil)), by intro y hy vs e; subst e; simp at hy⟩) rfl rfl rfl ?_⟩
  (repeat' (first | exact TLe.refl _ | exact VLe.refl _ | exact CLe.refl _ | exact All2.nil | refine TLe.tup ?_ | refine TLe.v ?_ | refine All2.cons ?_ ?_ | refine VLe.agg ?_ | refine VLe.one ?_ | exact CLe.nil _ | exact CLe.emp _ | refine CLe.val ?_ | refine CLe.slc ?_ ?_))
set_option maxHeartbeats 2000000 in
theorem actorgridref26_Restart_fn (k : Nat) (a0 : Disk) (r : Disk × Int) (h : actorgridref26_Restart k a0 = some r) : FnC Try.prog 28 [.agg [CV.ls byC a0.Data, .val (.int .i64 a0.Capacity), .val (.bool a0.Armed), .val (.int .i64 a0.Writes), .val (.int .i64 a0.Keep), .val (.bool a0.Down)]] [] (Det (.tup [.agg [CV.ls byC r.1.Data, .val (.int .i64 r.1.Capacity), .val (.bool r.1.Armed), .val (.int .i64 r.1.Writes), .val (.int .i64 r.1.Keep), .val (.bool r.1.Down)], .one (.val (.int .i64 r.2))]) []) := by
  unfold actorgridref26_Restart at h
  refine fn_intro' 15 Try.func28 rfl rfl rfl ?_
  refine aw_seq ?_
  refine aw_region ?_
  refine aops_step1 rfl (st_box 0 rfl rfl rfl rfl) ?_
  refine aops_step1 rfl (st_alloc (cs := [.val (.slice none 0 0), .val (.int .i64 0), .val (.bool false), .val (.int .i64 0), .val (.int .i64 0), .val (.bool false)]) 1 rfl rfl rfl rfl rfl) ?_
  refine aops_step1 rfl (st_assign rfl rfl) ?_
  refine aops_nil ?_
  refine aw_seq ?_
  obtain ⟨x1, hx1, h⟩ := Md.bind_s h
  refine aw_seq ?_
  refine aw_region ?_
  refine aops_step1 rfl (ev_loads (ds := [_, _, _, _, _, _]) rfl rfl rfl rfl rfl) ?_
  refine aops_step1 rfl (ev_call_v (actorgridref26_ValidDisk_fn k a0 x1 hx1) rfl [] (by repeat' (first | exact All2.nil | refine All2.cons ?_ ?_ | refine ArgV.one ?_ | refine ArgV.agg ?_ | exact ArgC.mk rfl | exact ArgC.lend rfl (by simp) | exact ArgC.le (CLe.nil _) rfl | exact ArgC.le (CLe.emp _) rfl | exact ArgC.le (CLe.any _) rfl)) rfl rfl rfl (.inl rfl) rfl) ?_
  refine aops_step1 rfl (ev_not rfl rfl) ?_
  refine aops_nil ?_
  refine aw_cond rfl (fun c2 => ?_) (fun c2 => ?_)
  · replace h := Md.cond_t h c2
    refine aw_seq ?_
    refine aw_region ?_
    refine aops_step1 rfl (ev_build' (out := [_, _, _, _, _, _]) rfl rfl rfl rfl rfl) ?_
    refine aops_step1 rfl (st_store (cs' := [_, _, _, _, _, _]) rfl rfl rfl rfl rfl rfl rfl rfl rfl) ?_
    refine aops_step1 rfl (st_assign rfl rfl) ?_
    refine aops_nil ?_
    cases Option.some.inj h
    refine aw_ret ⟨rfl, ret_v (.inr ⟨by decide, _, rfl, .cons (show resVar _ _ _ (AV.agg [_, _, _, _, _, _]) from ⟨_, _, _, _, _, rfl, rfl, TVar.h, rfl, rfl⟩) (.cons (show get _ _ = AV.one _ from rfl) (.nil)), by intro y hy vs e; subst e; simp at hy⟩) rfl rfl rfl ?_⟩
    (repeat' (first | exact TLe.refl _ | exact VLe.refl _ | exact CLe.refl _ | exact All2.nil | refine TLe.tup ?_ | refine TLe.v ?_ | refine All2.cons ?_ ?_ | refine VLe.agg ?_ | refine VLe.one ?_ | exact CLe.nil _ | exact CLe.emp _ | refine CLe.val ?_ | refine CLe.slc ?_ ?_))
  replace h := Md.cond_f h c2
  refine aw_skip ?_
  obtain ⟨g3, h⟩ := Md.ifp_s h
  refine aw_seq ?_
  apply aw_draw 6 ((⟨[], .one (.emp0)⟩ : Add) :: ⟨[], .one (.ptr 0 _)⟩ :: ⟨[], .one (CV.ls byC a0.Data)⟩ :: ⟨[], .one (CV.ls byC a0.Data)⟩ :: ⟨[], .one (.ptr 0 _)⟩ :: ⟨[], .one (.val (.int .i64 a0.Capacity))⟩ :: []) (by decide) rfl ?hk1x ?hf1x ?ho1x ?hr1x
  case ho1x =>
   refine ⟨⟨[], (by decide +kernel), fun S hle hfr => ?_⟩, ?_⟩
   · exact .inl ⟨.inl ⟨rfl, rfl⟩, st_slice_emp (hle.d rfl)⟩
   refine ⟨⟨[], (by decide +kernel), fun S hle hfr => ?_⟩, ?_⟩
   · exact .inl ⟨.inl ⟨rfl, rfl⟩, ev_field (hle.ev rfl (by nofun)) rfl (hle.d rfl)⟩
   refine ⟨⟨1 :: [], (by decide +kernel), fun S hle hfr => ?_⟩, ?_⟩
   · exact .inl ⟨.inl ⟨rfl, rfl⟩, ev_load (hle.ev rfl (by nofun)) (hle.heap _ _ rfl) rfl (hle.d rfl)⟩
   refine ⟨⟨0 :: 2 :: 1 :: [], (by decide +kernel), fun S hle hfr => ?_⟩, ?_⟩
   · exact .inl ⟨.inl ⟨rfl, rfl⟩, st_app_emp_z (f := byC) a0.Data (fun _ => rfl) (hle.ev rfl (by nofun)) (.inl (hle.ev rfl (by nofun))) (by omega) (by omega) (hle.d rfl)⟩
   refine ⟨⟨[], (by decide +kernel), fun S hle hfr => ?_⟩, ?_⟩
   · exact .inl ⟨.inl ⟨rfl, rfl⟩, ev_field (hle.ev rfl (by nofun)) rfl (hle.d rfl)⟩
   refine ⟨⟨4 :: [], (by decide +kernel), fun S hle hfr => ?_⟩, ?_⟩
   · exact .inl ⟨.inl ⟨rfl, rfl⟩, ev_load (hle.ev rfl (by nofun)) (hle.heap _ _ rfl) rfl (hle.d rfl)⟩
   exact trivial
  case hk1x => rfl
  case hf1x => rfl
  refine aops_step1 rfl (ev_build' (out := [_, _, _, _, _, _]) rfl rfl rfl rfl rfl) ?_
  refine aops_step1 rfl (st_store (cs' := [_, _, _, _, _, _]) rfl rfl rfl rfl rfl rfl rfl rfl rfl) ?_
  refine aops_step1 rfl (st_assign rfl rfl) ?_
  refine aops_nil ?_
  cases Option.some.inj h
  refine aw_ret ⟨rfl, ret_v (.inr ⟨by decide, _, rfl, .cons (show resVar _ _ _ (AV.agg [_, _, _, _, _, _]) from ⟨_, _, _, _, _, rfl, rfl, TVar.h, rfl, rfl⟩) (.cons (show get _ _ = AV.one _ from rfl) (.nil)), by intro y hy vs e; subst e; simp at hy⟩) rfl rfl rfl ?_⟩
  (repeat' (first | exact TLe.refl _ | exact VLe.refl _ | exact CLe.refl _ | exact All2.nil | refine TLe.tup ?_ | refine TLe.v ?_ | refine All2.cons ?_ ?_ | refine VLe.agg ?_ | refine VLe.one ?_ | exact CLe.nil _ | exact CLe.emp _ | refine CLe.val ?_ | refine CLe.slc ?_ ?_))
set_option maxHeartbeats 2000000 in
theorem actorgridlaw26_same_fn (k : Nat) (a0 : Disk) (a1 : Int) (a2 : Disk) (a3 : Int) (r : Bool) (h : actorgridlaw26_same k a0 a1 a2 a3 = some r) : FnC Try.prog 24 [.agg [CV.ls byC a0.Data, .val (.int .i64 a0.Capacity), .val (.bool a0.Armed), .val (.int .i64 a0.Writes), .val (.int .i64 a0.Keep), .val (.bool a0.Down)], .one (.val (.int .i64 a1)), .agg [CV.ls byC a2.Data, .val (.int .i64 a2.Capacity), .val (.bool a2.Armed), .val (.int .i64 a2.Writes), .val (.int .i64 a2.Keep), .val (.bool a2.Down)], .one (.val (.int .i64 a3))] [] (Det (.one (.val (.bool r))) []) := by
  unfold actorgridlaw26_same at h
  refine fn_intro' 17 Try.func24 rfl rfl rfl ?_
  refine aw_seq ?_
  refine aw_region ?_
  refine aops_step1 rfl (st_box 0 rfl rfl rfl rfl) ?_
  refine aops_step1 rfl (st_box 1 rfl rfl rfl rfl) ?_
  refine aops_step1 rfl (st_assign rfl rfl) ?_
  refine aops_nil ?_
  rcases Md.bool_or ((a1 == a3)) with q1 | q1
  · replace h := Md.cond_t h q1
    obtain ⟨x2, hx2, h⟩ := Md.bind_s h
    refine aw_seq ?_
    refine aw_region ?_
    refine aops_step1 rfl (st_move rfl rfl) ?_
    refine aops_step1 rfl (st_move rfl rfl) ?_
    refine aops_step1 rfl (ev_cmp rfl rfl rfl rfl) ?_
    refine aops_step1 rfl (st_move rfl rfl) ?_
    refine aops_yes rfl rfl rfl rfl q1 (ev_loads (ds := [_, _, _, _, _, _]) rfl rfl rfl rfl rfl) ?_
    refine aops_yes rfl rfl rfl rfl q1 (ev_loads (ds := [_, _, _, _, _, _]) rfl rfl rfl rfl rfl) ?_
    refine aops_yes rfl rfl rfl rfl q1 (ev_call_v (actorgridref26_SameDisk_fn k a0 a2 x2 hx2) rfl [] (by repeat' (first | exact All2.nil | refine All2.cons ?_ ?_ | refine ArgV.one ?_ | refine ArgV.agg ?_ | exact ArgC.mk rfl | exact ArgC.lend rfl (by simp) | exact ArgC.le (CLe.nil _) rfl | exact ArgC.le (CLe.emp _) rfl | exact ArgC.le (CLe.any _) rfl)) rfl rfl rfl (.inl rfl) rfl) ?_
    refine aops_step1 rfl (st_pick_yes rfl (by first | rfl | exact q1) rfl rfl) ?_
    refine aops_step1 rfl (st_assign rfl rfl) ?_
    refine aops_nil ?_
    cases Option.some.inj h
    refine aw_ret ⟨rfl, ret_v (.inl ⟨_, rfl, rfl, fun _ e => nomatch e⟩) rfl rfl rfl ?_⟩
    (repeat' (first | exact TLe.refl _ | exact VLe.refl _ | exact CLe.refl _ | exact All2.nil | refine TLe.tup ?_ | refine TLe.v ?_ | refine All2.cons ?_ ?_ | refine VLe.agg ?_ | refine VLe.one ?_ | exact CLe.nil _ | exact CLe.emp _ | refine CLe.val ?_ | refine CLe.slc ?_ ?_))
  replace h := Md.cond_f h q1
  refine aw_seq ?_
  refine aw_region ?_
  refine aops_step1 rfl (st_move rfl rfl) ?_
  refine aops_step1 rfl (st_move rfl rfl) ?_
  refine aops_step1 rfl (ev_cmp rfl rfl rfl rfl) ?_
  refine aops_step1 rfl (st_move rfl rfl) ?_
  refine aops_no rfl rfl rfl rfl rfl (by first | decide | (rw [q1]; decide)) ?_
  refine aops_no rfl rfl rfl rfl rfl (by first | decide | (rw [q1]; decide)) ?_
  refine aops_no rfl rfl rfl rfl rfl (by first | decide | (rw [q1]; decide)) ?_
  refine aops_step1 rfl (st_pick_no rfl (by first | rfl | exact q1) rfl rfl) ?_
  refine aops_step1 rfl (st_assign rfl rfl) ?_
  refine aops_nil ?_
  cases Option.some.inj h
  refine aw_ret ⟨rfl, ret_v (.inl ⟨_, rfl, rfl, fun _ e => nomatch e⟩) rfl rfl rfl ?_⟩
  (repeat' (first | exact TLe.refl _ | exact VLe.refl _ | exact CLe.refl _ | exact All2.nil | refine TLe.tup ?_ | refine TLe.v ?_ | refine All2.cons ?_ ?_ | refine VLe.agg ?_ | refine VLe.one ?_ | exact CLe.nil _ | exact CLe.emp _ | refine CLe.val ?_ | refine CLe.slc ?_ ?_))
end Md
end Go.Proofs.Ytkcfkcgclljncaa
