/-
  DiskB: where a function's model gives a value, the function returns what reads as it (printed by wip/tools/auto.py). Condition of each: the model gives a value.
-/
import Derived.Test.YtkcfkcgclljncaaDiskBM
import Derived.Test.YtkcfkcgclljncaaDiskA
import Derived.Test.YtkcfkcgclljncaaConcat
namespace Go.Proofs.Ytkcfkcgclljncaa
open Go.ChangeShapes Go.WideShapes Go.RowKit
open Abs
set_option linter.unusedVariables false
set_option linter.unusedSimpArgs false
set_option maxRecDepth 10000
namespace Md
set_option maxHeartbeats 2000000 in
theorem disk_clone_fn (k : Nat) (a0 : Disk) (r : Disk) (h : disk_clone k a0 = some r) : FnC Try.prog 59 [.agg [CV.ls byC a0.Data, .val (.int .i64 a0.Capacity), .val (.bool a0.Armed), .val (.int .i64 a0.Writes), .val (.int .i64 a0.Keep), .val (.bool a0.Down)]] [] (Det (.agg [CV.ls byC r.Data, .val (.int .i64 r.Capacity), .val (.bool r.Armed), .val (.int .i64 r.Writes), .val (.int .i64 r.Keep), .val (.bool r.Down)]) []) := by
  unfold disk_clone at h
  refine fn_intro' 8 Try.func59 rfl rfl rfl ?_
  refine aw_seq ?_
  refine aw_region ?_
  refine aops_step1 rfl (st_box 0 rfl rfl rfl rfl) ?_
  refine aops_step1 rfl (st_alloc (cs := [.val (.slice none 0 0), .val (.int .i64 0), .val (.bool false), .val (.int .i64 0), .val (.int .i64 0), .val (.bool false)]) 1 rfl rfl rfl rfl rfl) ?_
  refine aops_nil ?_
  obtain ⟨g1, h⟩ := Md.ifp_s h
  refine aw_seq ?_
  refine aw_region ?_
  refine aops_step1 rfl (ev_field rfl rfl rfl) ?_
  refine aops_step1 rfl (ev_load rfl rfl rfl rfl) ?_
  refine aops_step1 rfl (st_app_nil_ls (f := byC) 2 a0.Data (fun _ => rfl) rfl rfl (.inl rfl) (by omega) (by omega) rfl) ?_
  refine aops_step1 rfl (ev_field rfl rfl rfl) ?_
  refine aops_step1 rfl (st_store (cs' := [_, _, _, _, _, _]) rfl rfl rfl rfl rfl rfl rfl rfl rfl) ?_
  refine aops_nil ?_
  refine aw_seq ?_
  refine aw_region ?_
  refine aops_step1 rfl (ev_loads (ds := [_, _, _, _, _, _]) rfl rfl rfl rfl rfl) ?_
  refine aops_step1 rfl (st_store (cs' := [_, _, _, _, _, _]) rfl rfl rfl rfl rfl rfl rfl rfl rfl) ?_
  refine aops_nil ?_
  cases Option.some.inj h
  refine aw_freeze 2 rfl ?_
  refine aw_ret ⟨rfl, ret_v (.inl ⟨_, rfl, (show resVar _ _ _ (AV.agg [_, _, _, _, _, _]) from ⟨_, _, _, _, _, rfl, rfl, TVar.h, rfl, rfl⟩), fun _ e => nomatch e⟩) rfl rfl rfl ?_⟩
  (repeat' (first | exact TLe.refl _ | exact VLe.refl _ | exact CLe.refl _ | exact All2.nil | refine TLe.tup ?_ | refine TLe.v ?_ | refine All2.cons ?_ ?_ | refine VLe.agg ?_ | refine VLe.one ?_ | exact CLe.nil _ | exact CLe.emp _ | refine CLe.val ?_ | refine CLe.slc ?_ ?_))
set_option maxHeartbeats 2000000 in
theorem disk_crash_fn (k : Nat) (a0 : Disk) (a1 : List UInt8) (r : Disk) (h : disk_crash k a0 a1 = some r) : FnC Try.prog 60 [.agg [CV.ls byC a0.Data, .val (.int .i64 a0.Capacity), .val (.bool a0.Armed), .val (.int .i64 a0.Writes), .val (.int .i64 a0.Keep), .val (.bool a0.Down)], .one (CV.ls byC a1)] [] (Det (.agg [CV.ls byC r.Data, .val (.int .i64 r.Capacity), .val (.bool r.Armed), .val (.int .i64 r.Writes), .val (.int .i64 r.Keep), .val (.bool r.Down)]) []) := by
  unfold disk_crash at h
  refine fn_intro' 10 Try.func60 rfl rfl rfl ?_
  refine aw_seq ?_
  refine aw_region ?_
  refine aops_step1 rfl (st_box 0 rfl rfl rfl rfl) ?_
  refine aops_step1 rfl (st_alloc (cs := [.val (.slice none 0 0), .val (.int .i64 0), .val (.bool false), .val (.int .i64 0), .val (.int .i64 0), .val (.bool false)]) 1 rfl rfl rfl rfl rfl) ?_
  refine aops_nil ?_
  obtain ⟨g1, h⟩ := Md.ifp_s h
  refine aw_seq ?_
  apply aw_draw 4 ((⟨[], .one (CV.ls byC a1)⟩ : Add) :: ⟨[], .one (CV.ls byC a1)⟩ :: ⟨[], .one (.ptr 0 _)⟩ :: ⟨[], .one (.val (.int .i64 a0.Capacity))⟩ :: []) (by decide) rfl ?hk1x ?hf1x ?ho1x ?hr1x
  case ho1x =>
   refine ⟨⟨[], (by decide +kernel), fun S hle hfr => ?_⟩, ?_⟩
   · exact .inl ⟨.inl ⟨rfl, rfl⟩, st_move (hle.ev rfl (by nofun)) (hle.d rfl)⟩
   refine ⟨⟨0 :: [], (by decide +kernel), fun S hle hfr => ?_⟩, ?_⟩
   · exact .inl ⟨.inl ⟨rfl, rfl⟩, st_app_nil_z (f := byC) a1 (fun _ => rfl) (hle.ev rfl (by nofun)) (.inl (hle.ev rfl (by nofun))) (by omega) (by omega) (hle.d rfl)⟩
   refine ⟨⟨[], (by decide +kernel), fun S hle hfr => ?_⟩, ?_⟩
   · exact .inl ⟨.inl ⟨rfl, rfl⟩, ev_field (hle.ev rfl (by nofun)) rfl (hle.d rfl)⟩
   refine ⟨⟨2 :: [], (by decide +kernel), fun S hle hfr => ?_⟩, ?_⟩
   · exact .inl ⟨.inl ⟨rfl, rfl⟩, ev_load (hle.ev rfl (by nofun)) (hle.heap _ _ rfl) rfl (hle.d rfl)⟩
   exact trivial
  case hk1x => rfl
  case hf1x => rfl
  refine aops_step1 rfl (ev_build' (out := [_, _, _, _, _, _]) rfl rfl rfl rfl rfl) ?_
  refine aops_step1 rfl (st_store (cs' := [_, _, _, _, _, _]) rfl rfl rfl rfl rfl rfl rfl rfl rfl) ?_
  refine aops_nil ?_
  cases Option.some.inj h
  refine aw_ret ⟨rfl, ret_v (.inl ⟨_, rfl, (show resVar _ _ _ (AV.agg [_, _, _, _, _, _]) from ⟨_, _, _, _, _, rfl, rfl, TVar.h, rfl, rfl⟩), fun _ e => nomatch e⟩) rfl rfl rfl ?_⟩
  (repeat' (first | exact TLe.refl _ | exact VLe.refl _ | exact CLe.refl _ | exact All2.nil | refine TLe.tup ?_ | refine TLe.v ?_ | refine All2.cons ?_ ?_ | refine VLe.agg ?_ | refine VLe.one ?_ | exact CLe.nil _ | exact CLe.emp _ | refine CLe.val ?_ | refine CLe.slc ?_ ?_))
set_option maxHeartbeats 2000000 in
theorem disk_written_fn (k : Nat) (a0 : Disk) (a1 : List UInt8) (r : Disk) (h : disk_written k a0 a1 = some r) : FnC Try.prog 62 [.agg [CV.ls byC a0.Data, .val (.int .i64 a0.Capacity), .val (.bool a0.Armed), .val (.int .i64 a0.Writes), .val (.int .i64 a0.Keep), .val (.bool a0.Down)], .one (CV.ls byC a1)] [] (Det (.agg [CV.ls byC r.Data, .val (.int .i64 r.Capacity), .val (.bool r.Armed), .val (.int .i64 r.Writes), .val (.int .i64 r.Keep), .val (.bool r.Down)]) []) := by
  unfold disk_written at h
  refine fn_intro' 14 Try.func62 rfl rfl rfl ?_
  refine aw_seq ?_
  refine aw_region ?_
  refine aops_step1 rfl (st_box 0 rfl rfl rfl rfl) ?_
  refine aops_step1 rfl (st_alloc (cs := [.val (.slice none 0 0), .val (.int .i64 0), .val (.bool false), .val (.int .i64 0), .val (.int .i64 0), .val (.bool false)]) 1 rfl rfl rfl rfl rfl) ?_
  refine aops_nil ?_
  refine aw_seq ?_
  refine aw_region ?_
  refine aops_step1 rfl (st_move rfl rfl) ?_
  refine aops_step1 rfl (ev_field rfl rfl rfl) ?_
  refine aops_step1 rfl (st_store (cs' := [_, _, _, _, _, _]) rfl rfl rfl rfl rfl rfl rfl rfl rfl) ?_
  refine aops_nil ?_
  refine aw_seq ?_
  refine aw_seq ?_
  refine aw_region ?_
  refine aops_step1 rfl (ev_field rfl rfl rfl) ?_
  refine aops_step1 rfl (ev_load rfl rfl rfl rfl) ?_
  refine aops_nil ?_
  refine aw_cond rfl (fun c1 => ?_) (fun c1 => ?_)
  · replace h := Md.cond_t h c1
    refine aw_region ?_
    refine aops_step1 rfl (ev_field rfl rfl rfl) ?_
    refine aops_step1 rfl (ev_load rfl rfl rfl rfl) ?_
    refine aops_step1 rfl (ev_sub rfl rfl rfl (Md.wrap_W _)) ?_
    refine aops_step1 rfl (ev_field rfl rfl rfl) ?_
    refine aops_step1 rfl (st_store (cs' := [_, _, _, _, _, _]) rfl rfl rfl rfl rfl rfl rfl rfl rfl) ?_
    refine aops_nil ?_
    refine aw_seq ?_
    refine aw_region ?_
    refine aops_step1 rfl (ev_loads (ds := [_, _, _, _, _, _]) rfl rfl rfl rfl rfl) ?_
    refine aops_step1 rfl (st_store (cs' := [_, _, _, _, _, _]) rfl rfl rfl rfl rfl rfl rfl rfl rfl) ?_
    refine aops_nil ?_
    cases Option.some.inj h
    refine aw_ret ⟨rfl, ret_v (.inl ⟨_, rfl, (show resVar _ _ _ (AV.agg [_, _, _, _, _, _]) from ⟨_, _, _, _, _, rfl, rfl, TVar.h, rfl, rfl⟩), fun _ e => nomatch e⟩) rfl rfl rfl ?_⟩
    (repeat' (first | exact TLe.refl _ | exact VLe.refl _ | exact CLe.refl _ | exact All2.nil | refine TLe.tup ?_ | refine TLe.v ?_ | refine All2.cons ?_ ?_ | refine VLe.agg ?_ | refine VLe.one ?_ | exact CLe.nil _ | exact CLe.emp _ | refine CLe.val ?_ | refine CLe.slc ?_ ?_))
  replace h := Md.cond_f h c1
  refine aw_skip ?_
  refine aw_seq ?_
  refine aw_region ?_
  refine aops_step1 rfl (ev_loads (ds := [_, _, _, _, _, _]) rfl rfl rfl rfl rfl) ?_
  refine aops_step1 rfl (st_store (cs' := [_, _, _, _, _, _]) rfl rfl rfl rfl rfl rfl rfl rfl rfl) ?_
  refine aops_nil ?_
  cases Option.some.inj h
  refine aw_ret ⟨rfl, ret_v (.inl ⟨_, rfl, (show resVar _ _ _ (AV.agg [_, _, _, _, _, _]) from ⟨_, _, _, _, _, rfl, rfl, TVar.h, rfl, rfl⟩), fun _ e => nomatch e⟩) rfl rfl rfl ?_⟩
  (repeat' (first | exact TLe.refl _ | exact VLe.refl _ | exact CLe.refl _ | exact All2.nil | refine TLe.tup ?_ | refine TLe.v ?_ | refine All2.cons ?_ ?_ | refine VLe.agg ?_ | refine VLe.one ?_ | exact CLe.nil _ | exact CLe.emp _ | refine CLe.val ?_ | refine CLe.slc ?_ ?_))
set_option maxHeartbeats 2000000 in
theorem disk_Append_fn (k : Nat) (a0 : Disk) (a1 : List UInt8) (r : Disk × Int) (h : disk_Append k a0 a1 = some r) : FnC Try.prog 18 [.agg [CV.ls byC a0.Data, .val (.int .i64 a0.Capacity), .val (.bool a0.Armed), .val (.int .i64 a0.Writes), .val (.int .i64 a0.Keep), .val (.bool a0.Down)], .one (CV.ls byC a1)] [] (Det (.tup [.agg [CV.ls byC r.1.Data, .val (.int .i64 r.1.Capacity), .val (.bool r.1.Armed), .val (.int .i64 r.1.Writes), .val (.int .i64 r.1.Keep), .val (.bool r.1.Down)], .one (.val (.int .i64 r.2))]) []) := by
  unfold disk_Append at h
  refine fn_intro' 56 Try.func18 rfl rfl rfl ?_
  refine aw_seq ?_
  refine aw_region ?_
  refine aops_step1 rfl (st_box 0 rfl rfl rfl rfl) ?_
  refine aops_step1 rfl (st_alloc (cs := [.val (.slice none 0 0), .val (.int .i64 0), .val (.bool false), .val (.int .i64 0), .val (.int .i64 0), .val (.bool false)]) 1 rfl rfl rfl rfl rfl) ?_
  refine aops_step1 rfl (st_assign rfl rfl) ?_
  refine aops_nil ?_
  refine aw_seq ?_
  refine aw_block ?_
  obtain ⟨x1, hx1, h⟩ := Md.bind_s h
  refine aw_seq ?_
  refine aw_region ?_
  refine aops_step1 rfl (ev_loads (ds := [_, _, _, _, _, _]) rfl rfl rfl rfl rfl) ?_
  refine aops_step1 rfl (ev_call_v (disk_Valid_fn k a0 x1 hx1) rfl [] (by repeat' (first | exact All2.nil | refine All2.cons ?_ ?_ | refine ArgV.one ?_ | refine ArgV.agg ?_ | exact ArgC.mk rfl | exact ArgC.lend rfl (by simp) | exact ArgC.le (CLe.nil _) rfl | exact ArgC.le (CLe.emp _) rfl | exact ArgC.le (CLe.any _) rfl)) rfl rfl rfl (.inl rfl) rfl) ?_
  refine aops_step1 rfl (ev_not rfl rfl) ?_
  refine aops_step1 rfl (st_assign rfl rfl) ?_
  refine aops_nil ?_
  refine aw_cond rfl (fun c2 => ?_) (fun c2 => ?_)
  · replace h := Md.cond_t h c2
    refine aw_seq ?_
    refine aw_region ?_
    refine aops_step1 rfl (ev_build' (out := [_, _, _, _, _, _]) rfl rfl rfl rfl rfl) ?_
    refine aops_step1 rfl (st_store (cs' := [_, _, _, _, _, _]) rfl rfl rfl rfl rfl rfl rfl rfl rfl) ?_
    refine aops_step1 rfl (st_assign rfl rfl) ?_
    refine aops_nil ?_
    cases Option.some.inj h
    refine aw_ret ⟨rfl, ret_v (.inr ⟨by decide, _, rfl, .cons (show resVar _ _ _ (AV.agg [_, _, _, _, _, _]) from ⟨_, _, _, _, _, rfl, rfl, TVar.h, rfl, rfl⟩) (.cons (show get _ _ = AV.one _ from rfl) (.nil)), by intro y hy vs e; subst e; simp at hy⟩) rfl rfl rfl ?_⟩
    (repeat' (first | exact TLe.refl _ | exact VLe.refl _ | exact CLe.refl _ | exact All2.nil | refine TLe.tup ?_ | refine TLe.v ?_ | refine All2.cons ?_ ?_ | refine VLe.agg ?_ | refine VLe.one ?_ | exact CLe.nil _ | exact CLe.emp _ | refine CLe.val ?_ | refine CLe.slc ?_ ?_))
  replace h := Md.cond_f h c2
  refine aw_seq ?_
  refine aw_region ?_
  refine aops_step1 rfl (ev_field rfl rfl rfl) ?_
  refine aops_step1 rfl (ev_load rfl rfl rfl rfl) ?_
  refine aops_step1 rfl (st_assign rfl rfl) ?_
  refine aops_nil ?_
  refine aw_cond rfl (fun c3 => ?_) (fun c3 => ?_)
  · replace h := Md.cond_t h c3
    obtain ⟨x4, hx4, h⟩ := Md.bind_s h
    refine aw_seq ?_
    refine aw_region ?_
    refine aops_step1 rfl (ev_loads (ds := [_, _, _, _, _, _]) rfl rfl rfl rfl rfl) ?_
    refine aops_step1 rfl (ev_call_v (disk_clone_fn k a0 x4 hx4) rfl [] (by repeat' (first | exact All2.nil | refine All2.cons ?_ ?_ | refine ArgV.one ?_ | refine ArgV.agg ?_ | exact ArgC.mk rfl | exact ArgC.lend rfl (by simp) | exact ArgC.le (CLe.nil _) rfl | exact ArgC.le (CLe.emp _) rfl | exact ArgC.le (CLe.any _) rfl)) rfl rfl rfl (.inl rfl) rfl) ?_
    refine aops_step1 rfl (st_store (cs' := [_, _, _, _, _, _]) rfl rfl rfl rfl rfl rfl rfl rfl rfl) ?_
    refine aops_step1 rfl (st_assign rfl rfl) ?_
    refine aops_nil ?_
    cases Option.some.inj h
    refine aw_ret ⟨rfl, ret_v (.inr ⟨by decide, _, rfl, .cons (show resVar _ _ _ (AV.agg [_, _, _, _, _, _]) from ⟨_, _, _, _, _, rfl, rfl, TVar.h, rfl, rfl⟩) (.cons (show get _ _ = AV.one _ from rfl) (.nil)), by intro y hy vs e; subst e; simp at hy⟩) rfl rfl rfl ?_⟩
    (repeat' (first | exact TLe.refl _ | exact VLe.refl _ | exact CLe.refl _ | exact All2.nil | refine TLe.tup ?_ | refine TLe.v ?_ | refine All2.cons ?_ ?_ | refine VLe.agg ?_ | refine VLe.one ?_ | exact CLe.nil _ | exact CLe.emp _ | refine CLe.val ?_ | refine CLe.slc ?_ ?_))
  replace h := Md.cond_f h c3
  refine aw_seq ?_
  refine aw_region ?_
  refine aops_step1 rfl (st_move rfl rfl) ?_
  refine aops_step1 rfl (ev_len_slc rfl rfl) ?_
  refine aops_step1 rfl (ev_field rfl rfl rfl) ?_
  refine aops_step1 rfl (ev_load rfl rfl rfl rfl) ?_
  refine aops_step1 rfl (ev_field rfl rfl rfl) ?_
  refine aops_step1 rfl (ev_load rfl rfl rfl rfl) ?_
  refine aops_step1 rfl (ev_len_slc rfl rfl) ?_
  refine aops_step1 rfl (ev_sub rfl rfl rfl (Md.wrap_W _)) ?_
  refine aops_step1 rfl (ev_cmp rfl rfl rfl rfl) ?_
  refine aops_step1 rfl (st_assign rfl rfl) ?_
  refine aops_nil ?_
  refine aw_cond rfl (fun c5 => ?_) (fun c5 => ?_)
  · replace h := Md.cond_t h c5
    obtain ⟨x6, hx6, h⟩ := Md.bind_s h
    refine aw_seq ?_
    refine aw_region ?_
    refine aops_step1 rfl (ev_loads (ds := [_, _, _, _, _, _]) rfl rfl rfl rfl rfl) ?_
    refine aops_step1 rfl (ev_call_v (disk_clone_fn k a0 x6 hx6) rfl [] (by repeat' (first | exact All2.nil | refine All2.cons ?_ ?_ | refine ArgV.one ?_ | refine ArgV.agg ?_ | exact ArgC.mk rfl | exact ArgC.lend rfl (by simp) | exact ArgC.le (CLe.nil _) rfl | exact ArgC.le (CLe.emp _) rfl | exact ArgC.le (CLe.any _) rfl)) rfl rfl rfl (.inl rfl) rfl) ?_
    refine aops_step1 rfl (st_store (cs' := [_, _, _, _, _, _]) rfl rfl rfl rfl rfl rfl rfl rfl rfl) ?_
    refine aops_step1 rfl (st_assign rfl rfl) ?_
    refine aops_nil ?_
    cases Option.some.inj h
    refine aw_ret ⟨rfl, ret_v (.inr ⟨by decide, _, rfl, .cons (show resVar _ _ _ (AV.agg [_, _, _, _, _, _]) from ⟨_, _, _, _, _, rfl, rfl, TVar.h, rfl, rfl⟩) (.cons (show get _ _ = AV.one _ from rfl) (.nil)), by intro y hy vs e; subst e; simp at hy⟩) rfl rfl rfl ?_⟩
    (repeat' (first | exact TLe.refl _ | exact VLe.refl _ | exact CLe.refl _ | exact All2.nil | refine TLe.tup ?_ | refine TLe.v ?_ | refine All2.cons ?_ ?_ | refine VLe.agg ?_ | refine VLe.one ?_ | exact CLe.nil _ | exact CLe.emp _ | refine CLe.val ?_ | refine CLe.slc ?_ ?_))
  replace h := Md.cond_f h c5
  rcases Md.bool_or (a0.Armed) with q7 | q7
  · replace h := Md.cond_t h q7
    refine aw_seq ?_
    refine aw_region ?_
    refine aops_step1 rfl (ev_field rfl rfl rfl) ?_
    refine aops_step1 rfl (ev_load rfl rfl rfl rfl) ?_
    refine aops_step1 rfl (st_move rfl rfl) ?_
    refine aops_yes rfl rfl rfl rfl q7 (ev_field rfl rfl rfl) ?_
    refine aops_yes rfl rfl rfl rfl q7 (ev_load rfl rfl rfl rfl) ?_
    refine aops_yes rfl rfl rfl rfl q7 (ev_cmp rfl rfl rfl rfl) ?_
    refine aops_step1 rfl (st_pick_yes rfl (by first | rfl | exact q7) rfl rfl) ?_
    refine aops_step1 rfl (st_assign rfl rfl) ?_
    refine aops_nil ?_
    refine aw_cond rfl (fun c8 => ?_) (fun c8 => ?_)
    · replace h := Md.cond_t h c8
      obtain ⟨g9, h⟩ := Md.ifp_s h
      obtain ⟨g10, h⟩ := Md.ifp_s h
      obtain ⟨x11, hx11, h⟩ := Md.bind_s h
      obtain ⟨x12, hx12, h⟩ := Md.bind_s h
      refine aw_seq ?_
      apply aw_draw 12 ((⟨[], .agg [CV.ls byC a0.Data, .val (.int .i64 a0.Capacity), .val (.bool a0.Armed), .val (.int .i64 a0.Writes), .val (.int .i64 a0.Keep), .val (.bool a0.Down)]⟩ : Add) :: ⟨[], .one (.ptr 0 _)⟩ :: ⟨[], .one (CV.ls byC a0.Data)⟩ :: ⟨[], .one (CV.ls byC a1)⟩ :: ⟨[], .one (.ptr 0 _)⟩ :: ⟨[], .one (.val (.int .i64 a0.Keep))⟩ :: ⟨[], .one (CV.ls byC a1)⟩ :: ⟨[], .one (.val (.int .i64 ((a1.length : Nat) : Int)))⟩ :: ⟨[], .one (.val (.int .i64 (min a0.Keep ((a1.length : Nat) : Int))))⟩ :: ⟨[], .one (CV.ls byC (a1.take (((min a0.Keep ((a1.length : Nat) : Int))).toNat)))⟩ :: ⟨[], .one (CV.ls c_LU8 [a0.Data, (a1.take (((min a0.Keep ((a1.length : Nat) : Int))).toNat))])⟩ :: ⟨[], .one (CV.ls byC x11)⟩ :: []) (by decide) rfl ?hk1x ?hf1x ?ho1x ?hr1x
      case ho1x =>
       refine ⟨⟨[], (by decide +kernel), fun S hle hfr => ?_⟩, ?_⟩
       · exact .inl ⟨.inl ⟨rfl, rfl⟩, ev_loads (ds := [_, _, _, _, _, _]) (hle.ev rfl (by nofun)) (hle.heap _ _ rfl) rfl rfl (hle.d rfl)⟩
       refine ⟨⟨[], (by decide +kernel), fun S hle hfr => ?_⟩, ?_⟩
       · exact .inl ⟨.inl ⟨rfl, rfl⟩, ev_field (hle.ev rfl (by nofun)) rfl (hle.d rfl)⟩
       refine ⟨⟨1 :: [], (by decide +kernel), fun S hle hfr => ?_⟩, ?_⟩
       · exact .inl ⟨.inl ⟨rfl, rfl⟩, ev_load (hle.ev rfl (by nofun)) (hle.heap _ _ rfl) rfl (hle.d rfl)⟩
       refine ⟨⟨[], (by decide +kernel), fun S hle hfr => ?_⟩, ?_⟩
       · exact .inl ⟨.inl ⟨rfl, rfl⟩, st_move (hle.ev rfl (by nofun)) (hle.d rfl)⟩
       refine ⟨⟨[], (by decide +kernel), fun S hle hfr => ?_⟩, ?_⟩
       · exact .inl ⟨.inl ⟨rfl, rfl⟩, ev_field (hle.ev rfl (by nofun)) rfl (hle.d rfl)⟩
       refine ⟨⟨4 :: [], (by decide +kernel), fun S hle hfr => ?_⟩, ?_⟩
       · exact .inl ⟨.inl ⟨rfl, rfl⟩, ev_load (hle.ev rfl (by nofun)) (hle.heap _ _ rfl) rfl (hle.d rfl)⟩
       refine ⟨⟨[], (by decide +kernel), fun S hle hfr => ?_⟩, ?_⟩
       · exact .inl ⟨.inl ⟨rfl, rfl⟩, st_move (hle.ev rfl (by nofun)) (hle.d rfl)⟩
       refine ⟨⟨6 :: [], (by decide +kernel), fun S hle hfr => ?_⟩, ?_⟩
       · exact .inl ⟨.inl ⟨rfl, rfl⟩, ev_len_slc (hle.ev rfl (by nofun)) (hle.d rfl)⟩
       refine ⟨⟨5 :: 7 :: 4 :: 6 :: [], (by decide +kernel), fun S hle hfr => ?_⟩, ?_⟩
       · exact .inl ⟨.inl ⟨rfl, rfl⟩, ev_min (hle.ev rfl (by nofun)) (hle.ev rfl (by nofun)) (hle.d rfl) (Md.int_min _ _)⟩
       refine ⟨⟨3 :: 8 :: 5 :: 7 :: 4 :: 6 :: [], (by decide +kernel), fun S hle hfr => ?_⟩, ?_⟩
       · exact .inl ⟨.inl ⟨rfl, rfl⟩, st_cut_hi (f := byC) (fun _ => rfl) (hle.ev rfl (by nofun)) ⟨_, _, (hle.ev rfl (by nofun)), (Md.nn_eq g9)⟩ g10 (hle.d rfl)⟩
       refine ⟨⟨2 :: 9 :: 1 :: 3 :: 8 :: 5 :: 7 :: 4 :: 6 :: [], (by decide +kernel), fun S hle hfr => ?_⟩, ?_⟩
       · exact .inl ⟨.inl ⟨rfl, rfl⟩, st_slice_lit_z (el := lsEl c_LU8 [a0.Data, (a1.take (((min a0.Keep ((a1.length : Nat) : Int))).toNat))]) (map_ev2 (.cons (hle.ev rfl (by nofun)) (.cons (hle.ev rfl (by nofun)) (.nil)))) rfl rfl rfl rfl rfl rfl (lit_el c_LU8 1 [a0.Data, (a1.take (((min a0.Keep ((a1.length : Nat) : Int))).toNat))] (fun _ => rfl)) (hle.d rfl)⟩
       refine ⟨⟨10 :: 2 :: 9 :: 1 :: 3 :: 8 :: 5 :: 7 :: 4 :: 6 :: [], (by decide +kernel), fun S hle hfr => ?_⟩, ?_⟩
       · exact .inl ⟨.inl ⟨rfl, rfl⟩, st_call_z (slices_Concat_fn k [a0.Data, (a1.take (((min a0.Keep ((a1.length : Nat) : Int))).toNat))] x11 hx11) (map_ev (.cons (hle.ev rfl (by nofun)) (.nil))) [] (fun _ => (by repeat' (first | exact All2.nil | refine All2.cons ?_ ?_ | refine ArgV.one ?_ | refine ArgV.agg ?_ | exact ArgC.mk rfl | exact ArgC.lend (hle.heap _ _ rfl) (by simp) | exact ArgC.le (CLe.nil _) rfl | exact ArgC.le (CLe.emp _) rfl | exact ArgC.le (CLe.any _) rfl))) rfl (.inl rfl) (hle.d rfl)⟩
       exact trivial
      case hk1x => rfl
      case hf1x => rfl
      refine aops_step1 rfl (ev_call_v (disk_crash_fn k a0 x11 x12 hx12) rfl [] (by repeat' (first | exact All2.nil | refine All2.cons ?_ ?_ | refine ArgV.one ?_ | refine ArgV.agg ?_ | exact ArgC.mk rfl | exact ArgC.lend rfl (by simp) | exact ArgC.le (CLe.nil _) rfl | exact ArgC.le (CLe.emp _) rfl | exact ArgC.le (CLe.any _) rfl)) rfl rfl rfl (.inl rfl) rfl) ?_
      refine aops_step1 rfl (st_store (cs' := [_, _, _, _, _, _]) rfl rfl rfl rfl rfl rfl rfl rfl rfl) ?_
      refine aops_step1 rfl (st_assign rfl rfl) ?_
      refine aops_nil ?_
      cases Option.some.inj h
      refine aw_ret ⟨rfl, ret_v (.inr ⟨by decide, _, rfl, .cons (show resVar _ _ _ (AV.agg [_, _, _, _, _, _]) from ⟨_, _, _, _, _, rfl, rfl, TVar.h, rfl, rfl⟩) (.cons (show get _ _ = AV.one _ from rfl) (.nil)), by intro y hy vs e; subst e; simp at hy⟩) rfl rfl rfl ?_⟩
      (repeat' (first | exact TLe.refl _ | exact VLe.refl _ | exact CLe.refl _ | exact All2.nil | refine TLe.tup ?_ | refine TLe.v ?_ | refine All2.cons ?_ ?_ | refine VLe.agg ?_ | refine VLe.one ?_ | exact CLe.nil _ | exact CLe.emp _ | refine CLe.val ?_ | refine CLe.slc ?_ ?_))
    replace h := Md.cond_f h c8
    refine aw_skip ?_
    obtain ⟨x13, hx13, h⟩ := Md.bind_s h
    obtain ⟨x14, hx14, h⟩ := Md.bind_s h
    refine aw_seq ?_
    apply aw_draw 6 ((⟨[], .agg [CV.ls byC a0.Data, .val (.int .i64 a0.Capacity), .val (.bool a0.Armed), .val (.int .i64 a0.Writes), .val (.int .i64 a0.Keep), .val (.bool a0.Down)]⟩ : Add) :: ⟨[], .one (.ptr 0 _)⟩ :: ⟨[], .one (CV.ls byC a0.Data)⟩ :: ⟨[], .one (CV.ls byC a1)⟩ :: ⟨[], .one (CV.ls c_LU8 [a0.Data, a1])⟩ :: ⟨[], .one (CV.ls byC x13)⟩ :: []) (by decide) rfl ?hk2x ?hf2x ?ho2x ?hr2x
    case ho2x =>
     refine ⟨⟨[], (by decide +kernel), fun S hle hfr => ?_⟩, ?_⟩
     · exact .inl ⟨.inl ⟨rfl, rfl⟩, ev_loads (ds := [_, _, _, _, _, _]) (hle.ev rfl (by nofun)) (hle.heap _ _ rfl) rfl rfl (hle.d rfl)⟩
     refine ⟨⟨[], (by decide +kernel), fun S hle hfr => ?_⟩, ?_⟩
     · exact .inl ⟨.inl ⟨rfl, rfl⟩, ev_field (hle.ev rfl (by nofun)) rfl (hle.d rfl)⟩
     refine ⟨⟨1 :: [], (by decide +kernel), fun S hle hfr => ?_⟩, ?_⟩
     · exact .inl ⟨.inl ⟨rfl, rfl⟩, ev_load (hle.ev rfl (by nofun)) (hle.heap _ _ rfl) rfl (hle.d rfl)⟩
     refine ⟨⟨[], (by decide +kernel), fun S hle hfr => ?_⟩, ?_⟩
     · exact .inl ⟨.inl ⟨rfl, rfl⟩, st_move (hle.ev rfl (by nofun)) (hle.d rfl)⟩
     refine ⟨⟨2 :: 3 :: 1 :: [], (by decide +kernel), fun S hle hfr => ?_⟩, ?_⟩
     · exact .inl ⟨.inl ⟨rfl, rfl⟩, st_slice_lit_z (el := lsEl c_LU8 [a0.Data, a1]) (map_ev2 (.cons (hle.ev rfl (by nofun)) (.cons (hle.ev rfl (by nofun)) (.nil)))) rfl rfl rfl rfl rfl rfl (lit_el c_LU8 1 [a0.Data, a1] (fun _ => rfl)) (hle.d rfl)⟩
     refine ⟨⟨4 :: 2 :: 3 :: 1 :: [], (by decide +kernel), fun S hle hfr => ?_⟩, ?_⟩
     · exact .inl ⟨.inl ⟨rfl, rfl⟩, st_call_z (slices_Concat_fn k [a0.Data, a1] x13 hx13) (map_ev (.cons (hle.ev rfl (by nofun)) (.nil))) [] (fun _ => (by repeat' (first | exact All2.nil | refine All2.cons ?_ ?_ | refine ArgV.one ?_ | refine ArgV.agg ?_ | exact ArgC.mk rfl | exact ArgC.lend (hle.heap _ _ rfl) (by simp) | exact ArgC.le (CLe.nil _) rfl | exact ArgC.le (CLe.emp _) rfl | exact ArgC.le (CLe.any _) rfl))) rfl (.inl rfl) (hle.d rfl)⟩
     exact trivial
    case hk2x => rfl
    case hf2x => rfl
    refine aops_step1 rfl (ev_call_v (disk_written_fn k a0 x13 x14 hx14) rfl [] (by repeat' (first | exact All2.nil | refine All2.cons ?_ ?_ | refine ArgV.one ?_ | refine ArgV.agg ?_ | exact ArgC.mk rfl | exact ArgC.lend rfl (by simp) | exact ArgC.le (CLe.nil _) rfl | exact ArgC.le (CLe.emp _) rfl | exact ArgC.le (CLe.any _) rfl)) rfl rfl rfl (.inl rfl) rfl) ?_
    refine aops_step1 rfl (st_store (cs' := [_, _, _, _, _, _]) rfl rfl rfl rfl rfl rfl rfl rfl rfl) ?_
    refine aops_step1 rfl (st_assign rfl rfl) ?_
    refine aops_nil ?_
    cases Option.some.inj h
    refine aw_ret ⟨rfl, ret_v (.inr ⟨by decide, _, rfl, .cons (show resVar _ _ _ (AV.agg [_, _, _, _, _, _]) from ⟨_, _, _, _, _, rfl, rfl, TVar.h, rfl, rfl⟩) (.cons (show get _ _ = AV.one _ from rfl) (.nil)), by intro y hy vs e; subst e; simp at hy⟩) rfl rfl rfl ?_⟩
    (repeat' (first | exact TLe.refl _ | exact VLe.refl _ | exact CLe.refl _ | exact All2.nil | refine TLe.tup ?_ | refine TLe.v ?_ | refine All2.cons ?_ ?_ | refine VLe.agg ?_ | refine VLe.one ?_ | exact CLe.nil _ | exact CLe.emp _ | refine CLe.val ?_ | refine CLe.slc ?_ ?_))
  replace h := Md.cond_f h q7
  refine aw_seq ?_
  refine aw_region ?_
  refine aops_step1 rfl (ev_field rfl rfl rfl) ?_
  refine aops_step1 rfl (ev_load rfl rfl rfl rfl) ?_
  refine aops_step1 rfl (st_move rfl rfl) ?_
  refine aops_no rfl rfl rfl rfl rfl (by first | decide | (rw [q7]; decide)) ?_
  refine aops_no rfl rfl rfl rfl rfl (by first | decide | (rw [q7]; decide)) ?_
  refine aops_no rfl rfl rfl rfl rfl (by first | decide | (rw [q7]; decide)) ?_
  refine aops_step1 rfl (st_pick_no rfl (by first | rfl | exact q7) rfl rfl) ?_
  refine aops_step1 rfl (st_assign rfl rfl) ?_
  refine aops_nil ?_
  refine aw_no rfl (rfl) ?_
  refine aw_skip ?_
  obtain ⟨x15, hx15, h⟩ := Md.bind_s h
  obtain ⟨x16, hx16, h⟩ := Md.bind_s h
  refine aw_seq ?_
  apply aw_draw 6 ((⟨[], .agg [CV.ls byC a0.Data, .val (.int .i64 a0.Capacity), .val (.bool a0.Armed), .val (.int .i64 a0.Writes), .val (.int .i64 a0.Keep), .val (.bool a0.Down)]⟩ : Add) :: ⟨[], .one (.ptr 0 _)⟩ :: ⟨[], .one (CV.ls byC a0.Data)⟩ :: ⟨[], .one (CV.ls byC a1)⟩ :: ⟨[], .one (CV.ls c_LU8 [a0.Data, a1])⟩ :: ⟨[], .one (CV.ls byC x15)⟩ :: []) (by decide) rfl ?hk3x ?hf3x ?ho3x ?hr3x
  case ho3x =>
   refine ⟨⟨[], (by decide +kernel), fun S hle hfr => ?_⟩, ?_⟩
   · exact .inl ⟨.inl ⟨rfl, rfl⟩, ev_loads (ds := [_, _, _, _, _, _]) (hle.ev rfl (by nofun)) (hle.heap _ _ rfl) rfl rfl (hle.d rfl)⟩
   refine ⟨⟨[], (by decide +kernel), fun S hle hfr => ?_⟩, ?_⟩
   · exact .inl ⟨.inl ⟨rfl, rfl⟩, ev_field (hle.ev rfl (by nofun)) rfl (hle.d rfl)⟩
   refine ⟨⟨1 :: [], (by decide +kernel), fun S hle hfr => ?_⟩, ?_⟩
   · exact .inl ⟨.inl ⟨rfl, rfl⟩, ev_load (hle.ev rfl (by nofun)) (hle.heap _ _ rfl) rfl (hle.d rfl)⟩
   refine ⟨⟨[], (by decide +kernel), fun S hle hfr => ?_⟩, ?_⟩
   · exact .inl ⟨.inl ⟨rfl, rfl⟩, st_move (hle.ev rfl (by nofun)) (hle.d rfl)⟩
   refine ⟨⟨2 :: 3 :: 1 :: [], (by decide +kernel), fun S hle hfr => ?_⟩, ?_⟩
   · exact .inl ⟨.inl ⟨rfl, rfl⟩, st_slice_lit_z (el := lsEl c_LU8 [a0.Data, a1]) (map_ev2 (.cons (hle.ev rfl (by nofun)) (.cons (hle.ev rfl (by nofun)) (.nil)))) rfl rfl rfl rfl rfl rfl (lit_el c_LU8 1 [a0.Data, a1] (fun _ => rfl)) (hle.d rfl)⟩
   refine ⟨⟨4 :: 2 :: 3 :: 1 :: [], (by decide +kernel), fun S hle hfr => ?_⟩, ?_⟩
   · exact .inl ⟨.inl ⟨rfl, rfl⟩, st_call_z (slices_Concat_fn k [a0.Data, a1] x15 hx15) (map_ev (.cons (hle.ev rfl (by nofun)) (.nil))) [] (fun _ => (by repeat' (first | exact All2.nil | refine All2.cons ?_ ?_ | refine ArgV.one ?_ | refine ArgV.agg ?_ | exact ArgC.mk rfl | exact ArgC.lend (hle.heap _ _ rfl) (by simp) | exact ArgC.le (CLe.nil _) rfl | exact ArgC.le (CLe.emp _) rfl | exact ArgC.le (CLe.any _) rfl))) rfl (.inl rfl) (hle.d rfl)⟩
   exact trivial
  case hk3x => rfl
  case hf3x => rfl
  refine aops_step1 rfl (ev_call_v (disk_written_fn k a0 x15 x16 hx16) rfl [] (by repeat' (first | exact All2.nil | refine All2.cons ?_ ?_ | refine ArgV.one ?_ | refine ArgV.agg ?_ | exact ArgC.mk rfl | exact ArgC.lend rfl (by simp) | exact ArgC.le (CLe.nil _) rfl | exact ArgC.le (CLe.emp _) rfl | exact ArgC.le (CLe.any _) rfl)) rfl rfl rfl (.inl rfl) rfl) ?_
  refine aops_step1 rfl (st_store (cs' := [_, _, _, _, _, _]) rfl rfl rfl rfl rfl rfl rfl rfl rfl) ?_
  refine aops_step1 rfl (st_assign rfl rfl) ?_
  refine aops_nil ?_
  cases Option.some.inj h
  refine aw_ret ⟨rfl, ret_v (.inr ⟨by decide, _, rfl, .cons (show resVar _ _ _ (AV.agg [_, _, _, _, _, _]) from ⟨_, _, _, _, _, rfl, rfl, TVar.h, rfl, rfl⟩) (.cons (show get _ _ = AV.one _ from rfl) (.nil)), by intro y hy vs e; subst e; simp at hy⟩) rfl rfl rfl ?_⟩
  (repeat' (first | exact TLe.refl _ | exact VLe.refl _ | exact CLe.refl _ | exact All2.nil | refine TLe.tup ?_ | refine TLe.v ?_ | refine All2.cons ?_ ?_ | refine VLe.agg ?_ | refine VLe.one ?_ | exact CLe.nil _ | exact CLe.emp _ | refine CLe.val ?_ | refine CLe.slc ?_ ?_))
set_option maxHeartbeats 2000000 in
theorem disk_Truncate_fn (k : Nat) (a0 : Disk) (a1 : Int) (r : Disk × Int) (h : disk_Truncate k a0 a1 = some r) : FnC Try.prog 25 [.agg [CV.ls byC a0.Data, .val (.int .i64 a0.Capacity), .val (.bool a0.Armed), .val (.int .i64 a0.Writes), .val (.int .i64 a0.Keep), .val (.bool a0.Down)], .one (.val (.int .i64 a1))] [] (Det (.tup [.agg [CV.ls byC r.1.Data, .val (.int .i64 r.1.Capacity), .val (.bool r.1.Armed), .val (.int .i64 r.1.Writes), .val (.int .i64 r.1.Keep), .val (.bool r.1.Down)], .one (.val (.int .i64 r.2))]) []) := by
  unfold disk_Truncate at h
  refine fn_intro' 66 Try.func25 rfl rfl rfl ?_
  refine aw_seq ?_
  refine aw_region ?_
  refine aops_step1 rfl (st_box 0 rfl rfl rfl rfl) ?_
  refine aops_step1 rfl (st_alloc (cs := [.val (.slice none 0 0), .val (.int .i64 0), .val (.bool false), .val (.int .i64 0), .val (.int .i64 0), .val (.bool false)]) 1 rfl rfl rfl rfl rfl) ?_
  refine aops_step1 rfl (st_assign rfl rfl) ?_
  refine aops_nil ?_
  refine aw_seq ?_
  refine aw_block ?_
  obtain ⟨x1, hx1, h⟩ := Md.bind_s h
  refine aw_seq ?_
  refine aw_region ?_
  refine aops_step1 rfl (ev_loads (ds := [_, _, _, _, _, _]) rfl rfl rfl rfl rfl) ?_
  refine aops_step1 rfl (ev_call_v (disk_Valid_fn k a0 x1 hx1) rfl [] (by repeat' (first | exact All2.nil | refine All2.cons ?_ ?_ | refine ArgV.one ?_ | refine ArgV.agg ?_ | exact ArgC.mk rfl | exact ArgC.lend rfl (by simp) | exact ArgC.le (CLe.nil _) rfl | exact ArgC.le (CLe.emp _) rfl | exact ArgC.le (CLe.any _) rfl)) rfl rfl rfl (.inl rfl) rfl) ?_
  refine aops_step1 rfl (ev_not rfl rfl) ?_
  refine aops_step1 rfl (st_assign rfl rfl) ?_
  refine aops_nil ?_
  refine aw_cond rfl (fun c2 => ?_) (fun c2 => ?_)
  · replace h := Md.cond_t h c2
    refine aw_seq ?_
    refine aw_region ?_
    refine aops_step1 rfl (ev_build' (out := [_, _, _, _, _, _]) rfl rfl rfl rfl rfl) ?_
    refine aops_step1 rfl (st_store (cs' := [_, _, _, _, _, _]) rfl rfl rfl rfl rfl rfl rfl rfl rfl) ?_
    refine aops_step1 rfl (st_assign rfl rfl) ?_
    refine aops_nil ?_
    cases Option.some.inj h
    refine aw_ret ⟨rfl, ret_v (.inr ⟨by decide, _, rfl, .cons (show resVar _ _ _ (AV.agg [_, _, _, _, _, _]) from ⟨_, _, _, _, _, rfl, rfl, TVar.h, rfl, rfl⟩) (.cons (show get _ _ = AV.one _ from rfl) (.nil)), by intro y hy vs e; subst e; simp at hy⟩) rfl rfl rfl ?_⟩
    (repeat' (first | exact TLe.refl _ | exact VLe.refl _ | exact CLe.refl _ | exact All2.nil | refine TLe.tup ?_ | refine TLe.v ?_ | refine All2.cons ?_ ?_ | refine VLe.agg ?_ | refine VLe.one ?_ | exact CLe.nil _ | exact CLe.emp _ | refine CLe.val ?_ | refine CLe.slc ?_ ?_))
  replace h := Md.cond_f h c2
  refine aw_seq ?_
  refine aw_region ?_
  refine aops_step1 rfl (ev_field rfl rfl rfl) ?_
  refine aops_step1 rfl (ev_load rfl rfl rfl rfl) ?_
  refine aops_step1 rfl (st_assign rfl rfl) ?_
  refine aops_nil ?_
  refine aw_cond rfl (fun c3 => ?_) (fun c3 => ?_)
  · replace h := Md.cond_t h c3
    obtain ⟨x4, hx4, h⟩ := Md.bind_s h
    refine aw_seq ?_
    refine aw_region ?_
    refine aops_step1 rfl (ev_loads (ds := [_, _, _, _, _, _]) rfl rfl rfl rfl rfl) ?_
    refine aops_step1 rfl (ev_call_v (disk_clone_fn k a0 x4 hx4) rfl [] (by repeat' (first | exact All2.nil | refine All2.cons ?_ ?_ | refine ArgV.one ?_ | refine ArgV.agg ?_ | exact ArgC.mk rfl | exact ArgC.lend rfl (by simp) | exact ArgC.le (CLe.nil _) rfl | exact ArgC.le (CLe.emp _) rfl | exact ArgC.le (CLe.any _) rfl)) rfl rfl rfl (.inl rfl) rfl) ?_
    refine aops_step1 rfl (st_store (cs' := [_, _, _, _, _, _]) rfl rfl rfl rfl rfl rfl rfl rfl rfl) ?_
    refine aops_step1 rfl (st_assign rfl rfl) ?_
    refine aops_nil ?_
    cases Option.some.inj h
    refine aw_ret ⟨rfl, ret_v (.inr ⟨by decide, _, rfl, .cons (show resVar _ _ _ (AV.agg [_, _, _, _, _, _]) from ⟨_, _, _, _, _, rfl, rfl, TVar.h, rfl, rfl⟩) (.cons (show get _ _ = AV.one _ from rfl) (.nil)), by intro y hy vs e; subst e; simp at hy⟩) rfl rfl rfl ?_⟩
    (repeat' (first | exact TLe.refl _ | exact VLe.refl _ | exact CLe.refl _ | exact All2.nil | refine TLe.tup ?_ | refine TLe.v ?_ | refine All2.cons ?_ ?_ | refine VLe.agg ?_ | refine VLe.one ?_ | exact CLe.nil _ | exact CLe.emp _ | refine CLe.val ?_ | refine CLe.slc ?_ ?_))
  replace h := Md.cond_f h c3
  rcases Md.bool_or ((decide (a1 < 0))) with q5 | q5
  · replace h := Md.cond_t h q5
    refine aw_seq ?_
    refine aw_region ?_
    refine aops_step1 rfl (st_move rfl rfl) ?_
    refine aops_step1 rfl (ev_cmp rfl rfl rfl rfl) ?_
    refine aops_step1 rfl (st_move rfl rfl) ?_
    refine aops_no rfl rfl rfl rfl rfl (by first | decide | (rw [q5]; decide)) ?_
    refine aops_no rfl rfl rfl rfl rfl (by first | decide | (rw [q5]; decide)) ?_
    refine aops_no rfl rfl rfl rfl rfl (by first | decide | (rw [q5]; decide)) ?_
    refine aops_no rfl rfl rfl rfl rfl (by first | decide | (rw [q5]; decide)) ?_
    refine aops_no rfl rfl rfl rfl rfl (by first | decide | (rw [q5]; decide)) ?_
    refine aops_step1 rfl (st_pick_yes rfl (by first | rfl | exact q5) rfl rfl) ?_
    refine aops_step1 rfl (st_assign rfl rfl) ?_
    refine aops_nil ?_
    refine aw_yes rfl (rfl) ?_
    obtain ⟨x6, hx6, h⟩ := Md.bind_s h
    refine aw_seq ?_
    refine aw_region ?_
    refine aops_step1 rfl (ev_loads (ds := [_, _, _, _, _, _]) rfl rfl rfl rfl rfl) ?_
    refine aops_step1 rfl (ev_call_v (disk_clone_fn k a0 x6 hx6) rfl [] (by repeat' (first | exact All2.nil | refine All2.cons ?_ ?_ | refine ArgV.one ?_ | refine ArgV.agg ?_ | exact ArgC.mk rfl | exact ArgC.lend rfl (by simp) | exact ArgC.le (CLe.nil _) rfl | exact ArgC.le (CLe.emp _) rfl | exact ArgC.le (CLe.any _) rfl)) rfl rfl rfl (.inl rfl) rfl) ?_
    refine aops_step1 rfl (st_store (cs' := [_, _, _, _, _, _]) rfl rfl rfl rfl rfl rfl rfl rfl rfl) ?_
    refine aops_step1 rfl (st_assign rfl rfl) ?_
    refine aops_nil ?_
    cases Option.some.inj h
    refine aw_ret ⟨rfl, ret_v (.inr ⟨by decide, _, rfl, .cons (show resVar _ _ _ (AV.agg [_, _, _, _, _, _]) from ⟨_, _, _, _, _, rfl, rfl, TVar.h, rfl, rfl⟩) (.cons (show get _ _ = AV.one _ from rfl) (.nil)), by intro y hy vs e; subst e; simp at hy⟩) rfl rfl rfl ?_⟩
    (repeat' (first | exact TLe.refl _ | exact VLe.refl _ | exact CLe.refl _ | exact All2.nil | refine TLe.tup ?_ | refine TLe.v ?_ | refine All2.cons ?_ ?_ | refine VLe.agg ?_ | refine VLe.one ?_ | exact CLe.nil _ | exact CLe.emp _ | refine CLe.val ?_ | refine CLe.slc ?_ ?_))
  replace h := Md.cond_f h q5
  refine aw_seq ?_
  refine aw_region ?_
  refine aops_step1 rfl (st_move rfl rfl) ?_
  refine aops_step1 rfl (ev_cmp rfl rfl rfl rfl) ?_
  refine aops_step1 rfl (st_move rfl rfl) ?_
  refine aops_yes rfl rfl rfl rfl q5 (st_move rfl rfl) ?_
  refine aops_yes rfl rfl rfl rfl q5 (ev_field rfl rfl rfl) ?_
  refine aops_yes rfl rfl rfl rfl q5 (ev_load rfl rfl rfl rfl) ?_
  refine aops_yes rfl rfl rfl rfl q5 (ev_len_slc rfl rfl) ?_
  refine aops_yes rfl rfl rfl rfl q5 (ev_cmp rfl rfl rfl rfl) ?_
  refine aops_step1 rfl (st_pick_no rfl (by first | rfl | exact q5) rfl rfl) ?_
  refine aops_step1 rfl (st_assign rfl rfl) ?_
  refine aops_nil ?_
  refine aw_cond rfl (fun c7 => ?_) (fun c7 => ?_)
  · replace h := Md.cond_t h c7
    obtain ⟨x8, hx8, h⟩ := Md.bind_s h
    refine aw_seq ?_
    refine aw_region ?_
    refine aops_step1 rfl (ev_loads (ds := [_, _, _, _, _, _]) rfl rfl rfl rfl rfl) ?_
    refine aops_step1 rfl (ev_call_v (disk_clone_fn k a0 x8 hx8) rfl [] (by repeat' (first | exact All2.nil | refine All2.cons ?_ ?_ | refine ArgV.one ?_ | refine ArgV.agg ?_ | exact ArgC.mk rfl | exact ArgC.lend rfl (by simp) | exact ArgC.le (CLe.nil _) rfl | exact ArgC.le (CLe.emp _) rfl | exact ArgC.le (CLe.any _) rfl)) rfl rfl rfl (.inl rfl) rfl) ?_
    refine aops_step1 rfl (st_store (cs' := [_, _, _, _, _, _]) rfl rfl rfl rfl rfl rfl rfl rfl rfl) ?_
    refine aops_step1 rfl (st_assign rfl rfl) ?_
    refine aops_nil ?_
    cases Option.some.inj h
    refine aw_ret ⟨rfl, ret_v (.inr ⟨by decide, _, rfl, .cons (show resVar _ _ _ (AV.agg [_, _, _, _, _, _]) from ⟨_, _, _, _, _, rfl, rfl, TVar.h, rfl, rfl⟩) (.cons (show get _ _ = AV.one _ from rfl) (.nil)), by intro y hy vs e; subst e; simp at hy⟩) rfl rfl rfl ?_⟩
    (repeat' (first | exact TLe.refl _ | exact VLe.refl _ | exact CLe.refl _ | exact All2.nil | refine TLe.tup ?_ | refine TLe.v ?_ | refine All2.cons ?_ ?_ | refine VLe.agg ?_ | refine VLe.one ?_ | exact CLe.nil _ | exact CLe.emp _ | refine CLe.val ?_ | refine CLe.slc ?_ ?_))
  replace h := Md.cond_f h c7
  rcases Md.bool_or (a0.Armed) with q9 | q9
  · replace h := Md.cond_t h q9
    rcases Md.bool_or ((a0.Writes == 0)) with q10 | q10
    · replace h := Md.cond_t h q10
      refine aw_seq ?_
      refine aw_region ?_
      refine aops_step1 rfl (ev_field rfl rfl rfl) ?_
      refine aops_step1 rfl (ev_load rfl rfl rfl rfl) ?_
      refine aops_step1 rfl (st_move rfl rfl) ?_
      refine aops_yes rfl rfl rfl rfl q9 (ev_field rfl rfl rfl) ?_
      refine aops_yes rfl rfl rfl rfl q9 (ev_load rfl rfl rfl rfl) ?_
      refine aops_yes rfl rfl rfl rfl q9 (ev_cmp rfl rfl rfl rfl) ?_
      refine aops_step1 rfl (st_pick_yes rfl (by first | rfl | exact q9) rfl rfl) ?_
      refine aops_step1 rfl (st_move rfl rfl) ?_
      refine aops_yes rfl rfl rfl rfl q10 (ev_field rfl rfl rfl) ?_
      refine aops_yes rfl rfl rfl rfl q10 (ev_load rfl rfl rfl rfl) ?_
      refine aops_yes rfl rfl rfl rfl q10 (ev_cmp rfl rfl rfl rfl) ?_
      refine aops_step1 rfl (st_pick_yes rfl (by first | rfl | exact q10) rfl rfl) ?_
      refine aops_step1 rfl (st_assign rfl rfl) ?_
      refine aops_nil ?_
      refine aw_cond rfl (fun c11 => ?_) (fun c11 => ?_)
      · replace h := Md.cond_t h c11
        obtain ⟨g12, h⟩ := Md.ifp_s h
        obtain ⟨g13, h⟩ := Md.ifp_s h
        obtain ⟨x14, hx14, h⟩ := Md.bind_s h
        refine aw_seq ?_
        apply aw_draw 5 ((⟨[], .agg [CV.ls byC a0.Data, .val (.int .i64 a0.Capacity), .val (.bool a0.Armed), .val (.int .i64 a0.Writes), .val (.int .i64 a0.Keep), .val (.bool a0.Down)]⟩ : Add) :: ⟨[], .one (.ptr 0 _)⟩ :: ⟨[], .one (CV.ls byC a0.Data)⟩ :: ⟨[], .one (.val (.int .i64 a1))⟩ :: ⟨[], .one (CV.ls byC (a0.Data.take ((a1).toNat)))⟩ :: []) (by decide) rfl ?hk1x ?hf1x ?ho1x ?hr1x
        case ho1x =>
         refine ⟨⟨[], (by decide +kernel), fun S hle hfr => ?_⟩, ?_⟩
         · exact .inl ⟨.inl ⟨rfl, rfl⟩, ev_loads (ds := [_, _, _, _, _, _]) (hle.ev rfl (by nofun)) (hle.heap _ _ rfl) rfl rfl (hle.d rfl)⟩
         refine ⟨⟨[], (by decide +kernel), fun S hle hfr => ?_⟩, ?_⟩
         · exact .inl ⟨.inl ⟨rfl, rfl⟩, ev_field (hle.ev rfl (by nofun)) rfl (hle.d rfl)⟩
         refine ⟨⟨1 :: [], (by decide +kernel), fun S hle hfr => ?_⟩, ?_⟩
         · exact .inl ⟨.inl ⟨rfl, rfl⟩, ev_load (hle.ev rfl (by nofun)) (hle.heap _ _ rfl) rfl (hle.d rfl)⟩
         refine ⟨⟨[], (by decide +kernel), fun S hle hfr => ?_⟩, ?_⟩
         · exact .inl ⟨.inl ⟨rfl, rfl⟩, st_move (hle.ev rfl (by nofun)) (hle.d rfl)⟩
         refine ⟨⟨2 :: 3 :: 1 :: [], (by decide +kernel), fun S hle hfr => ?_⟩, ?_⟩
         · exact .inl ⟨.inl ⟨rfl, rfl⟩, st_cut_hi (f := byC) (fun _ => rfl) (hle.ev rfl (by nofun)) ⟨_, _, (hle.ev rfl (by nofun)), (Md.nn_eq g12)⟩ g13 (hle.d rfl)⟩
         exact trivial
        case hk1x => rfl
        case hf1x => rfl
        refine aops_step1 rfl (ev_call_v (disk_crash_fn k a0 (a0.Data.take ((a1).toNat)) x14 hx14) rfl [] (by repeat' (first | exact All2.nil | refine All2.cons ?_ ?_ | refine ArgV.one ?_ | refine ArgV.agg ?_ | exact ArgC.mk rfl | exact ArgC.lend rfl (by simp) | exact ArgC.le (CLe.nil _) rfl | exact ArgC.le (CLe.emp _) rfl | exact ArgC.le (CLe.any _) rfl)) rfl rfl rfl (.inl rfl) rfl) ?_
        refine aops_step1 rfl (st_store (cs' := [_, _, _, _, _, _]) rfl rfl rfl rfl rfl rfl rfl rfl rfl) ?_
        refine aops_step1 rfl (st_assign rfl rfl) ?_
        refine aops_nil ?_
        cases Option.some.inj h
        refine aw_ret ⟨rfl, ret_v (.inr ⟨by decide, _, rfl, .cons (show resVar _ _ _ (AV.agg [_, _, _, _, _, _]) from ⟨_, _, _, _, _, rfl, rfl, TVar.h, rfl, rfl⟩) (.cons (show get _ _ = AV.one _ from rfl) (.nil)), by intro y hy vs e; subst e; simp at hy⟩) rfl rfl rfl ?_⟩
        (repeat' (first | exact TLe.refl _ | exact VLe.refl _ | exact CLe.refl _ | exact All2.nil | refine TLe.tup ?_ | refine TLe.v ?_ | refine All2.cons ?_ ?_ | refine VLe.agg ?_ | refine VLe.one ?_ | exact CLe.nil _ | exact CLe.emp _ | refine CLe.val ?_ | refine CLe.slc ?_ ?_))
      replace h := Md.cond_f h c11
      refine aw_seq ?_
      refine aw_region ?_
      refine aops_step1 rfl (ev_field rfl rfl rfl) ?_
      refine aops_step1 rfl (ev_load rfl rfl rfl rfl) ?_
      refine aops_step1 rfl (st_move rfl rfl) ?_
      refine aops_yes rfl rfl rfl rfl q9 (ev_field rfl rfl rfl) ?_
      refine aops_yes rfl rfl rfl rfl q9 (ev_load rfl rfl rfl rfl) ?_
      refine aops_yes rfl rfl rfl rfl q9 (ev_cmp rfl rfl rfl rfl) ?_
      refine aops_step1 rfl (st_pick_yes rfl (by first | rfl | exact q9) rfl rfl) ?_
      refine aops_step1 rfl (st_assign rfl rfl) ?_
      refine aops_nil ?_
      refine aw_yes rfl (q10) ?_
      obtain ⟨x15, hx15, h⟩ := Md.bind_s h
      refine aw_seq ?_
      refine aw_region ?_
      refine aops_step1 rfl (ev_loads (ds := [_, _, _, _, _, _]) rfl rfl rfl rfl rfl) ?_
      refine aops_step1 rfl (ev_field rfl rfl rfl) ?_
      refine aops_step1 rfl (ev_load rfl rfl rfl rfl) ?_
      refine aops_step1 rfl (ev_call_v (disk_crash_fn k a0 a0.Data x15 hx15) rfl [] (by repeat' (first | exact All2.nil | refine All2.cons ?_ ?_ | refine ArgV.one ?_ | refine ArgV.agg ?_ | exact ArgC.mk rfl | exact ArgC.lend rfl (by simp) | exact ArgC.le (CLe.nil _) rfl | exact ArgC.le (CLe.emp _) rfl | exact ArgC.le (CLe.any _) rfl)) rfl rfl rfl (.inl rfl) rfl) ?_
      refine aops_step1 rfl (st_store (cs' := [_, _, _, _, _, _]) rfl rfl rfl rfl rfl rfl rfl rfl rfl) ?_
      refine aops_step1 rfl (st_assign rfl rfl) ?_
      refine aops_nil ?_
      cases Option.some.inj h
      refine aw_ret ⟨rfl, ret_v (.inr ⟨by decide, _, rfl, .cons (show resVar _ _ _ (AV.agg [_, _, _, _, _, _]) from ⟨_, _, _, _, _, rfl, rfl, TVar.h, rfl, rfl⟩) (.cons (show get _ _ = AV.one _ from rfl) (.nil)), by intro y hy vs e; subst e; simp at hy⟩) rfl rfl rfl ?_⟩
      (repeat' (first | exact TLe.refl _ | exact VLe.refl _ | exact CLe.refl _ | exact All2.nil | refine TLe.tup ?_ | refine TLe.v ?_ | refine All2.cons ?_ ?_ | refine VLe.agg ?_ | refine VLe.one ?_ | exact CLe.nil _ | exact CLe.emp _ | refine CLe.val ?_ | refine CLe.slc ?_ ?_))
    replace h := Md.cond_f h q10
    refine aw_seq ?_
    refine aw_region ?_
    refine aops_step1 rfl (ev_field rfl rfl rfl) ?_
    refine aops_step1 rfl (ev_load rfl rfl rfl rfl) ?_
    refine aops_step1 rfl (st_move rfl rfl) ?_
    refine aops_yes rfl rfl rfl rfl q9 (ev_field rfl rfl rfl) ?_
    refine aops_yes rfl rfl rfl rfl q9 (ev_load rfl rfl rfl rfl) ?_
    refine aops_yes rfl rfl rfl rfl q9 (ev_cmp rfl rfl rfl rfl) ?_
    refine aops_step1 rfl (st_pick_yes rfl (by first | rfl | exact q9) rfl rfl) ?_
    refine aops_step1 rfl (st_move rfl rfl) ?_
    refine aops_no rfl rfl rfl rfl rfl (by first | decide | (rw [q10]; decide)) ?_
    refine aops_no rfl rfl rfl rfl rfl (by first | decide | (rw [q10]; decide)) ?_
    refine aops_no rfl rfl rfl rfl rfl (by first | decide | (rw [q10]; decide)) ?_
    refine aops_step1 rfl (st_pick_no rfl (by first | rfl | exact q10) rfl rfl) ?_
    refine aops_step1 rfl (st_assign rfl rfl) ?_
    refine aops_nil ?_
    refine aw_no rfl (rfl) ?_
    refine aw_seq ?_
    refine aw_region ?_
    refine aops_step1 rfl (ev_field rfl rfl rfl) ?_
    refine aops_step1 rfl (ev_load rfl rfl rfl rfl) ?_
    refine aops_step1 rfl (st_move rfl rfl) ?_
    refine aops_yes rfl rfl rfl rfl q9 (ev_field rfl rfl rfl) ?_
    refine aops_yes rfl rfl rfl rfl q9 (ev_load rfl rfl rfl rfl) ?_
    refine aops_yes rfl rfl rfl rfl q9 (ev_cmp rfl rfl rfl rfl) ?_
    refine aops_step1 rfl (st_pick_yes rfl (by first | rfl | exact q9) rfl rfl) ?_
    refine aops_step1 rfl (st_assign rfl rfl) ?_
    refine aops_nil ?_
    refine aw_no rfl (q10) ?_
    refine aw_skip ?_
    obtain ⟨g16, h⟩ := Md.ifp_s h
    obtain ⟨g17, h⟩ := Md.ifp_s h
    obtain ⟨g18, h⟩ := Md.ifp_s h
    obtain ⟨x19, hx19, h⟩ := Md.bind_s h
    refine aw_seq ?_
    apply aw_draw 6 ((⟨[], .agg [CV.ls byC a0.Data, .val (.int .i64 a0.Capacity), .val (.bool a0.Armed), .val (.int .i64 a0.Writes), .val (.int .i64 a0.Keep), .val (.bool a0.Down)]⟩ : Add) :: ⟨[], .one (.ptr 0 _)⟩ :: ⟨[], .one (CV.ls byC a0.Data)⟩ :: ⟨[], .one (.val (.int .i64 a1))⟩ :: ⟨[], .one (CV.ls byC (a0.Data.take ((a1).toNat)))⟩ :: ⟨[], .one (CV.ls byC (a0.Data.take ((a1).toNat)))⟩ :: []) (by decide) rfl ?hk2x ?hf2x ?ho2x ?hr2x
    case ho2x =>
     refine ⟨⟨[], (by decide +kernel), fun S hle hfr => ?_⟩, ?_⟩
     · exact .inl ⟨.inl ⟨rfl, rfl⟩, ev_loads (ds := [_, _, _, _, _, _]) (hle.ev rfl (by nofun)) (hle.heap _ _ rfl) rfl rfl (hle.d rfl)⟩
     refine ⟨⟨[], (by decide +kernel), fun S hle hfr => ?_⟩, ?_⟩
     · exact .inl ⟨.inl ⟨rfl, rfl⟩, ev_field (hle.ev rfl (by nofun)) rfl (hle.d rfl)⟩
     refine ⟨⟨1 :: [], (by decide +kernel), fun S hle hfr => ?_⟩, ?_⟩
     · exact .inl ⟨.inl ⟨rfl, rfl⟩, ev_load (hle.ev rfl (by nofun)) (hle.heap _ _ rfl) rfl (hle.d rfl)⟩
     refine ⟨⟨[], (by decide +kernel), fun S hle hfr => ?_⟩, ?_⟩
     · exact .inl ⟨.inl ⟨rfl, rfl⟩, st_move (hle.ev rfl (by nofun)) (hle.d rfl)⟩
     refine ⟨⟨2 :: 3 :: 1 :: [], (by decide +kernel), fun S hle hfr => ?_⟩, ?_⟩
     · exact .inl ⟨.inl ⟨rfl, rfl⟩, st_cut_hi (f := byC) (fun _ => rfl) (hle.ev rfl (by nofun)) ⟨_, _, (hle.ev rfl (by nofun)), (Md.nn_eq g16)⟩ g17 (hle.d rfl)⟩
     refine ⟨⟨4 :: 2 :: 3 :: 1 :: [], (by decide +kernel), fun S hle hfr => ?_⟩, ?_⟩
     · exact .inl ⟨.inl ⟨rfl, rfl⟩, st_app_nil_z (f := byC) (a0.Data.take ((a1).toNat)) (fun _ => rfl) (hle.ev rfl (by nofun)) (.inl (hle.ev rfl (by nofun))) (by omega) (by omega) (hle.d rfl)⟩
     exact trivial
    case hk2x => rfl
    case hf2x => rfl
    refine aops_step1 rfl (ev_call_v (disk_written_fn k a0 (a0.Data.take ((a1).toNat)) x19 hx19) rfl [] (by repeat' (first | exact All2.nil | refine All2.cons ?_ ?_ | refine ArgV.one ?_ | refine ArgV.agg ?_ | exact ArgC.mk rfl | exact ArgC.lend rfl (by simp) | exact ArgC.le (CLe.nil _) rfl | exact ArgC.le (CLe.emp _) rfl | exact ArgC.le (CLe.any _) rfl)) rfl rfl rfl (.inl rfl) rfl) ?_
    refine aops_step1 rfl (st_store (cs' := [_, _, _, _, _, _]) rfl rfl rfl rfl rfl rfl rfl rfl rfl) ?_
    refine aops_step1 rfl (st_assign rfl rfl) ?_
    refine aops_nil ?_
    cases Option.some.inj h
    refine aw_ret ⟨rfl, ret_v (.inr ⟨by decide, _, rfl, .cons (show resVar _ _ _ (AV.agg [_, _, _, _, _, _]) from ⟨_, _, _, _, _, rfl, rfl, TVar.h, rfl, rfl⟩) (.cons (show get _ _ = AV.one _ from rfl) (.nil)), by intro y hy vs e; subst e; simp at hy⟩) rfl rfl rfl ?_⟩
    (repeat' (first | exact TLe.refl _ | exact VLe.refl _ | exact CLe.refl _ | exact All2.nil | refine TLe.tup ?_ | refine TLe.v ?_ | refine All2.cons ?_ ?_ | refine VLe.agg ?_ | refine VLe.one ?_ | exact CLe.nil _ | exact CLe.emp _ | refine CLe.val ?_ | refine CLe.slc ?_ ?_))
  replace h := Md.cond_f h q9
  refine aw_seq ?_
  refine aw_region ?_
  refine aops_step1 rfl (ev_field rfl rfl rfl) ?_
  refine aops_step1 rfl (ev_load rfl rfl rfl rfl) ?_
  refine aops_step1 rfl (st_move rfl rfl) ?_
  refine aops_no rfl rfl rfl rfl rfl (by first | decide | (rw [q9]; decide)) ?_
  refine aops_no rfl rfl rfl rfl rfl (by first | decide | (rw [q9]; decide)) ?_
  refine aops_no rfl rfl rfl rfl rfl (by first | decide | (rw [q9]; decide)) ?_
  refine aops_step1 rfl (st_pick_no rfl (by first | rfl | exact q9) rfl rfl) ?_
  refine aops_step1 rfl (st_move rfl rfl) ?_
  refine aops_no rfl rfl rfl rfl rfl (by decide) ?_
  refine aops_no rfl rfl rfl rfl rfl (by decide) ?_
  refine aops_no rfl rfl rfl rfl rfl (by decide) ?_
  refine aops_step1 rfl (st_pick_no rfl (by first | rfl | exact rfl) rfl rfl) ?_
  refine aops_step1 rfl (st_assign rfl rfl) ?_
  refine aops_nil ?_
  refine aw_no rfl (rfl) ?_
  refine aw_seq ?_
  refine aw_region ?_
  refine aops_step1 rfl (ev_field rfl rfl rfl) ?_
  refine aops_step1 rfl (ev_load rfl rfl rfl rfl) ?_
  refine aops_step1 rfl (st_move rfl rfl) ?_
  refine aops_no rfl rfl rfl rfl rfl (by first | decide | (rw [q9]; decide)) ?_
  refine aops_no rfl rfl rfl rfl rfl (by first | decide | (rw [q9]; decide)) ?_
  refine aops_no rfl rfl rfl rfl rfl (by first | decide | (rw [q9]; decide)) ?_
  refine aops_step1 rfl (st_pick_no rfl (by first | rfl | exact q9) rfl rfl) ?_
  refine aops_step1 rfl (st_assign rfl rfl) ?_
  refine aops_nil ?_
  refine aw_no rfl (rfl) ?_
  refine aw_skip ?_
  obtain ⟨g20, h⟩ := Md.ifp_s h
  obtain ⟨g21, h⟩ := Md.ifp_s h
  obtain ⟨g22, h⟩ := Md.ifp_s h
  obtain ⟨x23, hx23, h⟩ := Md.bind_s h
  refine aw_seq ?_
  apply aw_draw 6 ((⟨[], .agg [CV.ls byC a0.Data, .val (.int .i64 a0.Capacity), .val (.bool a0.Armed), .val (.int .i64 a0.Writes), .val (.int .i64 a0.Keep), .val (.bool a0.Down)]⟩ : Add) :: ⟨[], .one (.ptr 0 _)⟩ :: ⟨[], .one (CV.ls byC a0.Data)⟩ :: ⟨[], .one (.val (.int .i64 a1))⟩ :: ⟨[], .one (CV.ls byC (a0.Data.take ((a1).toNat)))⟩ :: ⟨[], .one (CV.ls byC (a0.Data.take ((a1).toNat)))⟩ :: []) (by decide) rfl ?hk3x ?hf3x ?ho3x ?hr3x
  case ho3x =>
   refine ⟨⟨[], (by decide +kernel), fun S hle hfr => ?_⟩, ?_⟩
   · exact .inl ⟨.inl ⟨rfl, rfl⟩, ev_loads (ds := [_, _, _, _, _, _]) (hle.ev rfl (by nofun)) (hle.heap _ _ rfl) rfl rfl (hle.d rfl)⟩
   refine ⟨⟨[], (by decide +kernel), fun S hle hfr => ?_⟩, ?_⟩
   · exact .inl ⟨.inl ⟨rfl, rfl⟩, ev_field (hle.ev rfl (by nofun)) rfl (hle.d rfl)⟩
   refine ⟨⟨1 :: [], (by decide +kernel), fun S hle hfr => ?_⟩, ?_⟩
   · exact .inl ⟨.inl ⟨rfl, rfl⟩, ev_load (hle.ev rfl (by nofun)) (hle.heap _ _ rfl) rfl (hle.d rfl)⟩
   refine ⟨⟨[], (by decide +kernel), fun S hle hfr => ?_⟩, ?_⟩
   · exact .inl ⟨.inl ⟨rfl, rfl⟩, st_move (hle.ev rfl (by nofun)) (hle.d rfl)⟩
   refine ⟨⟨2 :: 3 :: 1 :: [], (by decide +kernel), fun S hle hfr => ?_⟩, ?_⟩
   · exact .inl ⟨.inl ⟨rfl, rfl⟩, st_cut_hi (f := byC) (fun _ => rfl) (hle.ev rfl (by nofun)) ⟨_, _, (hle.ev rfl (by nofun)), (Md.nn_eq g20)⟩ g21 (hle.d rfl)⟩
   refine ⟨⟨4 :: 2 :: 3 :: 1 :: [], (by decide +kernel), fun S hle hfr => ?_⟩, ?_⟩
   · exact .inl ⟨.inl ⟨rfl, rfl⟩, st_app_nil_z (f := byC) (a0.Data.take ((a1).toNat)) (fun _ => rfl) (hle.ev rfl (by nofun)) (.inl (hle.ev rfl (by nofun))) (by omega) (by omega) (hle.d rfl)⟩
   exact trivial
  case hk3x => rfl
  case hf3x => rfl
  refine aops_step1 rfl (ev_call_v (disk_written_fn k a0 (a0.Data.take ((a1).toNat)) x23 hx23) rfl [] (by repeat' (first | exact All2.nil | refine All2.cons ?_ ?_ | refine ArgV.one ?_ | refine ArgV.agg ?_ | exact ArgC.mk rfl | exact ArgC.lend rfl (by simp) | exact ArgC.le (CLe.nil _) rfl | exact ArgC.le (CLe.emp _) rfl | exact ArgC.le (CLe.any _) rfl)) rfl rfl rfl (.inl rfl) rfl) ?_
  refine aops_step1 rfl (st_store (cs' := [_, _, _, _, _, _]) rfl rfl rfl rfl rfl rfl rfl rfl rfl) ?_
  refine aops_step1 rfl (st_assign rfl rfl) ?_
  refine aops_nil ?_
  cases Option.some.inj h
  refine aw_ret ⟨rfl, ret_v (.inr ⟨by decide, _, rfl, .cons (show resVar _ _ _ (AV.agg [_, _, _, _, _, _]) from ⟨_, _, _, _, _, rfl, rfl, TVar.h, rfl, rfl⟩) (.cons (show get _ _ = AV.one _ from rfl) (.nil)), by intro y hy vs e; subst e; simp at hy⟩) rfl rfl rfl ?_⟩
  (repeat' (first | exact TLe.refl _ | exact VLe.refl _ | exact CLe.refl _ | exact All2.nil | refine TLe.tup ?_ | refine TLe.v ?_ | refine All2.cons ?_ ?_ | refine VLe.agg ?_ | refine VLe.one ?_ | exact CLe.nil _ | exact CLe.emp _ | refine CLe.val ?_ | refine CLe.slc ?_ ?_))
set_option maxHeartbeats 2000000 in
theorem disk_Read_fn (k : Nat) (a0 : Disk) (r : (List UInt8) × Int) (h : disk_Read k a0 = some r) : FnC Try.prog 20 [.agg [CV.ls byC a0.Data, .val (.int .i64 a0.Capacity), .val (.bool a0.Armed), .val (.int .i64 a0.Writes), .val (.int .i64 a0.Keep), .val (.bool a0.Down)]] [] (Det (.tup [.one (CV.ls byC r.1), .one (.val (.int .i64 r.2))]) []) := by
  unfold disk_Read at h
  refine fn_intro' 14 Try.func20 rfl rfl rfl ?_
  refine aw_seq ?_
  refine aw_region ?_
  refine aops_step1 rfl (st_box 0 rfl rfl rfl rfl) ?_
  refine aops_step1 rfl (st_assign rfl rfl) ?_
  refine aops_step1 rfl (st_assign rfl rfl) ?_
  refine aops_nil ?_
  refine aw_seq ?_
  refine aw_block ?_
  obtain ⟨x1, hx1, h⟩ := Md.bind_s h
  refine aw_seq ?_
  refine aw_region ?_
  refine aops_step1 rfl (ev_loads (ds := [_, _, _, _, _, _]) rfl rfl rfl rfl rfl) ?_
  refine aops_step1 rfl (ev_call_v (disk_Valid_fn k a0 x1 hx1) rfl [] (by repeat' (first | exact All2.nil | refine All2.cons ?_ ?_ | refine ArgV.one ?_ | refine ArgV.agg ?_ | exact ArgC.mk rfl | exact ArgC.lend rfl (by simp) | exact ArgC.le (CLe.nil _) rfl | exact ArgC.le (CLe.emp _) rfl | exact ArgC.le (CLe.any _) rfl)) rfl rfl rfl (.inl rfl) rfl) ?_
  refine aops_step1 rfl (ev_not rfl rfl) ?_
  refine aops_step1 rfl (st_assign rfl rfl) ?_
  refine aops_nil ?_
  refine aw_cond rfl (fun c2 => ?_) (fun c2 => ?_)
  · replace h := Md.cond_t h c2
    refine aw_seq ?_
    refine aw_region ?_
    refine aops_step1 rfl (st_assign rfl rfl) ?_
    refine aops_step1 rfl (st_assign rfl rfl) ?_
    refine aops_nil ?_
    cases Option.some.inj h
    refine aw_ret ⟨rfl, ret_v (.inr ⟨by decide, _, rfl, .cons (show get _ _ = AV.one _ from rfl) (.cons (show get _ _ = AV.one _ from rfl) (.nil)), by intro y hy vs e; subst e; simp at hy⟩) rfl rfl rfl ?_⟩
    (repeat' (first | exact TLe.refl _ | exact VLe.refl _ | exact CLe.refl _ | exact All2.nil | refine TLe.tup ?_ | refine TLe.v ?_ | refine All2.cons ?_ ?_ | refine VLe.agg ?_ | refine VLe.one ?_ | exact CLe.nil _ | exact CLe.emp _ | refine CLe.val ?_ | refine CLe.slc ?_ ?_))
  replace h := Md.cond_f h c2
  refine aw_seq ?_
  refine aw_region ?_
  refine aops_step1 rfl (ev_field rfl rfl rfl) ?_
  refine aops_step1 rfl (ev_load rfl rfl rfl rfl) ?_
  refine aops_step1 rfl (st_assign rfl rfl) ?_
  refine aops_nil ?_
  refine aw_cond rfl (fun c3 => ?_) (fun c3 => ?_)
  · replace h := Md.cond_t h c3
    refine aw_seq ?_
    refine aw_region ?_
    refine aops_step1 rfl (st_assign rfl rfl) ?_
    refine aops_step1 rfl (st_assign rfl rfl) ?_
    refine aops_nil ?_
    cases Option.some.inj h
    refine aw_ret ⟨rfl, ret_v (.inr ⟨by decide, _, rfl, .cons (show get _ _ = AV.one _ from rfl) (.cons (show get _ _ = AV.one _ from rfl) (.nil)), by intro y hy vs e; subst e; simp at hy⟩) rfl rfl rfl ?_⟩
    (repeat' (first | exact TLe.refl _ | exact VLe.refl _ | exact CLe.refl _ | exact All2.nil | refine TLe.tup ?_ | refine TLe.v ?_ | refine All2.cons ?_ ?_ | refine VLe.agg ?_ | refine VLe.one ?_ | exact CLe.nil _ | exact CLe.emp _ | refine CLe.val ?_ | refine CLe.slc ?_ ?_))
  replace h := Md.cond_f h c3
  refine aw_skip ?_
  obtain ⟨g4, h⟩ := Md.ifp_s h
  refine aw_seq ?_
  refine aw_region ?_
  refine aops_step1 rfl (ev_field rfl rfl rfl) ?_
  refine aops_step1 rfl (ev_load rfl rfl rfl rfl) ?_
  refine aops_step1 rfl (st_app_nil_ls (f := byC) 1 a0.Data (fun _ => rfl) rfl rfl (.inl rfl) (by omega) (by omega) rfl) ?_
  refine aops_step1 rfl (st_assign rfl rfl) ?_
  refine aops_step1 rfl (st_assign rfl rfl) ?_
  refine aops_nil ?_
  cases Option.some.inj h
  refine aw_freeze 1 rfl ?_
  refine aw_ret ⟨rfl, ret_v (.inr ⟨by decide, _, rfl, .cons (show get _ _ = AV.one _ from rfl) (.cons (show get _ _ = AV.one _ from rfl) (.nil)), by intro y hy vs e; subst e; simp at hy⟩) rfl rfl rfl ?_⟩
  (repeat' (first | exact TLe.refl _ | exact VLe.refl _ | exact CLe.refl _ | exact All2.nil | refine TLe.tup ?_ | refine TLe.v ?_ | refine All2.cons ?_ ?_ | refine VLe.agg ?_ | refine VLe.one ?_ | exact CLe.nil _ | exact CLe.emp _ | refine CLe.val ?_ | refine CLe.slc ?_ ?_))
set_option maxHeartbeats 2000000 in
theorem disk_Arm_fn (k : Nat) (a0 : Disk) (a1 : Int) (a2 : Int) (r : Disk × Int) (h : disk_Arm k a0 a1 a2 = some r) : FnC Try.prog 17 [.agg [CV.ls byC a0.Data, .val (.int .i64 a0.Capacity), .val (.bool a0.Armed), .val (.int .i64 a0.Writes), .val (.int .i64 a0.Keep), .val (.bool a0.Down)], .one (.val (.int .i64 a1)), .one (.val (.int .i64 a2))] [] (Det (.tup [.agg [CV.ls byC r.1.Data, .val (.int .i64 r.1.Capacity), .val (.bool r.1.Armed), .val (.int .i64 r.1.Writes), .val (.int .i64 r.1.Keep), .val (.bool r.1.Down)], .one (.val (.int .i64 r.2))]) []) := by
  unfold disk_Arm at h
  refine fn_intro' 33 Try.func17 rfl rfl rfl ?_
  refine aw_seq ?_
  refine aw_region ?_
  refine aops_step1 rfl (st_box 0 rfl rfl rfl rfl) ?_
  refine aops_step1 rfl (st_alloc (cs := [.val (.slice none 0 0), .val (.int .i64 0), .val (.bool false), .val (.int .i64 0), .val (.int .i64 0), .val (.bool false)]) 1 rfl rfl rfl rfl rfl) ?_
  refine aops_step1 rfl (st_assign rfl rfl) ?_
  refine aops_nil ?_
  refine aw_seq ?_
  refine aw_block ?_
  obtain ⟨x1, hx1, h⟩ := Md.bind_s h
  rcases Md.bool_or ((!x1)) with q2 | q2
  · replace h := Md.cond_t h q2
    refine aw_seq ?_
    refine aw_region ?_
    refine aops_step1 rfl (ev_loads (ds := [_, _, _, _, _, _]) rfl rfl rfl rfl rfl) ?_
    refine aops_step1 rfl (ev_call_v (disk_Valid_fn k a0 x1 hx1) rfl [] (by repeat' (first | exact All2.nil | refine All2.cons ?_ ?_ | refine ArgV.one ?_ | refine ArgV.agg ?_ | exact ArgC.mk rfl | exact ArgC.lend rfl (by simp) | exact ArgC.le (CLe.nil _) rfl | exact ArgC.le (CLe.emp _) rfl | exact ArgC.le (CLe.any _) rfl)) rfl rfl rfl (.inl rfl) rfl) ?_
    refine aops_step1 rfl (ev_not rfl rfl) ?_
    refine aops_step1 rfl (st_move rfl rfl) ?_
    refine aops_no rfl rfl rfl rfl rfl (by first | decide | (rw [q2]; decide)) ?_
    refine aops_no rfl rfl rfl rfl rfl (by first | decide | (rw [q2]; decide)) ?_
    refine aops_step1 rfl (st_pick_yes rfl (by first | rfl | exact q2) rfl rfl) ?_
    refine aops_step1 rfl (st_move rfl rfl) ?_
    refine aops_no rfl rfl rfl rfl rfl (by decide) ?_
    refine aops_no rfl rfl rfl rfl rfl (by decide) ?_
    refine aops_step1 rfl (st_pick_yes rfl (by first | rfl | exact rfl) rfl rfl) ?_
    refine aops_step1 rfl (st_assign rfl rfl) ?_
    refine aops_nil ?_
    refine aw_yes rfl (rfl) ?_
    refine aw_seq ?_
    refine aw_region ?_
    refine aops_step1 rfl (ev_build' (out := [_, _, _, _, _, _]) rfl rfl rfl rfl rfl) ?_
    refine aops_step1 rfl (st_store (cs' := [_, _, _, _, _, _]) rfl rfl rfl rfl rfl rfl rfl rfl rfl) ?_
    refine aops_step1 rfl (st_assign rfl rfl) ?_
    refine aops_nil ?_
    cases Option.some.inj h
    refine aw_ret ⟨rfl, ret_v (.inr ⟨by decide, _, rfl, .cons (show resVar _ _ _ (AV.agg [_, _, _, _, _, _]) from ⟨_, _, _, _, _, rfl, rfl, TVar.h, rfl, rfl⟩) (.cons (show get _ _ = AV.one _ from rfl) (.nil)), by intro y hy vs e; subst e; simp at hy⟩) rfl rfl rfl ?_⟩
    (repeat' (first | exact TLe.refl _ | exact VLe.refl _ | exact CLe.refl _ | exact All2.nil | refine TLe.tup ?_ | refine TLe.v ?_ | refine All2.cons ?_ ?_ | refine VLe.agg ?_ | refine VLe.one ?_ | exact CLe.nil _ | exact CLe.emp _ | refine CLe.val ?_ | refine CLe.slc ?_ ?_))
  replace h := Md.cond_f h q2
  rcases Md.bool_or ((decide (a1 < 0))) with q3 | q3
  · replace h := Md.cond_t h q3
    refine aw_seq ?_
    refine aw_region ?_
    refine aops_step1 rfl (ev_loads (ds := [_, _, _, _, _, _]) rfl rfl rfl rfl rfl) ?_
    refine aops_step1 rfl (ev_call_v (disk_Valid_fn k a0 x1 hx1) rfl [] (by repeat' (first | exact All2.nil | refine All2.cons ?_ ?_ | refine ArgV.one ?_ | refine ArgV.agg ?_ | exact ArgC.mk rfl | exact ArgC.lend rfl (by simp) | exact ArgC.le (CLe.nil _) rfl | exact ArgC.le (CLe.emp _) rfl | exact ArgC.le (CLe.any _) rfl)) rfl rfl rfl (.inl rfl) rfl) ?_
    refine aops_step1 rfl (ev_not rfl rfl) ?_
    refine aops_step1 rfl (st_move rfl rfl) ?_
    refine aops_yes rfl rfl rfl rfl q2 (st_move rfl rfl) ?_
    refine aops_yes rfl rfl rfl rfl q2 (ev_cmp rfl rfl rfl rfl) ?_
    refine aops_step1 rfl (st_pick_no rfl (by first | rfl | exact q2) rfl rfl) ?_
    refine aops_step1 rfl (st_move rfl rfl) ?_
    refine aops_no rfl rfl rfl rfl rfl (by first | decide | (rw [q3]; decide)) ?_
    refine aops_no rfl rfl rfl rfl rfl (by first | decide | (rw [q3]; decide)) ?_
    refine aops_step1 rfl (st_pick_yes rfl (by first | rfl | exact q3) rfl rfl) ?_
    refine aops_step1 rfl (st_assign rfl rfl) ?_
    refine aops_nil ?_
    refine aw_yes rfl (rfl) ?_
    refine aw_seq ?_
    refine aw_region ?_
    refine aops_step1 rfl (ev_build' (out := [_, _, _, _, _, _]) rfl rfl rfl rfl rfl) ?_
    refine aops_step1 rfl (st_store (cs' := [_, _, _, _, _, _]) rfl rfl rfl rfl rfl rfl rfl rfl rfl) ?_
    refine aops_step1 rfl (st_assign rfl rfl) ?_
    refine aops_nil ?_
    cases Option.some.inj h
    refine aw_ret ⟨rfl, ret_v (.inr ⟨by decide, _, rfl, .cons (show resVar _ _ _ (AV.agg [_, _, _, _, _, _]) from ⟨_, _, _, _, _, rfl, rfl, TVar.h, rfl, rfl⟩) (.cons (show get _ _ = AV.one _ from rfl) (.nil)), by intro y hy vs e; subst e; simp at hy⟩) rfl rfl rfl ?_⟩
    (repeat' (first | exact TLe.refl _ | exact VLe.refl _ | exact CLe.refl _ | exact All2.nil | refine TLe.tup ?_ | refine TLe.v ?_ | refine All2.cons ?_ ?_ | refine VLe.agg ?_ | refine VLe.one ?_ | exact CLe.nil _ | exact CLe.emp _ | refine CLe.val ?_ | refine CLe.slc ?_ ?_))
  replace h := Md.cond_f h q3
  refine aw_seq ?_
  refine aw_region ?_
  refine aops_step1 rfl (ev_loads (ds := [_, _, _, _, _, _]) rfl rfl rfl rfl rfl) ?_
  refine aops_step1 rfl (ev_call_v (disk_Valid_fn k a0 x1 hx1) rfl [] (by repeat' (first | exact All2.nil | refine All2.cons ?_ ?_ | refine ArgV.one ?_ | refine ArgV.agg ?_ | exact ArgC.mk rfl | exact ArgC.lend rfl (by simp) | exact ArgC.le (CLe.nil _) rfl | exact ArgC.le (CLe.emp _) rfl | exact ArgC.le (CLe.any _) rfl)) rfl rfl rfl (.inl rfl) rfl) ?_
  refine aops_step1 rfl (ev_not rfl rfl) ?_
  refine aops_step1 rfl (st_move rfl rfl) ?_
  refine aops_yes rfl rfl rfl rfl q2 (st_move rfl rfl) ?_
  refine aops_yes rfl rfl rfl rfl q2 (ev_cmp rfl rfl rfl rfl) ?_
  refine aops_step1 rfl (st_pick_no rfl (by first | rfl | exact q2) rfl rfl) ?_
  refine aops_step1 rfl (st_move rfl rfl) ?_
  refine aops_yes rfl rfl rfl rfl q3 (st_move rfl rfl) ?_
  refine aops_yes rfl rfl rfl rfl q3 (ev_cmp rfl rfl rfl rfl) ?_
  refine aops_step1 rfl (st_pick_no rfl (by first | rfl | exact q3) rfl rfl) ?_
  refine aops_step1 rfl (st_assign rfl rfl) ?_
  refine aops_nil ?_
  refine aw_cond rfl (fun c4 => ?_) (fun c4 => ?_)
  · replace h := Md.cond_t h c4
    refine aw_seq ?_
    refine aw_region ?_
    refine aops_step1 rfl (ev_build' (out := [_, _, _, _, _, _]) rfl rfl rfl rfl rfl) ?_
    refine aops_step1 rfl (st_store (cs' := [_, _, _, _, _, _]) rfl rfl rfl rfl rfl rfl rfl rfl rfl) ?_
    refine aops_step1 rfl (st_assign rfl rfl) ?_
    refine aops_nil ?_
    cases Option.some.inj h
    refine aw_ret ⟨rfl, ret_v (.inr ⟨by decide, _, rfl, .cons (show resVar _ _ _ (AV.agg [_, _, _, _, _, _]) from ⟨_, _, _, _, _, rfl, rfl, TVar.h, rfl, rfl⟩) (.cons (show get _ _ = AV.one _ from rfl) (.nil)), by intro y hy vs e; subst e; simp at hy⟩) rfl rfl rfl ?_⟩
    (repeat' (first | exact TLe.refl _ | exact VLe.refl _ | exact CLe.refl _ | exact All2.nil | refine TLe.tup ?_ | refine TLe.v ?_ | refine All2.cons ?_ ?_ | refine VLe.agg ?_ | refine VLe.one ?_ | exact CLe.nil _ | exact CLe.emp _ | refine CLe.val ?_ | refine CLe.slc ?_ ?_))
  replace h := Md.cond_f h c4
  refine aw_seq ?_
  refine aw_region ?_
  refine aops_step1 rfl (ev_field rfl rfl rfl) ?_
  refine aops_step1 rfl (ev_load rfl rfl rfl rfl) ?_
  refine aops_step1 rfl (st_assign rfl rfl) ?_
  refine aops_nil ?_
  refine aw_cond rfl (fun c5 => ?_) (fun c5 => ?_)
  · replace h := Md.cond_t h c5
    refine aw_seq ?_
    refine aw_region ?_
    refine aops_step1 rfl (ev_build' (out := [_, _, _, _, _, _]) rfl rfl rfl rfl rfl) ?_
    refine aops_step1 rfl (st_store (cs' := [_, _, _, _, _, _]) rfl rfl rfl rfl rfl rfl rfl rfl rfl) ?_
    refine aops_step1 rfl (st_assign rfl rfl) ?_
    refine aops_nil ?_
    cases Option.some.inj h
    refine aw_ret ⟨rfl, ret_v (.inr ⟨by decide, _, rfl, .cons (show resVar _ _ _ (AV.agg [_, _, _, _, _, _]) from ⟨_, _, _, _, _, rfl, rfl, TVar.h, rfl, rfl⟩) (.cons (show get _ _ = AV.one _ from rfl) (.nil)), by intro y hy vs e; subst e; simp at hy⟩) rfl rfl rfl ?_⟩
    (repeat' (first | exact TLe.refl _ | exact VLe.refl _ | exact CLe.refl _ | exact All2.nil | refine TLe.tup ?_ | refine TLe.v ?_ | refine All2.cons ?_ ?_ | refine VLe.agg ?_ | refine VLe.one ?_ | exact CLe.nil _ | exact CLe.emp _ | refine CLe.val ?_ | refine CLe.slc ?_ ?_))
  replace h := Md.cond_f h c5
  refine aw_skip ?_
  obtain ⟨x6, hx6, h⟩ := Md.bind_s h
  refine aw_seq ?_
  refine aw_region ?_
  refine aops_step1 rfl (ev_loads (ds := [_, _, _, _, _, _]) rfl rfl rfl rfl rfl) ?_
  refine aops_step1 rfl (ev_call_v (disk_clone_fn k a0 x6 hx6) rfl [] (by repeat' (first | exact All2.nil | refine All2.cons ?_ ?_ | refine ArgV.one ?_ | refine ArgV.agg ?_ | exact ArgC.mk rfl | exact ArgC.lend rfl (by simp) | exact ArgC.le (CLe.nil _) rfl | exact ArgC.le (CLe.emp _) rfl | exact ArgC.le (CLe.any _) rfl)) rfl rfl rfl (.inl rfl) rfl) ?_
  refine aops_step1 rfl (st_store (cs' := [_, _, _, _, _, _]) rfl rfl rfl rfl rfl rfl rfl rfl rfl) ?_
  refine aops_nil ?_
  refine aw_seq ?_
  refine aw_region ?_
  refine aops_step1 rfl (st_move rfl rfl) ?_
  refine aops_step1 rfl (st_move rfl rfl) ?_
  refine aops_step1 rfl (ev_field rfl rfl rfl) ?_
  refine aops_step1 rfl (st_store (cs' := [_, _, _, _, _, _]) rfl rfl rfl rfl rfl rfl rfl rfl rfl) ?_
  refine aops_step1 rfl (ev_field rfl rfl rfl) ?_
  refine aops_step1 rfl (st_store (cs' := [_, _, _, _, _, _]) rfl rfl rfl rfl rfl rfl rfl rfl rfl) ?_
  refine aops_step1 rfl (ev_field rfl rfl rfl) ?_
  refine aops_step1 rfl (st_store (cs' := [_, _, _, _, _, _]) rfl rfl rfl rfl rfl rfl rfl rfl rfl) ?_
  refine aops_nil ?_
  refine aw_seq ?_
  refine aw_region ?_
  refine aops_step1 rfl (ev_loads (ds := [_, _, _, _, _, _]) rfl rfl rfl rfl rfl) ?_
  refine aops_step1 rfl (st_store (cs' := [_, _, _, _, _, _]) rfl rfl rfl rfl rfl rfl rfl rfl rfl) ?_
  refine aops_step1 rfl (st_assign rfl rfl) ?_
  refine aops_nil ?_
  cases Option.some.inj h
  refine aw_ret ⟨rfl, ret_v (.inr ⟨by decide, _, rfl, .cons (show resVar _ _ _ (AV.agg [_, _, _, _, _, _]) from ⟨_, _, _, _, _, rfl, rfl, TVar.h, rfl, rfl⟩) (.cons (show get _ _ = AV.one _ from rfl) (.nil)), by intro y hy vs e; subst e; simp at hy⟩) rfl rfl rfl ?_⟩
  (repeat' (first | exact TLe.refl _ | exact VLe.refl _ | exact CLe.refl _ | exact All2.nil | refine TLe.tup ?_ | refine TLe.v ?_ | refine All2.cons ?_ ?_ | refine VLe.agg ?_ | refine VLe.one ?_ | exact CLe.nil _ | exact CLe.emp _ | refine CLe.val ?_ | refine CLe.slc ?_ ?_))
set_option maxHeartbeats 2000000 in
theorem disk_Restart_fn (k : Nat) (a0 : Disk) (r : Disk × Int) (h : disk_Restart k a0 = some r) : FnC Try.prog 19 [.agg [CV.ls byC a0.Data, .val (.int .i64 a0.Capacity), .val (.bool a0.Armed), .val (.int .i64 a0.Writes), .val (.int .i64 a0.Keep), .val (.bool a0.Down)]] [] (Det (.tup [.agg [CV.ls byC r.1.Data, .val (.int .i64 r.1.Capacity), .val (.bool r.1.Armed), .val (.int .i64 r.1.Writes), .val (.int .i64 r.1.Keep), .val (.bool r.1.Down)], .one (.val (.int .i64 r.2))]) []) := by
  unfold disk_Restart at h
  refine fn_intro' 14 Try.func19 rfl rfl rfl ?_
  refine aw_seq ?_
  refine aw_region ?_
  refine aops_step1 rfl (st_box 0 rfl rfl rfl rfl) ?_
  refine aops_step1 rfl (st_alloc (cs := [.val (.slice none 0 0), .val (.int .i64 0), .val (.bool false), .val (.int .i64 0), .val (.int .i64 0), .val (.bool false)]) 1 rfl rfl rfl rfl rfl) ?_
  refine aops_step1 rfl (st_assign rfl rfl) ?_
  refine aops_nil ?_
  refine aw_seq ?_
  obtain ⟨x1, hx1, h⟩ := Md.bind_s h
  refine aw_seq ?_
  refine aw_region ?_
  refine aops_step1 rfl (ev_loads (ds := [_, _, _, _, _, _]) rfl rfl rfl rfl rfl) ?_
  refine aops_step1 rfl (ev_call_v (disk_Valid_fn k a0 x1 hx1) rfl [] (by repeat' (first | exact All2.nil | refine All2.cons ?_ ?_ | refine ArgV.one ?_ | refine ArgV.agg ?_ | exact ArgC.mk rfl | exact ArgC.lend rfl (by simp) | exact ArgC.le (CLe.nil _) rfl | exact ArgC.le (CLe.emp _) rfl | exact ArgC.le (CLe.any _) rfl)) rfl rfl rfl (.inl rfl) rfl) ?_
  refine aops_step1 rfl (ev_not rfl rfl) ?_
  refine aops_nil ?_
  refine aw_cond rfl (fun c2 => ?_) (fun c2 => ?_)
  · replace h := Md.cond_t h c2
    refine aw_seq ?_
    refine aw_region ?_
    refine aops_step1 rfl (ev_build' (out := [_, _, _, _, _, _]) rfl rfl rfl rfl rfl) ?_
    refine aops_step1 rfl (st_store (cs' := [_, _, _, _, _, _]) rfl rfl rfl rfl rfl rfl rfl rfl rfl) ?_
    refine aops_step1 rfl (st_assign rfl rfl) ?_
    refine aops_nil ?_
    cases Option.some.inj h
    refine aw_ret ⟨rfl, ret_v (.inr ⟨by decide, _, rfl, .cons (show resVar _ _ _ (AV.agg [_, _, _, _, _, _]) from ⟨_, _, _, _, _, rfl, rfl, TVar.h, rfl, rfl⟩) (.cons (show get _ _ = AV.one _ from rfl) (.nil)), by intro y hy vs e; subst e; simp at hy⟩) rfl rfl rfl ?_⟩
    (repeat' (first | exact TLe.refl _ | exact VLe.refl _ | exact CLe.refl _ | exact All2.nil | refine TLe.tup ?_ | refine TLe.v ?_ | refine All2.cons ?_ ?_ | refine VLe.agg ?_ | refine VLe.one ?_ | exact CLe.nil _ | exact CLe.emp _ | refine CLe.val ?_ | refine CLe.slc ?_ ?_))
  replace h := Md.cond_f h c2
  refine aw_skip ?_
  obtain ⟨g3, h⟩ := Md.ifp_s h
  refine aw_seq ?_
  apply aw_draw 5 ((⟨[], .one (.ptr 0 _)⟩ : Add) :: ⟨[], .one (CV.ls byC a0.Data)⟩ :: ⟨[], .one (CV.ls byC a0.Data)⟩ :: ⟨[], .one (.ptr 0 _)⟩ :: ⟨[], .one (.val (.int .i64 a0.Capacity))⟩ :: []) (by decide) rfl ?hk1x ?hf1x ?ho1x ?hr1x
  case ho1x =>
   refine ⟨⟨[], (by decide +kernel), fun S hle hfr => ?_⟩, ?_⟩
   · exact .inl ⟨.inl ⟨rfl, rfl⟩, ev_field (hle.ev rfl (by nofun)) rfl (hle.d rfl)⟩
   refine ⟨⟨0 :: [], (by decide +kernel), fun S hle hfr => ?_⟩, ?_⟩
   · exact .inl ⟨.inl ⟨rfl, rfl⟩, ev_load (hle.ev rfl (by nofun)) (hle.heap _ _ rfl) rfl (hle.d rfl)⟩
   refine ⟨⟨1 :: 0 :: [], (by decide +kernel), fun S hle hfr => ?_⟩, ?_⟩
   · exact .inl ⟨.inl ⟨rfl, rfl⟩, st_app_nil_z (f := byC) a0.Data (fun _ => rfl) (hle.ev rfl (by nofun)) (.inl (hle.ev rfl (by nofun))) (by omega) (by omega) (hle.d rfl)⟩
   refine ⟨⟨[], (by decide +kernel), fun S hle hfr => ?_⟩, ?_⟩
   · exact .inl ⟨.inl ⟨rfl, rfl⟩, ev_field (hle.ev rfl (by nofun)) rfl (hle.d rfl)⟩
   refine ⟨⟨3 :: [], (by decide +kernel), fun S hle hfr => ?_⟩, ?_⟩
   · exact .inl ⟨.inl ⟨rfl, rfl⟩, ev_load (hle.ev rfl (by nofun)) (hle.heap _ _ rfl) rfl (hle.d rfl)⟩
   exact trivial
  case hk1x => rfl
  case hf1x => rfl
  refine aops_step1 rfl (ev_build' (out := [_, _, _, _, _, _]) rfl rfl rfl rfl rfl) ?_
  refine aops_step1 rfl (st_store (cs' := [_, _, _, _, _, _]) rfl rfl rfl rfl rfl rfl rfl rfl rfl) ?_
  refine aops_step1 rfl (st_assign rfl rfl) ?_
  refine aops_nil ?_
  cases Option.some.inj h
  refine aw_ret ⟨rfl, ret_v (.inr ⟨by decide, _, rfl, .cons (show resVar _ _ _ (AV.agg [_, _, _, _, _, _]) from ⟨_, _, _, _, _, rfl, rfl, TVar.h, rfl, rfl⟩) (.cons (show get _ _ = AV.one _ from rfl) (.nil)), by intro y hy vs e; subst e; simp at hy⟩) rfl rfl rfl ?_⟩
  (repeat' (first | exact TLe.refl _ | exact VLe.refl _ | exact CLe.refl _ | exact All2.nil | refine TLe.tup ?_ | refine TLe.v ?_ | refine All2.cons ?_ ?_ | refine VLe.agg ?_ | refine VLe.one ?_ | exact CLe.nil _ | exact CLe.emp _ | refine CLe.val ?_ | refine CLe.slc ?_ ?_))
end Md
end Go.Proofs.Ytkcfkcgclljncaa
