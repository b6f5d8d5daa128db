/-
  WlValues: where a function's model gives a value, the function returns what reads as it (printed by wip/tools/auto.py). Condition of each: the model gives a value.
-/
import Derived.Test.YtbnjdkpangmneaaWlValuesM
import Derived.Test.YtbnjdkpangmneaaWireL
namespace Go.Proofs.Ytbnjdkpangmneaa
open Go.ChangeShapes Go.WideShapes Go.RowKit
open Abs
set_option linter.unusedVariables false
set_option linter.unusedSimpArgs false
set_option maxRecDepth 10000
namespace Md
set_option maxHeartbeats 2000000 in
theorem actorgridlaw1_WireValues_fn (k : Nat) (a0 : List UInt8) (a1 : Value) (a2 : Value) (r : Bool) (h : actorgridlaw1_WireValues k a0 a1 a2 = some r) : FnC Try.prog 11 [.one (CV.ls byC a0), .agg [.val (.int .i64 a1.Kind), .val (.int .i64 a1.N), .val (Sv a1.S), CV.ls c_Int a1.I, CV.ls c_Str a1.L], .agg [.val (.int .i64 a2.Kind), .val (.int .i64 a2.N), .val (Sv a2.S), CV.ls c_Int a2.I, CV.ls c_Str a2.L]] [] (Det (.one (.val (.bool r))) []) := by
  unfold actorgridlaw1_WireValues at h
  refine fn_intro' 92 Try.func11 rfl rfl rfl ?_
  refine aw_seq ?_
  refine aw_region ?_
  refine aops_step1 rfl (st_box 0 rfl rfl rfl rfl) ?_
  refine aops_step1 rfl (st_box 1 rfl rfl rfl rfl) ?_
  refine aops_step1 rfl (st_assign rfl rfl) ?_
  refine aops_nil ?_
  refine aw_seq ?_
  refine aw_seq ?_
  refine aw_region ?_
  obtain ⟨x1, hx1, h⟩ := Md.bind_s h
  refine aops_step1 rfl (ev_call_v (actorgridlaw1_awake_fn k x1 hx1) rfl [] (by repeat' (first | exact All2.nil | refine All2.cons ?_ ?_ | refine ArgV.one ?_ | refine ArgV.agg ?_ | exact ArgC.mk rfl | exact ArgC.lend rfl (by simp) | exact ArgC.le (CLe.nil _) rfl | exact ArgC.le (CLe.emp _) rfl | exact ArgC.le (CLe.any _) rfl)) rfl rfl rfl (.inl rfl) rfl) ?_
  refine aops_step1 rfl (ev_not rfl rfl) ?_
  refine aops_nil ?_
  refine aw_cond rfl (fun c2 => ?_) (fun c2 => ?_)
  · replace h := Md.cond_t h c2
    refine aw_seq ?_
    refine aw_region ?_
    refine aops_step1 rfl (st_assign rfl rfl) ?_
    refine aops_nil ?_
    cases Option.some.inj h
    refine aw_ret ⟨rfl, ret_v (.inl ⟨_, rfl, rfl, fun _ e => nomatch e⟩) rfl rfl rfl ?_⟩
    (repeat' (first | exact TLe.refl _ | exact VLe.refl _ | exact CLe.refl _ | exact All2.nil | refine TLe.tup ?_ | refine TLe.v ?_ | refine All2.cons ?_ ?_ | refine VLe.agg ?_ | refine VLe.one ?_ | exact CLe.nil _ | exact CLe.emp _ | refine CLe.val ?_ | refine CLe.slc ?_ ?_))
  replace h := Md.cond_f h c2
  refine aw_skip ?_
  refine aw_seq ?_
  refine aw_seq ?_
  refine aw_region ?_
  refine aops_step1 rfl (st_move rfl rfl) ?_
  refine aops_step1 rfl (ev_len_slc rfl rfl) ?_
  refine aops_step1 rfl (ev_cmp rfl rfl rfl rfl) ?_
  refine aops_step1 rfl (st_move rfl rfl) ?_
  obtain ⟨o3, j3, h⟩ := Md.bind_s h
  refine aops_cut 4 (ε := Bool) (fun x3 => (⟨92, [], [(0, .one (CV.ls byC a0)), (4, .one (.ptr 0 0)), (5, .one (.ptr 1 0)), (22, .one (.val (.bool x3)))], [(0, some (.box [.val (.int .i64 a1.Kind), .val (.int .i64 a1.N), .val (Sv a1.S), CV.ls c_Int a1.I, CV.ls c_Str a1.L])), (1, some (.box [.val (.int .i64 a2.Kind), .val (.int .i64 a2.N), .val (Sv a2.S), CV.ls c_Int a2.I, CV.ls c_Str a2.L]))]⟩ : ASt)) (fun x3 => x3 = o3) ?_ ?_
  · intro x3 hI3
    subst hI3
    change AOps _ _ _ (⟨92, [], [(0, .one (CV.ls byC a0)), (4, .one (.ptr 0 0)), (5, .one (.ptr 1 0)), (22, .one (.val (.bool x3)))], [(0, some (.box [.val (.int .i64 a1.Kind), .val (.int .i64 a1.N), .val (Sv a1.S), CV.ls c_Int a1.I, CV.ls c_Str a1.L])), (1, some (.box [.val (.int .i64 a2.Kind), .val (.int .i64 a2.N), .val (Sv a2.S), CV.ls c_Int a2.I, CV.ls c_Str a2.L]))]⟩ : ASt) _
    refine aops_step1 rfl (st_move rfl rfl) ?_
    obtain ⟨o4, j4, h⟩ := Md.bind_s h
    refine aops_cut 4 (ε := Bool) (fun x4 => (⟨92, [], [(0, .one (CV.ls byC a0)), (4, .one (.ptr 0 0)), (5, .one (.ptr 1 0)), (27, .one (.val (.bool x4)))], [(0, some (.box [.val (.int .i64 a1.Kind), .val (.int .i64 a1.N), .val (Sv a1.S), CV.ls c_Int a1.I, CV.ls c_Str a1.L])), (1, some (.box [.val (.int .i64 a2.Kind), .val (.int .i64 a2.N), .val (Sv a2.S), CV.ls c_Int a2.I, CV.ls c_Str a2.L]))]⟩ : ASt)) (fun x4 => x4 = o4) ?_ ?_
    · intro x4 hI4
      subst hI4
      change AOps _ _ _ (⟨92, [], [(0, .one (CV.ls byC a0)), (4, .one (.ptr 0 0)), (5, .one (.ptr 1 0)), (27, .one (.val (.bool x4)))], [(0, some (.box [.val (.int .i64 a1.Kind), .val (.int .i64 a1.N), .val (Sv a1.S), CV.ls c_Int a1.I, CV.ls c_Str a1.L])), (1, some (.box [.val (.int .i64 a2.Kind), .val (.int .i64 a2.N), .val (Sv a2.S), CV.ls c_Int a2.I, CV.ls c_Str a2.L]))]⟩ : ASt) _
      refine aops_nil ?_
      refine aw_cond rfl (fun c5 => ?_) (fun c5 => ?_)
      · replace h := Md.cond_t h c5
        refine aw_seq ?_
        refine aw_region ?_
        refine aops_step1 rfl (st_assign rfl rfl) ?_
        refine aops_nil ?_
        cases Option.some.inj h
        refine aw_ret ⟨rfl, ret_v (.inl ⟨_, rfl, rfl, fun _ e => nomatch e⟩) rfl rfl rfl ?_⟩
        (repeat' (first | exact TLe.refl _ | exact VLe.refl _ | exact CLe.refl _ | exact All2.nil | refine TLe.tup ?_ | refine TLe.v ?_ | refine All2.cons ?_ ?_ | refine VLe.agg ?_ | refine VLe.one ?_ | exact CLe.nil _ | exact CLe.emp _ | refine CLe.val ?_ | refine CLe.slc ?_ ?_))
      replace h := Md.cond_f h c5
      refine aw_skip ?_
      refine aw_seq ?_
      refine aw_region ?_
      refine aops_step1 rfl (st_move rfl rfl) ?_
      obtain ⟨x6, hx6, h⟩ := Md.bind_s h
      refine aops_step1 rfl (ev_call_v (wire_Value_fn k a0 x6 hx6) rfl [] (by repeat' (first | exact All2.nil | refine All2.cons ?_ ?_ | refine ArgV.one ?_ | refine ArgV.agg ?_ | exact ArgC.mk rfl | exact ArgC.lend rfl (by simp) | exact ArgC.le (CLe.nil _) rfl | exact ArgC.le (CLe.emp _) rfl | exact ArgC.le (CLe.any _) rfl)) rfl rfl rfl (.inl rfl) rfl) ?_
      refine aops_step1 rfl (st_movet rfl rfl) ?_
      refine aops_step1 rfl (ev_extract rfl rfl rfl) ?_
      refine aops_step1 rfl (ev_extract rfl rfl rfl) ?_
      refine aops_step1 rfl (ev_extract rfl rfl rfl) ?_
      refine aops_step1 rfl (st_alloc (cs := [.val (.int .i64 0), .val (.int .i64 0), .val (Sv []), .val (.slice none 0 0), .val (.slice none 0 0)]) 2 rfl rfl rfl rfl rfl) ?_
      refine aops_step1 rfl (st_store (cs' := [_, _, _, _, _]) rfl rfl rfl rfl rfl rfl rfl rfl rfl) ?_
      refine aops_step1 rfl (st_assign rfl rfl) ?_
      refine aops_step1 rfl (st_assign rfl rfl) ?_
      refine aops_nil ?_
      refine aw_seq ?_
      refine aw_region ?_
      refine aops_step1 rfl (st_move rfl rfl) ?_
      obtain ⟨x7, hx7, h⟩ := Md.bind_s h
      refine aops_step1 rfl (ev_call_v (actorgridref1_ReadValue_fn k a0 x7 hx7) rfl [] (by repeat' (first | exact All2.nil | refine All2.cons ?_ ?_ | refine ArgV.one ?_ | refine ArgV.agg ?_ | exact ArgC.mk rfl | exact ArgC.lend rfl (by simp) | exact ArgC.le (CLe.nil _) rfl | exact ArgC.le (CLe.emp _) rfl | exact ArgC.le (CLe.any _) rfl)) rfl rfl rfl (.inl rfl) rfl) ?_
      refine aops_step1 rfl (st_movet rfl rfl) ?_
      refine aops_step1 rfl (ev_extract rfl rfl rfl) ?_
      refine aops_step1 rfl (ev_extract rfl rfl rfl) ?_
      refine aops_step1 rfl (ev_extract rfl rfl rfl) ?_
      refine aops_step1 rfl (st_alloc (cs := [.val (.int .i64 0), .val (.int .i64 0), .val (Sv []), .val (.slice none 0 0), .val (.slice none 0 0)]) 3 rfl rfl rfl rfl rfl) ?_
      refine aops_step1 rfl (st_store (cs' := [_, _, _, _, _]) rfl rfl rfl rfl rfl rfl rfl rfl rfl) ?_
      refine aops_step1 rfl (st_assign rfl rfl) ?_
      refine aops_step1 rfl (st_assign rfl rfl) ?_
      refine aops_nil ?_
      refine aw_seq ?_
      obtain ⟨x8, hx8, h⟩ := Md.bind_s h
      rcases Md.bool_or ((!x8)) with q9 | q9
      · replace h := Md.cond_t h q9
        refine aw_seq ?_
        apply aw_draw 33 ((⟨[], .agg [.val (.int .i64 x6.1.Kind), .val (.int .i64 x6.1.N), .val (Sv x6.1.S), CV.ls c_Int x6.1.I, CV.ls c_Str x6.1.L]⟩ : Add) :: ⟨[], .agg [.val (.int .i64 x7.1.Kind), .val (.int .i64 x7.1.N), .val (Sv x7.1.S), CV.ls c_Int x7.1.I, CV.ls c_Str x7.1.L]⟩ :: ⟨[], .one (.val (.bool x8))⟩ :: ⟨[], .one (.val (.bool (!x8)))⟩ :: ⟨[], .one (.val (.bool (!x8)))⟩ :: ⟨[], .tup []⟩ :: ⟨[], .tup []⟩ :: ⟨[], .tup []⟩ :: ⟨[], .one (.val (.bool true))⟩ :: ⟨[], .one (.val (.bool true))⟩ :: ⟨[], .tup []⟩ :: ⟨[], .tup []⟩ :: ⟨[], .tup []⟩ :: ⟨[], .one (.val (.bool true))⟩ :: ⟨[], .one (.val (.bool true))⟩ :: ⟨[], .tup []⟩ :: ⟨[], .tup []⟩ :: ⟨[], .tup []⟩ :: ⟨[], .tup []⟩ :: ⟨[], .tup []⟩ :: ⟨[], .one (.val (.bool true))⟩ :: ⟨[], .one (.val (.bool true))⟩ :: ⟨[], .tup []⟩ :: ⟨[], .tup []⟩ :: ⟨[], .tup []⟩ :: ⟨[], .tup []⟩ :: ⟨[], .tup []⟩ :: ⟨[], .tup []⟩ :: ⟨[], .tup []⟩ :: ⟨[], .one (.val (.bool true))⟩ :: ⟨[], .one (.val (.bool true))⟩ :: ⟨[], .tup []⟩ :: ⟨[], .tup []⟩ :: []) (by decide) rfl ?hk1x ?hf1x ?ho1x ?hr1x
        case ho1x =>
         refine ⟨⟨[], (by decide +kernel), fun S hle hfr => ?_⟩, ?_⟩
         · exact .inl ⟨.inl ⟨rfl, rfl⟩, ev_loads (ds := [_, _, _, _, _]) (hle.ev rfl (by nofun)) (hle.heap _ _ rfl) rfl rfl (hle.d rfl)⟩
         refine ⟨⟨[], (by decide +kernel), fun S hle hfr => ?_⟩, ?_⟩
         · exact .inl ⟨.inl ⟨rfl, rfl⟩, ev_loads (ds := [_, _, _, _, _]) (hle.ev rfl (by nofun)) (hle.heap _ _ rfl) rfl rfl (hle.d rfl)⟩
         refine ⟨⟨0 :: 1 :: [], (by decide +kernel), fun S hle hfr => ?_⟩, ?_⟩
         · exact .inl ⟨.inl ⟨rfl, rfl⟩, ev_call_v (actorgridref1_SameValue_fn k x6.1 x7.1 x8 hx8) (map_ev (.cons (hle.ev rfl (by nofun)) (.cons (hle.ev rfl (by nofun)) (.nil)))) [] (by repeat' (first | exact All2.nil | refine All2.cons ?_ ?_ | refine ArgV.one ?_ | refine ArgV.agg ?_ | exact ArgC.mk rfl | exact ArgC.lend (hle.heap _ _ rfl) (by simp) | exact ArgC.le (CLe.nil _) rfl | exact ArgC.le (CLe.emp _) rfl | exact ArgC.le (CLe.any _) rfl)) rfl rfl rfl (.inl rfl) (hle.d rfl)⟩
         refine ⟨⟨2 :: 0 :: 1 :: [], (by decide +kernel), fun S hle hfr => ?_⟩, ?_⟩
         · exact .inl ⟨.inl ⟨rfl, rfl⟩, ev_not (hle.ev rfl (by nofun)) (hle.d rfl)⟩
         refine ⟨⟨3 :: 2 :: 0 :: 1 :: [], (by decide +kernel), fun S hle hfr => ?_⟩, ?_⟩
         · exact .inl ⟨.inl ⟨rfl, rfl⟩, st_move (hle.ev rfl (by nofun)) (hle.d rfl)⟩
         refine ⟨⟨4 :: 3 :: 2 :: 0 :: 1 :: [], (by decide +kernel), fun S hle hfr => ?_⟩, ?_⟩
         · exact .inr ⟨.inr (.inl ⟨_, _, _, _, rfl, rfl, (hle.ev (x := .tmp _) rfl (by nofun)), (by rw [hle.nt]; rfl), (by first | rfl | (rw [q9]; rfl))⟩), rfl, hle.d rfl⟩
         refine ⟨⟨4 :: 3 :: 2 :: 0 :: 1 :: [], (by decide +kernel), fun S hle hfr => ?_⟩, ?_⟩
         · exact .inr ⟨.inr (.inl ⟨_, _, _, _, rfl, rfl, (hle.ev (x := .tmp _) rfl (by nofun)), (by rw [hle.nt]; rfl), (by first | rfl | (rw [q9]; rfl))⟩), rfl, hle.d rfl⟩
         refine ⟨⟨5 :: 6 :: 4 :: 3 :: 2 :: 0 :: 1 :: [], (by decide +kernel), fun S hle hfr => ?_⟩, ?_⟩
         · exact .inr ⟨.inr (.inl ⟨_, _, _, _, rfl, rfl, (hle.ev (x := .tmp _) rfl (by nofun)), (by rw [hle.nt]; rfl), (by first | rfl | (rw [q9]; rfl))⟩), rfl, hle.d rfl⟩
         refine ⟨⟨4 :: 7 :: 3 :: 2 :: 5 :: 6 :: 0 :: 1 :: [], (by decide +kernel), fun S hle hfr => ?_⟩, ?_⟩
         · exact .inl ⟨.inl ⟨rfl, rfl⟩, st_pick_yes (hle.ev rfl (by nofun)) (by first | rfl | exact q9) (hle.ev rfl (by nofun)) (hle.d rfl)⟩
         refine ⟨⟨8 :: 4 :: 7 :: 3 :: 2 :: 5 :: 6 :: 0 :: 1 :: [], (by decide +kernel), fun S hle hfr => ?_⟩, ?_⟩
         · exact .inl ⟨.inl ⟨rfl, rfl⟩, st_move (hle.ev rfl (by nofun)) (hle.d rfl)⟩
         refine ⟨⟨9 :: 8 :: 4 :: 7 :: 3 :: 2 :: 5 :: 6 :: 0 :: 1 :: [], (by decide +kernel), fun S hle hfr => ?_⟩, ?_⟩
         · exact .inr ⟨.inr (.inl ⟨_, _, _, _, rfl, rfl, (hle.ev (x := .tmp _) rfl (by nofun)), (by rw [hle.nt]; rfl), (by first | rfl | (rw [rfl]; rfl))⟩), rfl, hle.d rfl⟩
         refine ⟨⟨9 :: 8 :: 4 :: 7 :: 3 :: 2 :: 5 :: 6 :: 0 :: 1 :: [], (by decide +kernel), fun S hle hfr => ?_⟩, ?_⟩
         · exact .inr ⟨.inr (.inl ⟨_, _, _, _, rfl, rfl, (hle.ev (x := .tmp _) rfl (by nofun)), (by rw [hle.nt]; rfl), (by first | rfl | (rw [rfl]; rfl))⟩), rfl, hle.d rfl⟩
         refine ⟨⟨10 :: 11 :: 9 :: 8 :: 4 :: 7 :: 3 :: 2 :: 5 :: 6 :: 0 :: 1 :: [], (by decide +kernel), fun S hle hfr => ?_⟩, ?_⟩
         · exact .inr ⟨.inr (.inl ⟨_, _, _, _, rfl, rfl, (hle.ev (x := .tmp _) rfl (by nofun)), (by rw [hle.nt]; rfl), (by first | rfl | (rw [rfl]; rfl))⟩), rfl, hle.d rfl⟩
         refine ⟨⟨9 :: 12 :: 8 :: 4 :: 10 :: 11 :: 7 :: 3 :: 2 :: 5 :: 6 :: 0 :: 1 :: [], (by decide +kernel), fun S hle hfr => ?_⟩, ?_⟩
         · exact .inl ⟨.inl ⟨rfl, rfl⟩, st_pick_yes (hle.ev rfl (by nofun)) (by first | rfl | exact rfl) (hle.ev rfl (by nofun)) (hle.d rfl)⟩
         refine ⟨⟨13 :: 9 :: 12 :: 8 :: 4 :: 10 :: 11 :: 7 :: 3 :: 2 :: 5 :: 6 :: 0 :: 1 :: [], (by decide +kernel), fun S hle hfr => ?_⟩, ?_⟩
         · exact .inl ⟨.inl ⟨rfl, rfl⟩, st_move (hle.ev rfl (by nofun)) (hle.d rfl)⟩
         refine ⟨⟨14 :: 13 :: 9 :: 12 :: 8 :: 4 :: 10 :: 11 :: 7 :: 3 :: 2 :: 5 :: 6 :: 0 :: 1 :: [], (by decide +kernel), fun S hle hfr => ?_⟩, ?_⟩
         · exact .inr ⟨.inr (.inl ⟨_, _, _, _, rfl, rfl, (hle.ev (x := .tmp _) rfl (by nofun)), (by rw [hle.nt]; rfl), (by first | rfl | (rw [rfl]; rfl))⟩), rfl, hle.d rfl⟩
         refine ⟨⟨15 :: 14 :: 13 :: 9 :: 12 :: 8 :: 4 :: 10 :: 11 :: 7 :: 3 :: 2 :: 5 :: 6 :: 0 :: 1 :: [], (by decide +kernel), fun S hle hfr => ?_⟩, ?_⟩
         · exact .inr ⟨.inr (.inl ⟨_, _, _, _, rfl, rfl, (hle.ev (x := .tmp _) rfl (by nofun)), (by rw [hle.nt]; rfl), (by first | rfl | (rw [rfl]; rfl))⟩), rfl, hle.d rfl⟩
         refine ⟨⟨14 :: 13 :: 9 :: 12 :: 8 :: 4 :: 10 :: 11 :: 7 :: 3 :: 2 :: 5 :: 6 :: 0 :: 1 :: [], (by decide +kernel), fun S hle hfr => ?_⟩, ?_⟩
         · exact .inr ⟨.inr (.inl ⟨_, _, _, _, rfl, rfl, (hle.ev (x := .tmp _) rfl (by nofun)), (by rw [hle.nt]; rfl), (by first | rfl | (rw [rfl]; rfl))⟩), rfl, hle.d rfl⟩
         refine ⟨⟨17 :: 16 :: 14 :: 15 :: 13 :: 9 :: 12 :: 8 :: 4 :: 10 :: 11 :: 7 :: 3 :: 2 :: 5 :: 6 :: 0 :: 1 :: [], (by decide +kernel), fun S hle hfr => ?_⟩, ?_⟩
         · exact .inr ⟨.inr (.inl ⟨_, _, _, _, rfl, rfl, (hle.ev (x := .tmp _) rfl (by nofun)), (by rw [hle.nt]; rfl), (by first | rfl | (rw [rfl]; rfl))⟩), rfl, hle.d rfl⟩
         refine ⟨⟨16 :: 18 :: 14 :: 15 :: 17 :: 13 :: 9 :: 12 :: 8 :: 4 :: 10 :: 11 :: 7 :: 3 :: 2 :: 5 :: 6 :: 0 :: 1 :: [], (by decide +kernel), fun S hle hfr => ?_⟩, ?_⟩
         · exact .inr ⟨.inr (.inl ⟨_, _, _, _, rfl, rfl, (hle.ev (x := .tmp _) rfl (by nofun)), (by rw [hle.nt]; rfl), (by first | rfl | (rw [rfl]; rfl))⟩), rfl, hle.d rfl⟩
         refine ⟨⟨14 :: 19 :: 13 :: 9 :: 16 :: 18 :: 12 :: 8 :: 4 :: 15 :: 17 :: 10 :: 11 :: 7 :: 3 :: 2 :: 5 :: 6 :: 0 :: 1 :: [], (by decide +kernel), fun S hle hfr => ?_⟩, ?_⟩
         · exact .inl ⟨.inl ⟨rfl, rfl⟩, st_pick_yes (hle.ev rfl (by nofun)) (by first | rfl | exact rfl) (hle.ev rfl (by nofun)) (hle.d rfl)⟩
         refine ⟨⟨20 :: 18 :: 14 :: 19 :: 17 :: 16 :: 13 :: 9 :: 15 :: 12 :: 8 :: 4 :: 10 :: 11 :: 7 :: 3 :: 2 :: 5 :: 6 :: 0 :: 1 :: [], (by decide +kernel), fun S hle hfr => ?_⟩, ?_⟩
         · exact .inl ⟨.inl ⟨rfl, rfl⟩, st_move (hle.ev rfl (by nofun)) (hle.d rfl)⟩
         refine ⟨⟨21 :: 20 :: 18 :: 14 :: 19 :: 17 :: 16 :: 13 :: 9 :: 15 :: 12 :: 8 :: 4 :: 10 :: 11 :: 7 :: 3 :: 2 :: 5 :: 6 :: 0 :: 1 :: [], (by decide +kernel), fun S hle hfr => ?_⟩, ?_⟩
         · exact .inr ⟨.inr (.inl ⟨_, _, _, _, rfl, rfl, (hle.ev (x := .tmp _) rfl (by nofun)), (by rw [hle.nt]; rfl), (by first | rfl | (rw [rfl]; rfl))⟩), rfl, hle.d rfl⟩
         refine ⟨⟨21 :: 20 :: 18 :: 14 :: 19 :: 17 :: 16 :: 13 :: 9 :: 15 :: 12 :: 8 :: 4 :: 10 :: 11 :: 7 :: 3 :: 2 :: 5 :: 6 :: 0 :: 1 :: [], (by decide +kernel), fun S hle hfr => ?_⟩, ?_⟩
         · exact .inr ⟨.inr (.inl ⟨_, _, _, _, rfl, rfl, (hle.ev (x := .tmp _) rfl (by nofun)), (by rw [hle.nt]; rfl), (by first | rfl | (rw [rfl]; rfl))⟩), rfl, hle.d rfl⟩
         refine ⟨⟨22 :: 23 :: 21 :: 20 :: 18 :: 14 :: 19 :: 17 :: 16 :: 13 :: 9 :: 15 :: 12 :: 8 :: 4 :: 10 :: 11 :: 7 :: 3 :: 2 :: 5 :: 6 :: 0 :: 1 :: [], (by decide +kernel), fun S hle hfr => ?_⟩, ?_⟩
         · exact .inr ⟨.inr (.inl ⟨_, _, _, _, rfl, rfl, (hle.ev (x := .tmp _) rfl (by nofun)), (by rw [hle.nt]; rfl), (by first | rfl | (rw [rfl]; rfl))⟩), rfl, hle.d rfl⟩
         refine ⟨⟨21 :: 20 :: 18 :: 14 :: 19 :: 17 :: 16 :: 13 :: 9 :: 15 :: 12 :: 8 :: 4 :: 10 :: 11 :: 7 :: 3 :: 2 :: 5 :: 6 :: 0 :: 1 :: [], (by decide +kernel), fun S hle hfr => ?_⟩, ?_⟩
         · exact .inr ⟨.inr (.inl ⟨_, _, _, _, rfl, rfl, (hle.ev (x := .tmp _) rfl (by nofun)), (by rw [hle.nt]; rfl), (by first | rfl | (rw [rfl]; rfl))⟩), rfl, hle.d rfl⟩
         refine ⟨⟨21 :: 20 :: 18 :: 14 :: 19 :: 17 :: 16 :: 13 :: 9 :: 15 :: 12 :: 8 :: 4 :: 10 :: 11 :: 7 :: 3 :: 2 :: 5 :: 6 :: 0 :: 1 :: [], (by decide +kernel), fun S hle hfr => ?_⟩, ?_⟩
         · exact .inr ⟨.inr (.inl ⟨_, _, _, _, rfl, rfl, (hle.ev (x := .tmp _) rfl (by nofun)), (by rw [hle.nt]; rfl), (by first | rfl | (rw [rfl]; rfl))⟩), rfl, hle.d rfl⟩
         refine ⟨⟨25 :: 26 :: 24 :: 21 :: 22 :: 23 :: 20 :: 18 :: 14 :: 19 :: 17 :: 16 :: 13 :: 9 :: 15 :: 12 :: 8 :: 4 :: 10 :: 11 :: 7 :: 3 :: 2 :: 5 :: 6 :: 0 :: 1 :: [], (by decide +kernel), fun S hle hfr => ?_⟩, ?_⟩
         · exact .inr ⟨.inr (.inl ⟨_, _, _, _, rfl, rfl, (hle.ev (x := .tmp _) rfl (by nofun)), (by rw [hle.nt]; rfl), (by first | rfl | (rw [rfl]; rfl))⟩), rfl, hle.d rfl⟩
         refine ⟨⟨24 :: 27 :: 21 :: 22 :: 23 :: 25 :: 26 :: 20 :: 18 :: 14 :: 19 :: 17 :: 16 :: 13 :: 9 :: 15 :: 12 :: 8 :: 4 :: 10 :: 11 :: 7 :: 3 :: 2 :: 5 :: 6 :: 0 :: 1 :: [], (by decide +kernel), fun S hle hfr => ?_⟩, ?_⟩
         · exact .inr ⟨.inr (.inl ⟨_, _, _, _, rfl, rfl, (hle.ev (x := .tmp _) rfl (by nofun)), (by rw [hle.nt]; rfl), (by first | rfl | (rw [rfl]; rfl))⟩), rfl, hle.d rfl⟩
         refine ⟨⟨21 :: 28 :: 20 :: 18 :: 24 :: 27 :: 14 :: 19 :: 17 :: 16 :: 22 :: 23 :: 25 :: 26 :: 13 :: 9 :: 15 :: 12 :: 8 :: 4 :: 10 :: 11 :: 7 :: 3 :: 2 :: 5 :: 6 :: 0 :: 1 :: [], (by decide +kernel), fun S hle hfr => ?_⟩, ?_⟩
         · exact .inl ⟨.inl ⟨rfl, rfl⟩, st_pick_yes (hle.ev rfl (by nofun)) (by first | rfl | exact rfl) (hle.ev rfl (by nofun)) (hle.d rfl)⟩
         refine ⟨⟨29 :: 27 :: 21 :: 28 :: 25 :: 26 :: 24 :: 20 :: 18 :: 22 :: 23 :: 14 :: 19 :: 17 :: 16 :: 13 :: 9 :: 15 :: 12 :: 8 :: 4 :: 10 :: 11 :: 7 :: 3 :: 2 :: 5 :: 6 :: 0 :: 1 :: [], (by decide +kernel), fun S hle hfr => ?_⟩, ?_⟩
         · exact .inl ⟨.inl ⟨rfl, rfl⟩, st_move (hle.ev rfl (by nofun)) (hle.d rfl)⟩
         refine ⟨⟨30 :: 29 :: 27 :: 21 :: 28 :: 25 :: 26 :: 24 :: 20 :: 18 :: 22 :: 23 :: 14 :: 19 :: 17 :: 16 :: 13 :: 9 :: 15 :: 12 :: 8 :: 4 :: 10 :: 11 :: 7 :: 3 :: 2 :: 5 :: 6 :: 0 :: 1 :: [], (by decide +kernel), fun S hle hfr => ?_⟩, ?_⟩
         · exact .inr ⟨.inr (.inl ⟨_, _, _, _, rfl, rfl, (hle.ev (x := .tmp _) rfl (by nofun)), (by rw [hle.nt]; rfl), (by first | rfl | (rw [rfl]; rfl))⟩), rfl, hle.d rfl⟩
         refine ⟨⟨30 :: 29 :: 27 :: 21 :: 28 :: 25 :: 26 :: 24 :: 20 :: 18 :: 22 :: 23 :: 14 :: 19 :: 17 :: 16 :: 13 :: 9 :: 15 :: 12 :: 8 :: 4 :: 10 :: 11 :: 7 :: 3 :: 2 :: 5 :: 6 :: 0 :: 1 :: [], (by decide +kernel), fun S hle hfr => ?_⟩, ?_⟩
         · exact .inr ⟨.inr (.inl ⟨_, _, _, _, rfl, rfl, (hle.ev (x := .tmp _) rfl (by nofun)), (by rw [hle.nt]; rfl), (by first | rfl | (rw [rfl]; rfl))⟩), rfl, hle.d rfl⟩
         exact trivial
        case hk1x => rfl
        case hf1x => rfl
        refine aops_no rfl rfl rfl rfl rfl (by decide) ?_
        refine aops_no rfl rfl rfl rfl rfl (by decide) ?_
        refine aops_step1 rfl (st_pick_yes rfl (by first | rfl | exact rfl) rfl rfl) ?_
        refine aops_nil ?_
        refine aw_yes rfl (rfl) ?_
        refine aw_seq ?_
        refine aw_region ?_
        refine aops_step1 rfl (st_assign rfl rfl) ?_
        refine aops_nil ?_
        cases Option.some.inj h
        refine aw_ret ⟨rfl, ret_v (.inl ⟨_, rfl, rfl, fun _ e => nomatch e⟩) rfl rfl rfl ?_⟩
        (repeat' (first | exact TLe.refl _ | exact VLe.refl _ | exact CLe.refl _ | exact All2.nil | refine TLe.tup ?_ | refine TLe.v ?_ | refine All2.cons ?_ ?_ | refine VLe.agg ?_ | refine VLe.one ?_ | exact CLe.nil _ | exact CLe.emp _ | refine CLe.val ?_ | refine CLe.slc ?_ ?_))
      replace h := Md.cond_f h q9
      rcases Md.bool_or ((x6.2.1 != x7.2.1)) with q10 | q10
      · replace h := Md.cond_t h q10
        refine aw_seq ?_
        apply aw_draw 33 ((⟨[], .agg [.val (.int .i64 x6.1.Kind), .val (.int .i64 x6.1.N), .val (Sv x6.1.S), CV.ls c_Int x6.1.I, CV.ls c_Str x6.1.L]⟩ : Add) :: ⟨[], .agg [.val (.int .i64 x7.1.Kind), .val (.int .i64 x7.1.N), .val (Sv x7.1.S), CV.ls c_Int x7.1.I, CV.ls c_Str x7.1.L]⟩ :: ⟨[], .one (.val (.bool x8))⟩ :: ⟨[], .one (.val (.bool (!x8)))⟩ :: ⟨[], .one (.val (.bool (!x8)))⟩ :: ⟨[], .one (.val (.int .i64 x6.2.1))⟩ :: ⟨[], .one (.val (.int .i64 x7.2.1))⟩ :: ⟨[], .one (.val (.bool (x6.2.1 != x7.2.1)))⟩ :: ⟨[], .one (.val (.bool (x6.2.1 != x7.2.1)))⟩ :: ⟨[], .one (.val (.bool (x6.2.1 != x7.2.1)))⟩ :: ⟨[], .tup []⟩ :: ⟨[], .tup []⟩ :: ⟨[], .tup []⟩ :: ⟨[], .one (.val (.bool true))⟩ :: ⟨[], .one (.val (.bool true))⟩ :: ⟨[], .tup []⟩ :: ⟨[], .tup []⟩ :: ⟨[], .tup []⟩ :: ⟨[], .tup []⟩ :: ⟨[], .tup []⟩ :: ⟨[], .one (.val (.bool true))⟩ :: ⟨[], .one (.val (.bool true))⟩ :: ⟨[], .tup []⟩ :: ⟨[], .tup []⟩ :: ⟨[], .tup []⟩ :: ⟨[], .tup []⟩ :: ⟨[], .tup []⟩ :: ⟨[], .tup []⟩ :: ⟨[], .tup []⟩ :: ⟨[], .one (.val (.bool true))⟩ :: ⟨[], .one (.val (.bool true))⟩ :: ⟨[], .tup []⟩ :: ⟨[], .tup []⟩ :: []) (by decide) rfl ?hk2x ?hf2x ?ho2x ?hr2x
        case ho2x =>
         refine ⟨⟨[], (by decide +kernel), fun S hle hfr => ?_⟩, ?_⟩
         · exact .inl ⟨.inl ⟨rfl, rfl⟩, ev_loads (ds := [_, _, _, _, _]) (hle.ev rfl (by nofun)) (hle.heap _ _ rfl) rfl rfl (hle.d rfl)⟩
         refine ⟨⟨[], (by decide +kernel), fun S hle hfr => ?_⟩, ?_⟩
         · exact .inl ⟨.inl ⟨rfl, rfl⟩, ev_loads (ds := [_, _, _, _, _]) (hle.ev rfl (by nofun)) (hle.heap _ _ rfl) rfl rfl (hle.d rfl)⟩
         refine ⟨⟨0 :: 1 :: [], (by decide +kernel), fun S hle hfr => ?_⟩, ?_⟩
         · exact .inl ⟨.inl ⟨rfl, rfl⟩, ev_call_v (actorgridref1_SameValue_fn k x6.1 x7.1 x8 hx8) (map_ev (.cons (hle.ev rfl (by nofun)) (.cons (hle.ev rfl (by nofun)) (.nil)))) [] (by repeat' (first | exact All2.nil | refine All2.cons ?_ ?_ | refine ArgV.one ?_ | refine ArgV.agg ?_ | exact ArgC.mk rfl | exact ArgC.lend (hle.heap _ _ rfl) (by simp) | exact ArgC.le (CLe.nil _) rfl | exact ArgC.le (CLe.emp _) rfl | exact ArgC.le (CLe.any _) rfl)) rfl rfl rfl (.inl rfl) (hle.d rfl)⟩
         refine ⟨⟨2 :: 0 :: 1 :: [], (by decide +kernel), fun S hle hfr => ?_⟩, ?_⟩
         · exact .inl ⟨.inl ⟨rfl, rfl⟩, ev_not (hle.ev rfl (by nofun)) (hle.d rfl)⟩
         refine ⟨⟨3 :: 2 :: 0 :: 1 :: [], (by decide +kernel), fun S hle hfr => ?_⟩, ?_⟩
         · exact .inl ⟨.inl ⟨rfl, rfl⟩, st_move (hle.ev rfl (by nofun)) (hle.d rfl)⟩
         refine ⟨⟨4 :: 3 :: 2 :: 0 :: 1 :: [], (by decide +kernel), fun S hle hfr => ?_⟩, ?_⟩
         · exact .inl ⟨.inr (.inl ⟨_, _, _, _, rfl, rfl, (hle.ev (x := .tmp _) rfl (by nofun)), (by rw [hle.nt]; rfl), (by first | rfl | (rw [q9]; rfl))⟩), st_move (hle.ev rfl (by nofun)) (hle.d rfl)⟩
         refine ⟨⟨4 :: 3 :: 2 :: 0 :: 1 :: [], (by decide +kernel), fun S hle hfr => ?_⟩, ?_⟩
         · exact .inl ⟨.inr (.inl ⟨_, _, _, _, rfl, rfl, (hle.ev (x := .tmp _) rfl (by nofun)), (by rw [hle.nt]; rfl), (by first | rfl | (rw [q9]; rfl))⟩), st_move (hle.ev rfl (by nofun)) (hle.d rfl)⟩
         refine ⟨⟨5 :: 6 :: 4 :: 3 :: 2 :: 0 :: 1 :: [], (by decide +kernel), fun S hle hfr => ?_⟩, ?_⟩
         · exact .inl ⟨.inr (.inl ⟨_, _, _, _, rfl, rfl, (hle.ev (x := .tmp _) rfl (by nofun)), (by rw [hle.nt]; rfl), (by first | rfl | (rw [q9]; rfl))⟩), ev_cmp (hle.ev rfl (by nofun)) (hle.ev rfl (by nofun)) (hle.d rfl) rfl⟩
         refine ⟨⟨4 :: 7 :: 3 :: 2 :: 5 :: 6 :: 0 :: 1 :: [], (by decide +kernel), fun S hle hfr => ?_⟩, ?_⟩
         · exact .inl ⟨.inl ⟨rfl, rfl⟩, st_pick_no (hle.ev rfl (by nofun)) (by first | rfl | exact q9) (hle.ev rfl (by nofun)) (hle.d rfl)⟩
         refine ⟨⟨8 :: 4 :: 7 :: 3 :: 2 :: 5 :: 6 :: 0 :: 1 :: [], (by decide +kernel), fun S hle hfr => ?_⟩, ?_⟩
         · exact .inl ⟨.inl ⟨rfl, rfl⟩, st_move (hle.ev rfl (by nofun)) (hle.d rfl)⟩
         refine ⟨⟨9 :: 8 :: 4 :: 7 :: 3 :: 2 :: 5 :: 6 :: 0 :: 1 :: [], (by decide +kernel), fun S hle hfr => ?_⟩, ?_⟩
         · exact .inr ⟨.inr (.inl ⟨_, _, _, _, rfl, rfl, (hle.ev (x := .tmp _) rfl (by nofun)), (by rw [hle.nt]; rfl), (by first | rfl | (rw [q10]; rfl))⟩), rfl, hle.d rfl⟩
         refine ⟨⟨9 :: 8 :: 4 :: 7 :: 3 :: 2 :: 5 :: 6 :: 0 :: 1 :: [], (by decide +kernel), fun S hle hfr => ?_⟩, ?_⟩
         · exact .inr ⟨.inr (.inl ⟨_, _, _, _, rfl, rfl, (hle.ev (x := .tmp _) rfl (by nofun)), (by rw [hle.nt]; rfl), (by first | rfl | (rw [q10]; rfl))⟩), rfl, hle.d rfl⟩
         refine ⟨⟨10 :: 11 :: 9 :: 8 :: 4 :: 7 :: 3 :: 2 :: 5 :: 6 :: 0 :: 1 :: [], (by decide +kernel), fun S hle hfr => ?_⟩, ?_⟩
         · exact .inr ⟨.inr (.inl ⟨_, _, _, _, rfl, rfl, (hle.ev (x := .tmp _) rfl (by nofun)), (by rw [hle.nt]; rfl), (by first | rfl | (rw [q10]; rfl))⟩), rfl, hle.d rfl⟩
         refine ⟨⟨9 :: 12 :: 8 :: 4 :: 10 :: 11 :: 7 :: 3 :: 2 :: 5 :: 6 :: 0 :: 1 :: [], (by decide +kernel), fun S hle hfr => ?_⟩, ?_⟩
         · exact .inl ⟨.inl ⟨rfl, rfl⟩, st_pick_yes (hle.ev rfl (by nofun)) (by first | rfl | exact q10) (hle.ev rfl (by nofun)) (hle.d rfl)⟩
         refine ⟨⟨13 :: 9 :: 12 :: 8 :: 4 :: 10 :: 11 :: 7 :: 3 :: 2 :: 5 :: 6 :: 0 :: 1 :: [], (by decide +kernel), fun S hle hfr => ?_⟩, ?_⟩
         · exact .inl ⟨.inl ⟨rfl, rfl⟩, st_move (hle.ev rfl (by nofun)) (hle.d rfl)⟩
         refine ⟨⟨14 :: 13 :: 9 :: 12 :: 8 :: 4 :: 10 :: 11 :: 7 :: 3 :: 2 :: 5 :: 6 :: 0 :: 1 :: [], (by decide +kernel), fun S hle hfr => ?_⟩, ?_⟩
         · exact .inr ⟨.inr (.inl ⟨_, _, _, _, rfl, rfl, (hle.ev (x := .tmp _) rfl (by nofun)), (by rw [hle.nt]; rfl), (by first | rfl | (rw [rfl]; rfl))⟩), rfl, hle.d rfl⟩
         refine ⟨⟨15 :: 14 :: 13 :: 9 :: 12 :: 8 :: 4 :: 10 :: 11 :: 7 :: 3 :: 2 :: 5 :: 6 :: 0 :: 1 :: [], (by decide +kernel), fun S hle hfr => ?_⟩, ?_⟩
         · exact .inr ⟨.inr (.inl ⟨_, _, _, _, rfl, rfl, (hle.ev (x := .tmp _) rfl (by nofun)), (by rw [hle.nt]; rfl), (by first | rfl | (rw [rfl]; rfl))⟩), rfl, hle.d rfl⟩
         refine ⟨⟨14 :: 13 :: 9 :: 12 :: 8 :: 4 :: 10 :: 11 :: 7 :: 3 :: 2 :: 5 :: 6 :: 0 :: 1 :: [], (by decide +kernel), fun S hle hfr => ?_⟩, ?_⟩
         · exact .inr ⟨.inr (.inl ⟨_, _, _, _, rfl, rfl, (hle.ev (x := .tmp _) rfl (by nofun)), (by rw [hle.nt]; rfl), (by first | rfl | (rw [rfl]; rfl))⟩), rfl, hle.d rfl⟩
         refine ⟨⟨17 :: 16 :: 14 :: 15 :: 13 :: 9 :: 12 :: 8 :: 4 :: 10 :: 11 :: 7 :: 3 :: 2 :: 5 :: 6 :: 0 :: 1 :: [], (by decide +kernel), fun S hle hfr => ?_⟩, ?_⟩
         · exact .inr ⟨.inr (.inl ⟨_, _, _, _, rfl, rfl, (hle.ev (x := .tmp _) rfl (by nofun)), (by rw [hle.nt]; rfl), (by first | rfl | (rw [rfl]; rfl))⟩), rfl, hle.d rfl⟩
         refine ⟨⟨16 :: 18 :: 14 :: 15 :: 17 :: 13 :: 9 :: 12 :: 8 :: 4 :: 10 :: 11 :: 7 :: 3 :: 2 :: 5 :: 6 :: 0 :: 1 :: [], (by decide +kernel), fun S hle hfr => ?_⟩, ?_⟩
         · exact .inr ⟨.inr (.inl ⟨_, _, _, _, rfl, rfl, (hle.ev (x := .tmp _) rfl (by nofun)), (by rw [hle.nt]; rfl), (by first | rfl | (rw [rfl]; rfl))⟩), rfl, hle.d rfl⟩
         refine ⟨⟨14 :: 19 :: 13 :: 9 :: 16 :: 18 :: 12 :: 8 :: 4 :: 15 :: 17 :: 10 :: 11 :: 7 :: 3 :: 2 :: 5 :: 6 :: 0 :: 1 :: [], (by decide +kernel), fun S hle hfr => ?_⟩, ?_⟩
         · exact .inl ⟨.inl ⟨rfl, rfl⟩, st_pick_yes (hle.ev rfl (by nofun)) (by first | rfl | exact rfl) (hle.ev rfl (by nofun)) (hle.d rfl)⟩
         refine ⟨⟨20 :: 18 :: 14 :: 19 :: 17 :: 16 :: 13 :: 9 :: 15 :: 12 :: 8 :: 4 :: 10 :: 11 :: 7 :: 3 :: 2 :: 5 :: 6 :: 0 :: 1 :: [], (by decide +kernel), fun S hle hfr => ?_⟩, ?_⟩
         · exact .inl ⟨.inl ⟨rfl, rfl⟩, st_move (hle.ev rfl (by nofun)) (hle.d rfl)⟩
         refine ⟨⟨21 :: 20 :: 18 :: 14 :: 19 :: 17 :: 16 :: 13 :: 9 :: 15 :: 12 :: 8 :: 4 :: 10 :: 11 :: 7 :: 3 :: 2 :: 5 :: 6 :: 0 :: 1 :: [], (by decide +kernel), fun S hle hfr => ?_⟩, ?_⟩
         · exact .inr ⟨.inr (.inl ⟨_, _, _, _, rfl, rfl, (hle.ev (x := .tmp _) rfl (by nofun)), (by rw [hle.nt]; rfl), (by first | rfl | (rw [rfl]; rfl))⟩), rfl, hle.d rfl⟩
         refine ⟨⟨21 :: 20 :: 18 :: 14 :: 19 :: 17 :: 16 :: 13 :: 9 :: 15 :: 12 :: 8 :: 4 :: 10 :: 11 :: 7 :: 3 :: 2 :: 5 :: 6 :: 0 :: 1 :: [], (by decide +kernel), fun S hle hfr => ?_⟩, ?_⟩
         · exact .inr ⟨.inr (.inl ⟨_, _, _, _, rfl, rfl, (hle.ev (x := .tmp _) rfl (by nofun)), (by rw [hle.nt]; rfl), (by first | rfl | (rw [rfl]; rfl))⟩), rfl, hle.d rfl⟩
         refine ⟨⟨22 :: 23 :: 21 :: 20 :: 18 :: 14 :: 19 :: 17 :: 16 :: 13 :: 9 :: 15 :: 12 :: 8 :: 4 :: 10 :: 11 :: 7 :: 3 :: 2 :: 5 :: 6 :: 0 :: 1 :: [], (by decide +kernel), fun S hle hfr => ?_⟩, ?_⟩
         · exact .inr ⟨.inr (.inl ⟨_, _, _, _, rfl, rfl, (hle.ev (x := .tmp _) rfl (by nofun)), (by rw [hle.nt]; rfl), (by first | rfl | (rw [rfl]; rfl))⟩), rfl, hle.d rfl⟩
         refine ⟨⟨21 :: 20 :: 18 :: 14 :: 19 :: 17 :: 16 :: 13 :: 9 :: 15 :: 12 :: 8 :: 4 :: 10 :: 11 :: 7 :: 3 :: 2 :: 5 :: 6 :: 0 :: 1 :: [], (by decide +kernel), fun S hle hfr => ?_⟩, ?_⟩
         · exact .inr ⟨.inr (.inl ⟨_, _, _, _, rfl, rfl, (hle.ev (x := .tmp _) rfl (by nofun)), (by rw [hle.nt]; rfl), (by first | rfl | (rw [rfl]; rfl))⟩), rfl, hle.d rfl⟩
         refine ⟨⟨21 :: 20 :: 18 :: 14 :: 19 :: 17 :: 16 :: 13 :: 9 :: 15 :: 12 :: 8 :: 4 :: 10 :: 11 :: 7 :: 3 :: 2 :: 5 :: 6 :: 0 :: 1 :: [], (by decide +kernel), fun S hle hfr => ?_⟩, ?_⟩
         · exact .inr ⟨.inr (.inl ⟨_, _, _, _, rfl, rfl, (hle.ev (x := .tmp _) rfl (by nofun)), (by rw [hle.nt]; rfl), (by first | rfl | (rw [rfl]; rfl))⟩), rfl, hle.d rfl⟩
         refine ⟨⟨25 :: 26 :: 24 :: 21 :: 22 :: 23 :: 20 :: 18 :: 14 :: 19 :: 17 :: 16 :: 13 :: 9 :: 15 :: 12 :: 8 :: 4 :: 10 :: 11 :: 7 :: 3 :: 2 :: 5 :: 6 :: 0 :: 1 :: [], (by decide +kernel), fun S hle hfr => ?_⟩, ?_⟩
         · exact .inr ⟨.inr (.inl ⟨_, _, _, _, rfl, rfl, (hle.ev (x := .tmp _) rfl (by nofun)), (by rw [hle.nt]; rfl), (by first | rfl | (rw [rfl]; rfl))⟩), rfl, hle.d rfl⟩
         refine ⟨⟨24 :: 27 :: 21 :: 22 :: 23 :: 25 :: 26 :: 20 :: 18 :: 14 :: 19 :: 17 :: 16 :: 13 :: 9 :: 15 :: 12 :: 8 :: 4 :: 10 :: 11 :: 7 :: 3 :: 2 :: 5 :: 6 :: 0 :: 1 :: [], (by decide +kernel), fun S hle hfr => ?_⟩, ?_⟩
         · exact .inr ⟨.inr (.inl ⟨_, _, _, _, rfl, rfl, (hle.ev (x := .tmp _) rfl (by nofun)), (by rw [hle.nt]; rfl), (by first | rfl | (rw [rfl]; rfl))⟩), rfl, hle.d rfl⟩
         refine ⟨⟨21 :: 28 :: 20 :: 18 :: 24 :: 27 :: 14 :: 19 :: 17 :: 16 :: 22 :: 23 :: 25 :: 26 :: 13 :: 9 :: 15 :: 12 :: 8 :: 4 :: 10 :: 11 :: 7 :: 3 :: 2 :: 5 :: 6 :: 0 :: 1 :: [], (by decide +kernel), fun S hle hfr => ?_⟩, ?_⟩
         · exact .inl ⟨.inl ⟨rfl, rfl⟩, st_pick_yes (hle.ev rfl (by nofun)) (by first | rfl | exact rfl) (hle.ev rfl (by nofun)) (hle.d rfl)⟩
         refine ⟨⟨29 :: 27 :: 21 :: 28 :: 25 :: 26 :: 24 :: 20 :: 18 :: 22 :: 23 :: 14 :: 19 :: 17 :: 16 :: 13 :: 9 :: 15 :: 12 :: 8 :: 4 :: 10 :: 11 :: 7 :: 3 :: 2 :: 5 :: 6 :: 0 :: 1 :: [], (by decide +kernel), fun S hle hfr => ?_⟩, ?_⟩
         · exact .inl ⟨.inl ⟨rfl, rfl⟩, st_move (hle.ev rfl (by nofun)) (hle.d rfl)⟩
         refine ⟨⟨30 :: 29 :: 27 :: 21 :: 28 :: 25 :: 26 :: 24 :: 20 :: 18 :: 22 :: 23 :: 14 :: 19 :: 17 :: 16 :: 13 :: 9 :: 15 :: 12 :: 8 :: 4 :: 10 :: 11 :: 7 :: 3 :: 2 :: 5 :: 6 :: 0 :: 1 :: [], (by decide +kernel), fun S hle hfr => ?_⟩, ?_⟩
         · exact .inr ⟨.inr (.inl ⟨_, _, _, _, rfl, rfl, (hle.ev (x := .tmp _) rfl (by nofun)), (by rw [hle.nt]; rfl), (by first | rfl | (rw [rfl]; rfl))⟩), rfl, hle.d rfl⟩
         refine ⟨⟨30 :: 29 :: 27 :: 21 :: 28 :: 25 :: 26 :: 24 :: 20 :: 18 :: 22 :: 23 :: 14 :: 19 :: 17 :: 16 :: 13 :: 9 :: 15 :: 12 :: 8 :: 4 :: 10 :: 11 :: 7 :: 3 :: 2 :: 5 :: 6 :: 0 :: 1 :: [], (by decide +kernel), fun S hle hfr => ?_⟩, ?_⟩
         · exact .inr ⟨.inr (.inl ⟨_, _, _, _, rfl, rfl, (hle.ev (x := .tmp _) rfl (by nofun)), (by rw [hle.nt]; rfl), (by first | rfl | (rw [rfl]; rfl))⟩), rfl, hle.d rfl⟩
         exact trivial
        case hk2x => rfl
        case hf2x => rfl
        refine aops_no rfl rfl rfl rfl rfl (by decide) ?_
        refine aops_no rfl rfl rfl rfl rfl (by decide) ?_
        refine aops_step1 rfl (st_pick_yes rfl (by first | rfl | exact rfl) rfl rfl) ?_
        refine aops_nil ?_
        refine aw_yes rfl (rfl) ?_
        refine aw_seq ?_
        refine aw_region ?_
        refine aops_step1 rfl (st_assign rfl rfl) ?_
        refine aops_nil ?_
        cases Option.some.inj h
        refine aw_ret ⟨rfl, ret_v (.inl ⟨_, rfl, rfl, fun _ e => nomatch e⟩) rfl rfl rfl ?_⟩
        (repeat' (first | exact TLe.refl _ | exact VLe.refl _ | exact CLe.refl _ | exact All2.nil | refine TLe.tup ?_ | refine TLe.v ?_ | refine All2.cons ?_ ?_ | refine VLe.agg ?_ | refine VLe.one ?_ | exact CLe.nil _ | exact CLe.emp _ | refine CLe.val ?_ | refine CLe.slc ?_ ?_))
      replace h := Md.cond_f h q10
      rcases Md.bool_or ((x6.2.2 != x7.2.2)) with q11 | q11
      · replace h := Md.cond_t h q11
        refine aw_seq ?_
        apply aw_draw 33 ((⟨[], .agg [.val (.int .i64 x6.1.Kind), .val (.int .i64 x6.1.N), .val (Sv x6.1.S), CV.ls c_Int x6.1.I, CV.ls c_Str x6.1.L]⟩ : Add) :: ⟨[], .agg [.val (.int .i64 x7.1.Kind), .val (.int .i64 x7.1.N), .val (Sv x7.1.S), CV.ls c_Int x7.1.I, CV.ls c_Str x7.1.L]⟩ :: ⟨[], .one (.val (.bool x8))⟩ :: ⟨[], .one (.val (.bool (!x8)))⟩ :: ⟨[], .one (.val (.bool (!x8)))⟩ :: ⟨[], .one (.val (.int .i64 x6.2.1))⟩ :: ⟨[], .one (.val (.int .i64 x7.2.1))⟩ :: ⟨[], .one (.val (.bool (x6.2.1 != x7.2.1)))⟩ :: ⟨[], .one (.val (.bool (x6.2.1 != x7.2.1)))⟩ :: ⟨[], .one (.val (.bool (x6.2.1 != x7.2.1)))⟩ :: ⟨[], .one (.val (.int .i64 x6.2.2))⟩ :: ⟨[], .one (.val (.int .i64 x7.2.2))⟩ :: ⟨[], .one (.val (.bool (x6.2.2 != x7.2.2)))⟩ :: ⟨[], .one (.val (.bool (x6.2.2 != x7.2.2)))⟩ :: ⟨[], .one (.val (.bool (x6.2.2 != x7.2.2)))⟩ :: ⟨[], .tup []⟩ :: ⟨[], .tup []⟩ :: ⟨[], .tup []⟩ :: ⟨[], .tup []⟩ :: ⟨[], .tup []⟩ :: ⟨[], .one (.val (.bool true))⟩ :: ⟨[], .one (.val (.bool true))⟩ :: ⟨[], .tup []⟩ :: ⟨[], .tup []⟩ :: ⟨[], .tup []⟩ :: ⟨[], .tup []⟩ :: ⟨[], .tup []⟩ :: ⟨[], .tup []⟩ :: ⟨[], .tup []⟩ :: ⟨[], .one (.val (.bool true))⟩ :: ⟨[], .one (.val (.bool true))⟩ :: ⟨[], .tup []⟩ :: ⟨[], .tup []⟩ :: []) (by decide) rfl ?hk3x ?hf3x ?ho3x ?hr3x
        case ho3x =>
         refine ⟨⟨[], (by decide +kernel), fun S hle hfr => ?_⟩, ?_⟩
         · exact .inl ⟨.inl ⟨rfl, rfl⟩, ev_loads (ds := [_, _, _, _, _]) (hle.ev rfl (by nofun)) (hle.heap _ _ rfl) rfl rfl (hle.d rfl)⟩
         refine ⟨⟨[], (by decide +kernel), fun S hle hfr => ?_⟩, ?_⟩
         · exact .inl ⟨.inl ⟨rfl, rfl⟩, ev_loads (ds := [_, _, _, _, _]) (hle.ev rfl (by nofun)) (hle.heap _ _ rfl) rfl rfl (hle.d rfl)⟩
         refine ⟨⟨0 :: 1 :: [], (by decide +kernel), fun S hle hfr => ?_⟩, ?_⟩
         · exact .inl ⟨.inl ⟨rfl, rfl⟩, ev_call_v (actorgridref1_SameValue_fn k x6.1 x7.1 x8 hx8) (map_ev (.cons (hle.ev rfl (by nofun)) (.cons (hle.ev rfl (by nofun)) (.nil)))) [] (by repeat' (first | exact All2.nil | refine All2.cons ?_ ?_ | refine ArgV.one ?_ | refine ArgV.agg ?_ | exact ArgC.mk rfl | exact ArgC.lend (hle.heap _ _ rfl) (by simp) | exact ArgC.le (CLe.nil _) rfl | exact ArgC.le (CLe.emp _) rfl | exact ArgC.le (CLe.any _) rfl)) rfl rfl rfl (.inl rfl) (hle.d rfl)⟩
         refine ⟨⟨2 :: 0 :: 1 :: [], (by decide +kernel), fun S hle hfr => ?_⟩, ?_⟩
         · exact .inl ⟨.inl ⟨rfl, rfl⟩, ev_not (hle.ev rfl (by nofun)) (hle.d rfl)⟩
         refine ⟨⟨3 :: 2 :: 0 :: 1 :: [], (by decide +kernel), fun S hle hfr => ?_⟩, ?_⟩
         · exact .inl ⟨.inl ⟨rfl, rfl⟩, st_move (hle.ev rfl (by nofun)) (hle.d rfl)⟩
         refine ⟨⟨4 :: 3 :: 2 :: 0 :: 1 :: [], (by decide +kernel), fun S hle hfr => ?_⟩, ?_⟩
         · exact .inl ⟨.inr (.inl ⟨_, _, _, _, rfl, rfl, (hle.ev (x := .tmp _) rfl (by nofun)), (by rw [hle.nt]; rfl), (by first | rfl | (rw [q9]; rfl))⟩), st_move (hle.ev rfl (by nofun)) (hle.d rfl)⟩
         refine ⟨⟨4 :: 3 :: 2 :: 0 :: 1 :: [], (by decide +kernel), fun S hle hfr => ?_⟩, ?_⟩
         · exact .inl ⟨.inr (.inl ⟨_, _, _, _, rfl, rfl, (hle.ev (x := .tmp _) rfl (by nofun)), (by rw [hle.nt]; rfl), (by first | rfl | (rw [q9]; rfl))⟩), st_move (hle.ev rfl (by nofun)) (hle.d rfl)⟩
         refine ⟨⟨5 :: 6 :: 4 :: 3 :: 2 :: 0 :: 1 :: [], (by decide +kernel), fun S hle hfr => ?_⟩, ?_⟩
         · exact .inl ⟨.inr (.inl ⟨_, _, _, _, rfl, rfl, (hle.ev (x := .tmp _) rfl (by nofun)), (by rw [hle.nt]; rfl), (by first | rfl | (rw [q9]; rfl))⟩), ev_cmp (hle.ev rfl (by nofun)) (hle.ev rfl (by nofun)) (hle.d rfl) rfl⟩
         refine ⟨⟨4 :: 7 :: 3 :: 2 :: 5 :: 6 :: 0 :: 1 :: [], (by decide +kernel), fun S hle hfr => ?_⟩, ?_⟩
         · exact .inl ⟨.inl ⟨rfl, rfl⟩, st_pick_no (hle.ev rfl (by nofun)) (by first | rfl | exact q9) (hle.ev rfl (by nofun)) (hle.d rfl)⟩
         refine ⟨⟨8 :: 4 :: 7 :: 3 :: 2 :: 5 :: 6 :: 0 :: 1 :: [], (by decide +kernel), fun S hle hfr => ?_⟩, ?_⟩
         · exact .inl ⟨.inl ⟨rfl, rfl⟩, st_move (hle.ev rfl (by nofun)) (hle.d rfl)⟩
         refine ⟨⟨9 :: 8 :: 4 :: 7 :: 3 :: 2 :: 5 :: 6 :: 0 :: 1 :: [], (by decide +kernel), fun S hle hfr => ?_⟩, ?_⟩
         · exact .inl ⟨.inr (.inl ⟨_, _, _, _, rfl, rfl, (hle.ev (x := .tmp _) rfl (by nofun)), (by rw [hle.nt]; rfl), (by first | rfl | (rw [q10]; rfl))⟩), st_move (hle.ev rfl (by nofun)) (hle.d rfl)⟩
         refine ⟨⟨9 :: 8 :: 4 :: 7 :: 3 :: 2 :: 5 :: 6 :: 0 :: 1 :: [], (by decide +kernel), fun S hle hfr => ?_⟩, ?_⟩
         · exact .inl ⟨.inr (.inl ⟨_, _, _, _, rfl, rfl, (hle.ev (x := .tmp _) rfl (by nofun)), (by rw [hle.nt]; rfl), (by first | rfl | (rw [q10]; rfl))⟩), st_move (hle.ev rfl (by nofun)) (hle.d rfl)⟩
         refine ⟨⟨10 :: 11 :: 9 :: 8 :: 4 :: 7 :: 3 :: 2 :: 5 :: 6 :: 0 :: 1 :: [], (by decide +kernel), fun S hle hfr => ?_⟩, ?_⟩
         · exact .inl ⟨.inr (.inl ⟨_, _, _, _, rfl, rfl, (hle.ev (x := .tmp _) rfl (by nofun)), (by rw [hle.nt]; rfl), (by first | rfl | (rw [q10]; rfl))⟩), ev_cmp (hle.ev rfl (by nofun)) (hle.ev rfl (by nofun)) (hle.d rfl) rfl⟩
         refine ⟨⟨9 :: 12 :: 8 :: 4 :: 10 :: 11 :: 7 :: 3 :: 2 :: 5 :: 6 :: 0 :: 1 :: [], (by decide +kernel), fun S hle hfr => ?_⟩, ?_⟩
         · exact .inl ⟨.inl ⟨rfl, rfl⟩, st_pick_no (hle.ev rfl (by nofun)) (by first | rfl | exact q10) (hle.ev rfl (by nofun)) (hle.d rfl)⟩
         refine ⟨⟨13 :: 9 :: 12 :: 8 :: 4 :: 10 :: 11 :: 7 :: 3 :: 2 :: 5 :: 6 :: 0 :: 1 :: [], (by decide +kernel), fun S hle hfr => ?_⟩, ?_⟩
         · exact .inl ⟨.inl ⟨rfl, rfl⟩, st_move (hle.ev rfl (by nofun)) (hle.d rfl)⟩
         refine ⟨⟨14 :: 13 :: 9 :: 12 :: 8 :: 4 :: 10 :: 11 :: 7 :: 3 :: 2 :: 5 :: 6 :: 0 :: 1 :: [], (by decide +kernel), fun S hle hfr => ?_⟩, ?_⟩
         · exact .inr ⟨.inr (.inl ⟨_, _, _, _, rfl, rfl, (hle.ev (x := .tmp _) rfl (by nofun)), (by rw [hle.nt]; rfl), (by first | rfl | (rw [q11]; rfl))⟩), rfl, hle.d rfl⟩
         refine ⟨⟨15 :: 14 :: 13 :: 9 :: 12 :: 8 :: 4 :: 10 :: 11 :: 7 :: 3 :: 2 :: 5 :: 6 :: 0 :: 1 :: [], (by decide +kernel), fun S hle hfr => ?_⟩, ?_⟩
         · exact .inr ⟨.inr (.inl ⟨_, _, _, _, rfl, rfl, (hle.ev (x := .tmp _) rfl (by nofun)), (by rw [hle.nt]; rfl), (by first | rfl | (rw [q11]; rfl))⟩), rfl, hle.d rfl⟩
         refine ⟨⟨14 :: 13 :: 9 :: 12 :: 8 :: 4 :: 10 :: 11 :: 7 :: 3 :: 2 :: 5 :: 6 :: 0 :: 1 :: [], (by decide +kernel), fun S hle hfr => ?_⟩, ?_⟩
         · exact .inr ⟨.inr (.inl ⟨_, _, _, _, rfl, rfl, (hle.ev (x := .tmp _) rfl (by nofun)), (by rw [hle.nt]; rfl), (by first | rfl | (rw [q11]; rfl))⟩), rfl, hle.d rfl⟩
         refine ⟨⟨17 :: 16 :: 14 :: 15 :: 13 :: 9 :: 12 :: 8 :: 4 :: 10 :: 11 :: 7 :: 3 :: 2 :: 5 :: 6 :: 0 :: 1 :: [], (by decide +kernel), fun S hle hfr => ?_⟩, ?_⟩
         · exact .inr ⟨.inr (.inl ⟨_, _, _, _, rfl, rfl, (hle.ev (x := .tmp _) rfl (by nofun)), (by rw [hle.nt]; rfl), (by first | rfl | (rw [q11]; rfl))⟩), rfl, hle.d rfl⟩
         refine ⟨⟨16 :: 18 :: 14 :: 15 :: 17 :: 13 :: 9 :: 12 :: 8 :: 4 :: 10 :: 11 :: 7 :: 3 :: 2 :: 5 :: 6 :: 0 :: 1 :: [], (by decide +kernel), fun S hle hfr => ?_⟩, ?_⟩
         · exact .inr ⟨.inr (.inl ⟨_, _, _, _, rfl, rfl, (hle.ev (x := .tmp _) rfl (by nofun)), (by rw [hle.nt]; rfl), (by first | rfl | (rw [q11]; rfl))⟩), rfl, hle.d rfl⟩
         refine ⟨⟨14 :: 19 :: 13 :: 9 :: 16 :: 18 :: 12 :: 8 :: 4 :: 15 :: 17 :: 10 :: 11 :: 7 :: 3 :: 2 :: 5 :: 6 :: 0 :: 1 :: [], (by decide +kernel), fun S hle hfr => ?_⟩, ?_⟩
         · exact .inl ⟨.inl ⟨rfl, rfl⟩, st_pick_yes (hle.ev rfl (by nofun)) (by first | rfl | exact q11) (hle.ev rfl (by nofun)) (hle.d rfl)⟩
         refine ⟨⟨20 :: 18 :: 14 :: 19 :: 17 :: 16 :: 13 :: 9 :: 15 :: 12 :: 8 :: 4 :: 10 :: 11 :: 7 :: 3 :: 2 :: 5 :: 6 :: 0 :: 1 :: [], (by decide +kernel), fun S hle hfr => ?_⟩, ?_⟩
         · exact .inl ⟨.inl ⟨rfl, rfl⟩, st_move (hle.ev rfl (by nofun)) (hle.d rfl)⟩
         refine ⟨⟨21 :: 20 :: 18 :: 14 :: 19 :: 17 :: 16 :: 13 :: 9 :: 15 :: 12 :: 8 :: 4 :: 10 :: 11 :: 7 :: 3 :: 2 :: 5 :: 6 :: 0 :: 1 :: [], (by decide +kernel), fun S hle hfr => ?_⟩, ?_⟩
         · exact .inr ⟨.inr (.inl ⟨_, _, _, _, rfl, rfl, (hle.ev (x := .tmp _) rfl (by nofun)), (by rw [hle.nt]; rfl), (by first | rfl | (rw [rfl]; rfl))⟩), rfl, hle.d rfl⟩
         refine ⟨⟨21 :: 20 :: 18 :: 14 :: 19 :: 17 :: 16 :: 13 :: 9 :: 15 :: 12 :: 8 :: 4 :: 10 :: 11 :: 7 :: 3 :: 2 :: 5 :: 6 :: 0 :: 1 :: [], (by decide +kernel), fun S hle hfr => ?_⟩, ?_⟩
         · exact .inr ⟨.inr (.inl ⟨_, _, _, _, rfl, rfl, (hle.ev (x := .tmp _) rfl (by nofun)), (by rw [hle.nt]; rfl), (by first | rfl | (rw [rfl]; rfl))⟩), rfl, hle.d rfl⟩
         refine ⟨⟨22 :: 23 :: 21 :: 20 :: 18 :: 14 :: 19 :: 17 :: 16 :: 13 :: 9 :: 15 :: 12 :: 8 :: 4 :: 10 :: 11 :: 7 :: 3 :: 2 :: 5 :: 6 :: 0 :: 1 :: [], (by decide +kernel), fun S hle hfr => ?_⟩, ?_⟩
         · exact .inr ⟨.inr (.inl ⟨_, _, _, _, rfl, rfl, (hle.ev (x := .tmp _) rfl (by nofun)), (by rw [hle.nt]; rfl), (by first | rfl | (rw [rfl]; rfl))⟩), rfl, hle.d rfl⟩
         refine ⟨⟨21 :: 20 :: 18 :: 14 :: 19 :: 17 :: 16 :: 13 :: 9 :: 15 :: 12 :: 8 :: 4 :: 10 :: 11 :: 7 :: 3 :: 2 :: 5 :: 6 :: 0 :: 1 :: [], (by decide +kernel), fun S hle hfr => ?_⟩, ?_⟩
         · exact .inr ⟨.inr (.inl ⟨_, _, _, _, rfl, rfl, (hle.ev (x := .tmp _) rfl (by nofun)), (by rw [hle.nt]; rfl), (by first | rfl | (rw [rfl]; rfl))⟩), rfl, hle.d rfl⟩
         refine ⟨⟨21 :: 20 :: 18 :: 14 :: 19 :: 17 :: 16 :: 13 :: 9 :: 15 :: 12 :: 8 :: 4 :: 10 :: 11 :: 7 :: 3 :: 2 :: 5 :: 6 :: 0 :: 1 :: [], (by decide +kernel), fun S hle hfr => ?_⟩, ?_⟩
         · exact .inr ⟨.inr (.inl ⟨_, _, _, _, rfl, rfl, (hle.ev (x := .tmp _) rfl (by nofun)), (by rw [hle.nt]; rfl), (by first | rfl | (rw [rfl]; rfl))⟩), rfl, hle.d rfl⟩
         refine ⟨⟨25 :: 26 :: 24 :: 21 :: 22 :: 23 :: 20 :: 18 :: 14 :: 19 :: 17 :: 16 :: 13 :: 9 :: 15 :: 12 :: 8 :: 4 :: 10 :: 11 :: 7 :: 3 :: 2 :: 5 :: 6 :: 0 :: 1 :: [], (by decide +kernel), fun S hle hfr => ?_⟩, ?_⟩
         · exact .inr ⟨.inr (.inl ⟨_, _, _, _, rfl, rfl, (hle.ev (x := .tmp _) rfl (by nofun)), (by rw [hle.nt]; rfl), (by first | rfl | (rw [rfl]; rfl))⟩), rfl, hle.d rfl⟩
         refine ⟨⟨24 :: 27 :: 21 :: 22 :: 23 :: 25 :: 26 :: 20 :: 18 :: 14 :: 19 :: 17 :: 16 :: 13 :: 9 :: 15 :: 12 :: 8 :: 4 :: 10 :: 11 :: 7 :: 3 :: 2 :: 5 :: 6 :: 0 :: 1 :: [], (by decide +kernel), fun S hle hfr => ?_⟩, ?_⟩
         · exact .inr ⟨.inr (.inl ⟨_, _, _, _, rfl, rfl, (hle.ev (x := .tmp _) rfl (by nofun)), (by rw [hle.nt]; rfl), (by first | rfl | (rw [rfl]; rfl))⟩), rfl, hle.d rfl⟩
         refine ⟨⟨21 :: 28 :: 20 :: 18 :: 24 :: 27 :: 14 :: 19 :: 17 :: 16 :: 22 :: 23 :: 25 :: 26 :: 13 :: 9 :: 15 :: 12 :: 8 :: 4 :: 10 :: 11 :: 7 :: 3 :: 2 :: 5 :: 6 :: 0 :: 1 :: [], (by decide +kernel), fun S hle hfr => ?_⟩, ?_⟩
         · exact .inl ⟨.inl ⟨rfl, rfl⟩, st_pick_yes (hle.ev rfl (by nofun)) (by first | rfl | exact rfl) (hle.ev rfl (by nofun)) (hle.d rfl)⟩
         refine ⟨⟨29 :: 27 :: 21 :: 28 :: 25 :: 26 :: 24 :: 20 :: 18 :: 22 :: 23 :: 14 :: 19 :: 17 :: 16 :: 13 :: 9 :: 15 :: 12 :: 8 :: 4 :: 10 :: 11 :: 7 :: 3 :: 2 :: 5 :: 6 :: 0 :: 1 :: [], (by decide +kernel), fun S hle hfr => ?_⟩, ?_⟩
         · exact .inl ⟨.inl ⟨rfl, rfl⟩, st_move (hle.ev rfl (by nofun)) (hle.d rfl)⟩
         refine ⟨⟨30 :: 29 :: 27 :: 21 :: 28 :: 25 :: 26 :: 24 :: 20 :: 18 :: 22 :: 23 :: 14 :: 19 :: 17 :: 16 :: 13 :: 9 :: 15 :: 12 :: 8 :: 4 :: 10 :: 11 :: 7 :: 3 :: 2 :: 5 :: 6 :: 0 :: 1 :: [], (by decide +kernel), fun S hle hfr => ?_⟩, ?_⟩
         · exact .inr ⟨.inr (.inl ⟨_, _, _, _, rfl, rfl, (hle.ev (x := .tmp _) rfl (by nofun)), (by rw [hle.nt]; rfl), (by first | rfl | (rw [rfl]; rfl))⟩), rfl, hle.d rfl⟩
         refine ⟨⟨30 :: 29 :: 27 :: 21 :: 28 :: 25 :: 26 :: 24 :: 20 :: 18 :: 22 :: 23 :: 14 :: 19 :: 17 :: 16 :: 13 :: 9 :: 15 :: 12 :: 8 :: 4 :: 10 :: 11 :: 7 :: 3 :: 2 :: 5 :: 6 :: 0 :: 1 :: [], (by decide +kernel), fun S hle hfr => ?_⟩, ?_⟩
         · exact .inr ⟨.inr (.inl ⟨_, _, _, _, rfl, rfl, (hle.ev (x := .tmp _) rfl (by nofun)), (by rw [hle.nt]; rfl), (by first | rfl | (rw [rfl]; rfl))⟩), rfl, hle.d rfl⟩
         exact trivial
        case hk3x => rfl
        case hf3x => rfl
        refine aops_no rfl rfl rfl rfl rfl (by decide) ?_
        refine aops_no rfl rfl rfl rfl rfl (by decide) ?_
        refine aops_step1 rfl (st_pick_yes rfl (by first | rfl | exact rfl) rfl rfl) ?_
        refine aops_nil ?_
        refine aw_yes rfl (rfl) ?_
        refine aw_seq ?_
        refine aw_region ?_
        refine aops_step1 rfl (st_assign rfl rfl) ?_
        refine aops_nil ?_
        cases Option.some.inj h
        refine aw_ret ⟨rfl, ret_v (.inl ⟨_, rfl, rfl, fun _ e => nomatch e⟩) rfl rfl rfl ?_⟩
        (repeat' (first | exact TLe.refl _ | exact VLe.refl _ | exact CLe.refl _ | exact All2.nil | refine TLe.tup ?_ | refine TLe.v ?_ | refine All2.cons ?_ ?_ | refine VLe.agg ?_ | refine VLe.one ?_ | exact CLe.nil _ | exact CLe.emp _ | refine CLe.val ?_ | refine CLe.slc ?_ ?_))
      replace h := Md.cond_f h q11
      obtain ⟨x12, hx12, h⟩ := Md.bind_s h
      obtain ⟨x13, hx13, h⟩ := Md.bind_s h
      rcases Md.bool_or ((!(x12 == x13))) with q14 | q14
      · replace h := Md.cond_t h q14
        refine aw_seq ?_
        apply aw_draw 33 ((⟨[], .agg [.val (.int .i64 x6.1.Kind), .val (.int .i64 x6.1.N), .val (Sv x6.1.S), CV.ls c_Int x6.1.I, CV.ls c_Str x6.1.L]⟩ : Add) :: ⟨[], .agg [.val (.int .i64 x7.1.Kind), .val (.int .i64 x7.1.N), .val (Sv x7.1.S), CV.ls c_Int x7.1.I, CV.ls c_Str x7.1.L]⟩ :: ⟨[], .one (.val (.bool x8))⟩ :: ⟨[], .one (.val (.bool (!x8)))⟩ :: ⟨[], .one (.val (.bool (!x8)))⟩ :: ⟨[], .one (.val (.int .i64 x6.2.1))⟩ :: ⟨[], .one (.val (.int .i64 x7.2.1))⟩ :: ⟨[], .one (.val (.bool (x6.2.1 != x7.2.1)))⟩ :: ⟨[], .one (.val (.bool (x6.2.1 != x7.2.1)))⟩ :: ⟨[], .one (.val (.bool (x6.2.1 != x7.2.1)))⟩ :: ⟨[], .one (.val (.int .i64 x6.2.2))⟩ :: ⟨[], .one (.val (.int .i64 x7.2.2))⟩ :: ⟨[], .one (.val (.bool (x6.2.2 != x7.2.2)))⟩ :: ⟨[], .one (.val (.bool (x6.2.2 != x7.2.2)))⟩ :: ⟨[], .one (.val (.bool (x6.2.2 != x7.2.2)))⟩ :: ⟨[], .agg [.val (.int .i64 a1.Kind), .val (.int .i64 a1.N), .val (Sv a1.S), CV.ls c_Int a1.I, CV.ls c_Str a1.L]⟩ :: ⟨[], .one (.val (.bool x12))⟩ :: ⟨[], .agg [.val (.int .i64 a1.Kind), .val (.int .i64 a1.N), .val (Sv a1.S), CV.ls c_Int a1.I, CV.ls c_Str a1.L]⟩ :: ⟨[], .one (.val (.bool x13))⟩ :: ⟨[], .one (.val (.bool (!(x12 == x13))))⟩ :: ⟨[], .one (.val (.bool (!(x12 == x13))))⟩ :: ⟨[], .one (.val (.bool (!(x12 == x13))))⟩ :: ⟨[], .tup []⟩ :: ⟨[], .tup []⟩ :: ⟨[], .tup []⟩ :: ⟨[], .tup []⟩ :: ⟨[], .tup []⟩ :: ⟨[], .tup []⟩ :: ⟨[], .tup []⟩ :: ⟨[], .one (.val (.bool true))⟩ :: ⟨[], .one (.val (.bool true))⟩ :: ⟨[], .tup []⟩ :: ⟨[], .tup []⟩ :: []) (by decide) rfl ?hk4x ?hf4x ?ho4x ?hr4x
        case ho4x =>
         refine ⟨⟨[], (by decide +kernel), fun S hle hfr => ?_⟩, ?_⟩
         · exact .inl ⟨.inl ⟨rfl, rfl⟩, ev_loads (ds := [_, _, _, _, _]) (hle.ev rfl (by nofun)) (hle.heap _ _ rfl) rfl rfl (hle.d rfl)⟩
         refine ⟨⟨[], (by decide +kernel), fun S hle hfr => ?_⟩, ?_⟩
         · exact .inl ⟨.inl ⟨rfl, rfl⟩, ev_loads (ds := [_, _, _, _, _]) (hle.ev rfl (by nofun)) (hle.heap _ _ rfl) rfl rfl (hle.d rfl)⟩
         refine ⟨⟨0 :: 1 :: [], (by decide +kernel), fun S hle hfr => ?_⟩, ?_⟩
         · exact .inl ⟨.inl ⟨rfl, rfl⟩, ev_call_v (actorgridref1_SameValue_fn k x6.1 x7.1 x8 hx8) (map_ev (.cons (hle.ev rfl (by nofun)) (.cons (hle.ev rfl (by nofun)) (.nil)))) [] (by repeat' (first | exact All2.nil | refine All2.cons ?_ ?_ | refine ArgV.one ?_ | refine ArgV.agg ?_ | exact ArgC.mk rfl | exact ArgC.lend (hle.heap _ _ rfl) (by simp) | exact ArgC.le (CLe.nil _) rfl | exact ArgC.le (CLe.emp _) rfl | exact ArgC.le (CLe.any _) rfl)) rfl rfl rfl (.inl rfl) (hle.d rfl)⟩
         refine ⟨⟨2 :: 0 :: 1 :: [], (by decide +kernel), fun S hle hfr => ?_⟩, ?_⟩
         · exact .inl ⟨.inl ⟨rfl, rfl⟩, ev_not (hle.ev rfl (by nofun)) (hle.d rfl)⟩
         refine ⟨⟨3 :: 2 :: 0 :: 1 :: [], (by decide +kernel), fun S hle hfr => ?_⟩, ?_⟩
         · exact .inl ⟨.inl ⟨rfl, rfl⟩, st_move (hle.ev rfl (by nofun)) (hle.d rfl)⟩
         refine ⟨⟨4 :: 3 :: 2 :: 0 :: 1 :: [], (by decide +kernel), fun S hle hfr => ?_⟩, ?_⟩
         · exact .inl ⟨.inr (.inl ⟨_, _, _, _, rfl, rfl, (hle.ev (x := .tmp _) rfl (by nofun)), (by rw [hle.nt]; rfl), (by first | rfl | (rw [q9]; rfl))⟩), st_move (hle.ev rfl (by nofun)) (hle.d rfl)⟩
         refine ⟨⟨4 :: 3 :: 2 :: 0 :: 1 :: [], (by decide +kernel), fun S hle hfr => ?_⟩, ?_⟩
         · exact .inl ⟨.inr (.inl ⟨_, _, _, _, rfl, rfl, (hle.ev (x := .tmp _) rfl (by nofun)), (by rw [hle.nt]; rfl), (by first | rfl | (rw [q9]; rfl))⟩), st_move (hle.ev rfl (by nofun)) (hle.d rfl)⟩
         refine ⟨⟨5 :: 6 :: 4 :: 3 :: 2 :: 0 :: 1 :: [], (by decide +kernel), fun S hle hfr => ?_⟩, ?_⟩
         · exact .inl ⟨.inr (.inl ⟨_, _, _, _, rfl, rfl, (hle.ev (x := .tmp _) rfl (by nofun)), (by rw [hle.nt]; rfl), (by first | rfl | (rw [q9]; rfl))⟩), ev_cmp (hle.ev rfl (by nofun)) (hle.ev rfl (by nofun)) (hle.d rfl) rfl⟩
         refine ⟨⟨4 :: 7 :: 3 :: 2 :: 5 :: 6 :: 0 :: 1 :: [], (by decide +kernel), fun S hle hfr => ?_⟩, ?_⟩
         · exact .inl ⟨.inl ⟨rfl, rfl⟩, st_pick_no (hle.ev rfl (by nofun)) (by first | rfl | exact q9) (hle.ev rfl (by nofun)) (hle.d rfl)⟩
         refine ⟨⟨8 :: 4 :: 7 :: 3 :: 2 :: 5 :: 6 :: 0 :: 1 :: [], (by decide +kernel), fun S hle hfr => ?_⟩, ?_⟩
         · exact .inl ⟨.inl ⟨rfl, rfl⟩, st_move (hle.ev rfl (by nofun)) (hle.d rfl)⟩
         refine ⟨⟨9 :: 8 :: 4 :: 7 :: 3 :: 2 :: 5 :: 6 :: 0 :: 1 :: [], (by decide +kernel), fun S hle hfr => ?_⟩, ?_⟩
         · exact .inl ⟨.inr (.inl ⟨_, _, _, _, rfl, rfl, (hle.ev (x := .tmp _) rfl (by nofun)), (by rw [hle.nt]; rfl), (by first | rfl | (rw [q10]; rfl))⟩), st_move (hle.ev rfl (by nofun)) (hle.d rfl)⟩
         refine ⟨⟨9 :: 8 :: 4 :: 7 :: 3 :: 2 :: 5 :: 6 :: 0 :: 1 :: [], (by decide +kernel), fun S hle hfr => ?_⟩, ?_⟩
         · exact .inl ⟨.inr (.inl ⟨_, _, _, _, rfl, rfl, (hle.ev (x := .tmp _) rfl (by nofun)), (by rw [hle.nt]; rfl), (by first | rfl | (rw [q10]; rfl))⟩), st_move (hle.ev rfl (by nofun)) (hle.d rfl)⟩
         refine ⟨⟨10 :: 11 :: 9 :: 8 :: 4 :: 7 :: 3 :: 2 :: 5 :: 6 :: 0 :: 1 :: [], (by decide +kernel), fun S hle hfr => ?_⟩, ?_⟩
         · exact .inl ⟨.inr (.inl ⟨_, _, _, _, rfl, rfl, (hle.ev (x := .tmp _) rfl (by nofun)), (by rw [hle.nt]; rfl), (by first | rfl | (rw [q10]; rfl))⟩), ev_cmp (hle.ev rfl (by nofun)) (hle.ev rfl (by nofun)) (hle.d rfl) rfl⟩
         refine ⟨⟨9 :: 12 :: 8 :: 4 :: 10 :: 11 :: 7 :: 3 :: 2 :: 5 :: 6 :: 0 :: 1 :: [], (by decide +kernel), fun S hle hfr => ?_⟩, ?_⟩
         · exact .inl ⟨.inl ⟨rfl, rfl⟩, st_pick_no (hle.ev rfl (by nofun)) (by first | rfl | exact q10) (hle.ev rfl (by nofun)) (hle.d rfl)⟩
         refine ⟨⟨13 :: 9 :: 12 :: 8 :: 4 :: 10 :: 11 :: 7 :: 3 :: 2 :: 5 :: 6 :: 0 :: 1 :: [], (by decide +kernel), fun S hle hfr => ?_⟩, ?_⟩
         · exact .inl ⟨.inl ⟨rfl, rfl⟩, st_move (hle.ev rfl (by nofun)) (hle.d rfl)⟩
         refine ⟨⟨14 :: 13 :: 9 :: 12 :: 8 :: 4 :: 10 :: 11 :: 7 :: 3 :: 2 :: 5 :: 6 :: 0 :: 1 :: [], (by decide +kernel), fun S hle hfr => ?_⟩, ?_⟩
         · exact .inl ⟨.inr (.inl ⟨_, _, _, _, rfl, rfl, (hle.ev (x := .tmp _) rfl (by nofun)), (by rw [hle.nt]; rfl), (by first | rfl | (rw [q11]; rfl))⟩), ev_loads (ds := [_, _, _, _, _]) (hle.ev rfl (by nofun)) (hle.heap _ _ rfl) rfl rfl (hle.d rfl)⟩
         refine ⟨⟨15 :: 14 :: 13 :: 9 :: 12 :: 8 :: 4 :: 10 :: 11 :: 7 :: 3 :: 2 :: 5 :: 6 :: 0 :: 1 :: [], (by decide +kernel), fun S hle hfr => ?_⟩, ?_⟩
         · exact .inl ⟨.inr (.inl ⟨_, _, _, _, rfl, rfl, (hle.ev (x := .tmp _) rfl (by nofun)), (by rw [hle.nt]; rfl), (by first | rfl | (rw [q11]; rfl))⟩), ev_call_v (wire_ValidValue_fn k a1 x12 hx12) (map_ev (.cons (hle.ev rfl (by nofun)) (.nil))) [] (by repeat' (first | exact All2.nil | refine All2.cons ?_ ?_ | refine ArgV.one ?_ | refine ArgV.agg ?_ | exact ArgC.mk rfl | exact ArgC.lend (hle.heap _ _ rfl) (by simp) | exact ArgC.le (CLe.nil _) rfl | exact ArgC.le (CLe.emp _) rfl | exact ArgC.le (CLe.any _) rfl)) rfl rfl rfl (.inl rfl) (hle.d rfl)⟩
         refine ⟨⟨14 :: 13 :: 9 :: 12 :: 8 :: 4 :: 10 :: 11 :: 7 :: 3 :: 2 :: 5 :: 6 :: 0 :: 1 :: [], (by decide +kernel), fun S hle hfr => ?_⟩, ?_⟩
         · exact .inl ⟨.inr (.inl ⟨_, _, _, _, rfl, rfl, (hle.ev (x := .tmp _) rfl (by nofun)), (by rw [hle.nt]; rfl), (by first | rfl | (rw [q11]; rfl))⟩), ev_loads (ds := [_, _, _, _, _]) (hle.ev rfl (by nofun)) (hle.heap _ _ rfl) rfl rfl (hle.d rfl)⟩
         refine ⟨⟨17 :: 16 :: 14 :: 15 :: 13 :: 9 :: 12 :: 8 :: 4 :: 10 :: 11 :: 7 :: 3 :: 2 :: 5 :: 6 :: 0 :: 1 :: [], (by decide +kernel), fun S hle hfr => ?_⟩, ?_⟩
         · exact .inl ⟨.inr (.inl ⟨_, _, _, _, rfl, rfl, (hle.ev (x := .tmp _) rfl (by nofun)), (by rw [hle.nt]; rfl), (by first | rfl | (rw [q11]; rfl))⟩), ev_call_v (actorgridref1_ValidValue_fn k a1 x13 hx13) (map_ev (.cons (hle.ev rfl (by nofun)) (.nil))) [] (by repeat' (first | exact All2.nil | refine All2.cons ?_ ?_ | refine ArgV.one ?_ | refine ArgV.agg ?_ | exact ArgC.mk rfl | exact ArgC.lend (hle.heap _ _ rfl) (by simp) | exact ArgC.le (CLe.nil _) rfl | exact ArgC.le (CLe.emp _) rfl | exact ArgC.le (CLe.any _) rfl)) rfl rfl rfl (.inl rfl) (hle.d rfl)⟩
         refine ⟨⟨16 :: 18 :: 14 :: 15 :: 17 :: 13 :: 9 :: 12 :: 8 :: 4 :: 10 :: 11 :: 7 :: 3 :: 2 :: 5 :: 6 :: 0 :: 1 :: [], (by decide +kernel), fun S hle hfr => ?_⟩, ?_⟩
         · exact .inl ⟨.inr (.inl ⟨_, _, _, _, rfl, rfl, (hle.ev (x := .tmp _) rfl (by nofun)), (by rw [hle.nt]; rfl), (by first | rfl | (rw [q11]; rfl))⟩), ev_bool_ne (hle.ev rfl (by nofun)) (hle.ev rfl (by nofun)) (hle.d rfl) Try.underlying4 rfl⟩
         refine ⟨⟨14 :: 19 :: 13 :: 9 :: 16 :: 18 :: 12 :: 8 :: 4 :: 15 :: 17 :: 10 :: 11 :: 7 :: 3 :: 2 :: 5 :: 6 :: 0 :: 1 :: [], (by decide +kernel), fun S hle hfr => ?_⟩, ?_⟩
         · exact .inl ⟨.inl ⟨rfl, rfl⟩, st_pick_no (hle.ev rfl (by nofun)) (by first | rfl | exact q11) (hle.ev rfl (by nofun)) (hle.d rfl)⟩
         refine ⟨⟨20 :: 18 :: 14 :: 19 :: 17 :: 16 :: 13 :: 9 :: 15 :: 12 :: 8 :: 4 :: 10 :: 11 :: 7 :: 3 :: 2 :: 5 :: 6 :: 0 :: 1 :: [], (by decide +kernel), fun S hle hfr => ?_⟩, ?_⟩
         · exact .inl ⟨.inl ⟨rfl, rfl⟩, st_move (hle.ev rfl (by nofun)) (hle.d rfl)⟩
         refine ⟨⟨21 :: 20 :: 18 :: 14 :: 19 :: 17 :: 16 :: 13 :: 9 :: 15 :: 12 :: 8 :: 4 :: 10 :: 11 :: 7 :: 3 :: 2 :: 5 :: 6 :: 0 :: 1 :: [], (by decide +kernel), fun S hle hfr => ?_⟩, ?_⟩
         · exact .inr ⟨.inr (.inl ⟨_, _, _, _, rfl, rfl, (hle.ev (x := .tmp _) rfl (by nofun)), (by rw [hle.nt]; rfl), (by first | rfl | (rw [q14]; rfl))⟩), rfl, hle.d rfl⟩
         refine ⟨⟨21 :: 20 :: 18 :: 14 :: 19 :: 17 :: 16 :: 13 :: 9 :: 15 :: 12 :: 8 :: 4 :: 10 :: 11 :: 7 :: 3 :: 2 :: 5 :: 6 :: 0 :: 1 :: [], (by decide +kernel), fun S hle hfr => ?_⟩, ?_⟩
         · exact .inr ⟨.inr (.inl ⟨_, _, _, _, rfl, rfl, (hle.ev (x := .tmp _) rfl (by nofun)), (by rw [hle.nt]; rfl), (by first | rfl | (rw [q14]; rfl))⟩), rfl, hle.d rfl⟩
         refine ⟨⟨22 :: 23 :: 21 :: 20 :: 18 :: 14 :: 19 :: 17 :: 16 :: 13 :: 9 :: 15 :: 12 :: 8 :: 4 :: 10 :: 11 :: 7 :: 3 :: 2 :: 5 :: 6 :: 0 :: 1 :: [], (by decide +kernel), fun S hle hfr => ?_⟩, ?_⟩
         · exact .inr ⟨.inr (.inl ⟨_, _, _, _, rfl, rfl, (hle.ev (x := .tmp _) rfl (by nofun)), (by rw [hle.nt]; rfl), (by first | rfl | (rw [q14]; rfl))⟩), rfl, hle.d rfl⟩
         refine ⟨⟨21 :: 20 :: 18 :: 14 :: 19 :: 17 :: 16 :: 13 :: 9 :: 15 :: 12 :: 8 :: 4 :: 10 :: 11 :: 7 :: 3 :: 2 :: 5 :: 6 :: 0 :: 1 :: [], (by decide +kernel), fun S hle hfr => ?_⟩, ?_⟩
         · exact .inr ⟨.inr (.inl ⟨_, _, _, _, rfl, rfl, (hle.ev (x := .tmp _) rfl (by nofun)), (by rw [hle.nt]; rfl), (by first | rfl | (rw [q14]; rfl))⟩), rfl, hle.d rfl⟩
         refine ⟨⟨21 :: 20 :: 18 :: 14 :: 19 :: 17 :: 16 :: 13 :: 9 :: 15 :: 12 :: 8 :: 4 :: 10 :: 11 :: 7 :: 3 :: 2 :: 5 :: 6 :: 0 :: 1 :: [], (by decide +kernel), fun S hle hfr => ?_⟩, ?_⟩
         · exact .inr ⟨.inr (.inl ⟨_, _, _, _, rfl, rfl, (hle.ev (x := .tmp _) rfl (by nofun)), (by rw [hle.nt]; rfl), (by first | rfl | (rw [q14]; rfl))⟩), rfl, hle.d rfl⟩
         refine ⟨⟨25 :: 26 :: 24 :: 21 :: 22 :: 23 :: 20 :: 18 :: 14 :: 19 :: 17 :: 16 :: 13 :: 9 :: 15 :: 12 :: 8 :: 4 :: 10 :: 11 :: 7 :: 3 :: 2 :: 5 :: 6 :: 0 :: 1 :: [], (by decide +kernel), fun S hle hfr => ?_⟩, ?_⟩
         · exact .inr ⟨.inr (.inl ⟨_, _, _, _, rfl, rfl, (hle.ev (x := .tmp _) rfl (by nofun)), (by rw [hle.nt]; rfl), (by first | rfl | (rw [q14]; rfl))⟩), rfl, hle.d rfl⟩
         refine ⟨⟨24 :: 27 :: 21 :: 22 :: 23 :: 25 :: 26 :: 20 :: 18 :: 14 :: 19 :: 17 :: 16 :: 13 :: 9 :: 15 :: 12 :: 8 :: 4 :: 10 :: 11 :: 7 :: 3 :: 2 :: 5 :: 6 :: 0 :: 1 :: [], (by decide +kernel), fun S hle hfr => ?_⟩, ?_⟩
         · exact .inr ⟨.inr (.inl ⟨_, _, _, _, rfl, rfl, (hle.ev (x := .tmp _) rfl (by nofun)), (by rw [hle.nt]; rfl), (by first | rfl | (rw [q14]; rfl))⟩), rfl, hle.d rfl⟩
         refine ⟨⟨21 :: 28 :: 20 :: 18 :: 24 :: 27 :: 14 :: 19 :: 17 :: 16 :: 22 :: 23 :: 25 :: 26 :: 13 :: 9 :: 15 :: 12 :: 8 :: 4 :: 10 :: 11 :: 7 :: 3 :: 2 :: 5 :: 6 :: 0 :: 1 :: [], (by decide +kernel), fun S hle hfr => ?_⟩, ?_⟩
         · exact .inl ⟨.inl ⟨rfl, rfl⟩, st_pick_yes (hle.ev rfl (by nofun)) (by first | rfl | exact q14) (hle.ev rfl (by nofun)) (hle.d rfl)⟩
         refine ⟨⟨29 :: 27 :: 21 :: 28 :: 25 :: 26 :: 24 :: 20 :: 18 :: 22 :: 23 :: 14 :: 19 :: 17 :: 16 :: 13 :: 9 :: 15 :: 12 :: 8 :: 4 :: 10 :: 11 :: 7 :: 3 :: 2 :: 5 :: 6 :: 0 :: 1 :: [], (by decide +kernel), fun S hle hfr => ?_⟩, ?_⟩
         · exact .inl ⟨.inl ⟨rfl, rfl⟩, st_move (hle.ev rfl (by nofun)) (hle.d rfl)⟩
         refine ⟨⟨30 :: 29 :: 27 :: 21 :: 28 :: 25 :: 26 :: 24 :: 20 :: 18 :: 22 :: 23 :: 14 :: 19 :: 17 :: 16 :: 13 :: 9 :: 15 :: 12 :: 8 :: 4 :: 10 :: 11 :: 7 :: 3 :: 2 :: 5 :: 6 :: 0 :: 1 :: [], (by decide +kernel), fun S hle hfr => ?_⟩, ?_⟩
         · exact .inr ⟨.inr (.inl ⟨_, _, _, _, rfl, rfl, (hle.ev (x := .tmp _) rfl (by nofun)), (by rw [hle.nt]; rfl), (by first | rfl | (rw [rfl]; rfl))⟩), rfl, hle.d rfl⟩
         refine ⟨⟨30 :: 29 :: 27 :: 21 :: 28 :: 25 :: 26 :: 24 :: 20 :: 18 :: 22 :: 23 :: 14 :: 19 :: 17 :: 16 :: 13 :: 9 :: 15 :: 12 :: 8 :: 4 :: 10 :: 11 :: 7 :: 3 :: 2 :: 5 :: 6 :: 0 :: 1 :: [], (by decide +kernel), fun S hle hfr => ?_⟩, ?_⟩
         · exact .inr ⟨.inr (.inl ⟨_, _, _, _, rfl, rfl, (hle.ev (x := .tmp _) rfl (by nofun)), (by rw [hle.nt]; rfl), (by first | rfl | (rw [rfl]; rfl))⟩), rfl, hle.d rfl⟩
         exact trivial
        case hk4x => rfl
        case hf4x => rfl
        refine aops_no rfl rfl rfl rfl rfl (by decide) ?_
        refine aops_no rfl rfl rfl rfl rfl (by decide) ?_
        refine aops_step1 rfl (st_pick_yes rfl (by first | rfl | exact rfl) rfl rfl) ?_
        refine aops_nil ?_
        refine aw_yes rfl (rfl) ?_
        refine aw_seq ?_
        refine aw_region ?_
        refine aops_step1 rfl (st_assign rfl rfl) ?_
        refine aops_nil ?_
        cases Option.some.inj h
        refine aw_ret ⟨rfl, ret_v (.inl ⟨_, rfl, rfl, fun _ e => nomatch e⟩) rfl rfl rfl ?_⟩
        (repeat' (first | exact TLe.refl _ | exact VLe.refl _ | exact CLe.refl _ | exact All2.nil | refine TLe.tup ?_ | refine TLe.v ?_ | refine All2.cons ?_ ?_ | refine VLe.agg ?_ | refine VLe.one ?_ | exact CLe.nil _ | exact CLe.emp _ | refine CLe.val ?_ | refine CLe.slc ?_ ?_))
      replace h := Md.cond_f h q14
      obtain ⟨x15, hx15, h⟩ := Md.bind_s h
      obtain ⟨x16, hx16, h⟩ := Md.bind_s h
      rcases Md.bool_or ((!(x15 == x16))) with q17 | q17
      · replace h := Md.cond_t h q17
        refine aw_seq ?_
        apply aw_draw 33 ((⟨[], .agg [.val (.int .i64 x6.1.Kind), .val (.int .i64 x6.1.N), .val (Sv x6.1.S), CV.ls c_Int x6.1.I, CV.ls c_Str x6.1.L]⟩ : Add) :: ⟨[], .agg [.val (.int .i64 x7.1.Kind), .val (.int .i64 x7.1.N), .val (Sv x7.1.S), CV.ls c_Int x7.1.I, CV.ls c_Str x7.1.L]⟩ :: ⟨[], .one (.val (.bool x8))⟩ :: ⟨[], .one (.val (.bool (!x8)))⟩ :: ⟨[], .one (.val (.bool (!x8)))⟩ :: ⟨[], .one (.val (.int .i64 x6.2.1))⟩ :: ⟨[], .one (.val (.int .i64 x7.2.1))⟩ :: ⟨[], .one (.val (.bool (x6.2.1 != x7.2.1)))⟩ :: ⟨[], .one (.val (.bool (x6.2.1 != x7.2.1)))⟩ :: ⟨[], .one (.val (.bool (x6.2.1 != x7.2.1)))⟩ :: ⟨[], .one (.val (.int .i64 x6.2.2))⟩ :: ⟨[], .one (.val (.int .i64 x7.2.2))⟩ :: ⟨[], .one (.val (.bool (x6.2.2 != x7.2.2)))⟩ :: ⟨[], .one (.val (.bool (x6.2.2 != x7.2.2)))⟩ :: ⟨[], .one (.val (.bool (x6.2.2 != x7.2.2)))⟩ :: ⟨[], .agg [.val (.int .i64 a1.Kind), .val (.int .i64 a1.N), .val (Sv a1.S), CV.ls c_Int a1.I, CV.ls c_Str a1.L]⟩ :: ⟨[], .one (.val (.bool x12))⟩ :: ⟨[], .agg [.val (.int .i64 a1.Kind), .val (.int .i64 a1.N), .val (Sv a1.S), CV.ls c_Int a1.I, CV.ls c_Str a1.L]⟩ :: ⟨[], .one (.val (.bool x13))⟩ :: ⟨[], .one (.val (.bool (!(x12 == x13))))⟩ :: ⟨[], .one (.val (.bool (!(x12 == x13))))⟩ :: ⟨[], .one (.val (.bool (!(x12 == x13))))⟩ :: ⟨[], .agg [.val (.int .i64 a1.Kind), .val (.int .i64 a1.N), .val (Sv a1.S), CV.ls c_Int a1.I, CV.ls c_Str a1.L]⟩ :: ⟨[], .agg [.val (.int .i64 a2.Kind), .val (.int .i64 a2.N), .val (Sv a2.S), CV.ls c_Int a2.I, CV.ls c_Str a2.L]⟩ :: ⟨[], .one (.val (.bool x15))⟩ :: ⟨[], .agg [.val (.int .i64 a1.Kind), .val (.int .i64 a1.N), .val (Sv a1.S), CV.ls c_Int a1.I, CV.ls c_Str a1.L]⟩ :: ⟨[], .agg [.val (.int .i64 a2.Kind), .val (.int .i64 a2.N), .val (Sv a2.S), CV.ls c_Int a2.I, CV.ls c_Str a2.L]⟩ :: ⟨[], .one (.val (.bool x16))⟩ :: ⟨[], .one (.val (.bool (!(x15 == x16))))⟩ :: ⟨[], .one (.val (.bool (!(x15 == x16))))⟩ :: ⟨[], .one (.val (.bool (!(x15 == x16))))⟩ :: ⟨[], .tup []⟩ :: ⟨[], .tup []⟩ :: []) (by decide) rfl ?hk5x ?hf5x ?ho5x ?hr5x
        case ho5x =>
         refine ⟨⟨[], (by decide +kernel), fun S hle hfr => ?_⟩, ?_⟩
         · exact .inl ⟨.inl ⟨rfl, rfl⟩, ev_loads (ds := [_, _, _, _, _]) (hle.ev rfl (by nofun)) (hle.heap _ _ rfl) rfl rfl (hle.d rfl)⟩
         refine ⟨⟨[], (by decide +kernel), fun S hle hfr => ?_⟩, ?_⟩
         · exact .inl ⟨.inl ⟨rfl, rfl⟩, ev_loads (ds := [_, _, _, _, _]) (hle.ev rfl (by nofun)) (hle.heap _ _ rfl) rfl rfl (hle.d rfl)⟩
         refine ⟨⟨0 :: 1 :: [], (by decide +kernel), fun S hle hfr => ?_⟩, ?_⟩
         · exact .inl ⟨.inl ⟨rfl, rfl⟩, ev_call_v (actorgridref1_SameValue_fn k x6.1 x7.1 x8 hx8) (map_ev (.cons (hle.ev rfl (by nofun)) (.cons (hle.ev rfl (by nofun)) (.nil)))) [] (by repeat' (first | exact All2.nil | refine All2.cons ?_ ?_ | refine ArgV.one ?_ | refine ArgV.agg ?_ | exact ArgC.mk rfl | exact ArgC.lend (hle.heap _ _ rfl) (by simp) | exact ArgC.le (CLe.nil _) rfl | exact ArgC.le (CLe.emp _) rfl | exact ArgC.le (CLe.any _) rfl)) rfl rfl rfl (.inl rfl) (hle.d rfl)⟩
         refine ⟨⟨2 :: 0 :: 1 :: [], (by decide +kernel), fun S hle hfr => ?_⟩, ?_⟩
         · exact .inl ⟨.inl ⟨rfl, rfl⟩, ev_not (hle.ev rfl (by nofun)) (hle.d rfl)⟩
         refine ⟨⟨3 :: 2 :: 0 :: 1 :: [], (by decide +kernel), fun S hle hfr => ?_⟩, ?_⟩
         · exact .inl ⟨.inl ⟨rfl, rfl⟩, st_move (hle.ev rfl (by nofun)) (hle.d rfl)⟩
         refine ⟨⟨4 :: 3 :: 2 :: 0 :: 1 :: [], (by decide +kernel), fun S hle hfr => ?_⟩, ?_⟩
         · exact .inl ⟨.inr (.inl ⟨_, _, _, _, rfl, rfl, (hle.ev (x := .tmp _) rfl (by nofun)), (by rw [hle.nt]; rfl), (by first | rfl | (rw [q9]; rfl))⟩), st_move (hle.ev rfl (by nofun)) (hle.d rfl)⟩
         refine ⟨⟨4 :: 3 :: 2 :: 0 :: 1 :: [], (by decide +kernel), fun S hle hfr => ?_⟩, ?_⟩
         · exact .inl ⟨.inr (.inl ⟨_, _, _, _, rfl, rfl, (hle.ev (x := .tmp _) rfl (by nofun)), (by rw [hle.nt]; rfl), (by first | rfl | (rw [q9]; rfl))⟩), st_move (hle.ev rfl (by nofun)) (hle.d rfl)⟩
         refine ⟨⟨5 :: 6 :: 4 :: 3 :: 2 :: 0 :: 1 :: [], (by decide +kernel), fun S hle hfr => ?_⟩, ?_⟩
         · exact .inl ⟨.inr (.inl ⟨_, _, _, _, rfl, rfl, (hle.ev (x := .tmp _) rfl (by nofun)), (by rw [hle.nt]; rfl), (by first | rfl | (rw [q9]; rfl))⟩), ev_cmp (hle.ev rfl (by nofun)) (hle.ev rfl (by nofun)) (hle.d rfl) rfl⟩
         refine ⟨⟨4 :: 7 :: 3 :: 2 :: 5 :: 6 :: 0 :: 1 :: [], (by decide +kernel), fun S hle hfr => ?_⟩, ?_⟩
         · exact .inl ⟨.inl ⟨rfl, rfl⟩, st_pick_no (hle.ev rfl (by nofun)) (by first | rfl | exact q9) (hle.ev rfl (by nofun)) (hle.d rfl)⟩
         refine ⟨⟨8 :: 4 :: 7 :: 3 :: 2 :: 5 :: 6 :: 0 :: 1 :: [], (by decide +kernel), fun S hle hfr => ?_⟩, ?_⟩
         · exact .inl ⟨.inl ⟨rfl, rfl⟩, st_move (hle.ev rfl (by nofun)) (hle.d rfl)⟩
         refine ⟨⟨9 :: 8 :: 4 :: 7 :: 3 :: 2 :: 5 :: 6 :: 0 :: 1 :: [], (by decide +kernel), fun S hle hfr => ?_⟩, ?_⟩
         · exact .inl ⟨.inr (.inl ⟨_, _, _, _, rfl, rfl, (hle.ev (x := .tmp _) rfl (by nofun)), (by rw [hle.nt]; rfl), (by first | rfl | (rw [q10]; rfl))⟩), st_move (hle.ev rfl (by nofun)) (hle.d rfl)⟩
         refine ⟨⟨9 :: 8 :: 4 :: 7 :: 3 :: 2 :: 5 :: 6 :: 0 :: 1 :: [], (by decide +kernel), fun S hle hfr => ?_⟩, ?_⟩
         · exact .inl ⟨.inr (.inl ⟨_, _, _, _, rfl, rfl, (hle.ev (x := .tmp _) rfl (by nofun)), (by rw [hle.nt]; rfl), (by first | rfl | (rw [q10]; rfl))⟩), st_move (hle.ev rfl (by nofun)) (hle.d rfl)⟩
         refine ⟨⟨10 :: 11 :: 9 :: 8 :: 4 :: 7 :: 3 :: 2 :: 5 :: 6 :: 0 :: 1 :: [], (by decide +kernel), fun S hle hfr => ?_⟩, ?_⟩
         · exact .inl ⟨.inr (.inl ⟨_, _, _, _, rfl, rfl, (hle.ev (x := .tmp _) rfl (by nofun)), (by rw [hle.nt]; rfl), (by first | rfl | (rw [q10]; rfl))⟩), ev_cmp (hle.ev rfl (by nofun)) (hle.ev rfl (by nofun)) (hle.d rfl) rfl⟩
         refine ⟨⟨9 :: 12 :: 8 :: 4 :: 10 :: 11 :: 7 :: 3 :: 2 :: 5 :: 6 :: 0 :: 1 :: [], (by decide +kernel), fun S hle hfr => ?_⟩, ?_⟩
         · exact .inl ⟨.inl ⟨rfl, rfl⟩, st_pick_no (hle.ev rfl (by nofun)) (by first | rfl | exact q10) (hle.ev rfl (by nofun)) (hle.d rfl)⟩
         refine ⟨⟨13 :: 9 :: 12 :: 8 :: 4 :: 10 :: 11 :: 7 :: 3 :: 2 :: 5 :: 6 :: 0 :: 1 :: [], (by decide +kernel), fun S hle hfr => ?_⟩, ?_⟩
         · exact .inl ⟨.inl ⟨rfl, rfl⟩, st_move (hle.ev rfl (by nofun)) (hle.d rfl)⟩
         refine ⟨⟨14 :: 13 :: 9 :: 12 :: 8 :: 4 :: 10 :: 11 :: 7 :: 3 :: 2 :: 5 :: 6 :: 0 :: 1 :: [], (by decide +kernel), fun S hle hfr => ?_⟩, ?_⟩
         · exact .inl ⟨.inr (.inl ⟨_, _, _, _, rfl, rfl, (hle.ev (x := .tmp _) rfl (by nofun)), (by rw [hle.nt]; rfl), (by first | rfl | (rw [q11]; rfl))⟩), ev_loads (ds := [_, _, _, _, _]) (hle.ev rfl (by nofun)) (hle.heap _ _ rfl) rfl rfl (hle.d rfl)⟩
         refine ⟨⟨15 :: 14 :: 13 :: 9 :: 12 :: 8 :: 4 :: 10 :: 11 :: 7 :: 3 :: 2 :: 5 :: 6 :: 0 :: 1 :: [], (by decide +kernel), fun S hle hfr => ?_⟩, ?_⟩
         · exact .inl ⟨.inr (.inl ⟨_, _, _, _, rfl, rfl, (hle.ev (x := .tmp _) rfl (by nofun)), (by rw [hle.nt]; rfl), (by first | rfl | (rw [q11]; rfl))⟩), ev_call_v (wire_ValidValue_fn k a1 x12 hx12) (map_ev (.cons (hle.ev rfl (by nofun)) (.nil))) [] (by repeat' (first | exact All2.nil | refine All2.cons ?_ ?_ | refine ArgV.one ?_ | refine ArgV.agg ?_ | exact ArgC.mk rfl | exact ArgC.lend (hle.heap _ _ rfl) (by simp) | exact ArgC.le (CLe.nil _) rfl | exact ArgC.le (CLe.emp _) rfl | exact ArgC.le (CLe.any _) rfl)) rfl rfl rfl (.inl rfl) (hle.d rfl)⟩
         refine ⟨⟨14 :: 13 :: 9 :: 12 :: 8 :: 4 :: 10 :: 11 :: 7 :: 3 :: 2 :: 5 :: 6 :: 0 :: 1 :: [], (by decide +kernel), fun S hle hfr => ?_⟩, ?_⟩
         · exact .inl ⟨.inr (.inl ⟨_, _, _, _, rfl, rfl, (hle.ev (x := .tmp _) rfl (by nofun)), (by rw [hle.nt]; rfl), (by first | rfl | (rw [q11]; rfl))⟩), ev_loads (ds := [_, _, _, _, _]) (hle.ev rfl (by nofun)) (hle.heap _ _ rfl) rfl rfl (hle.d rfl)⟩
         refine ⟨⟨17 :: 16 :: 14 :: 15 :: 13 :: 9 :: 12 :: 8 :: 4 :: 10 :: 11 :: 7 :: 3 :: 2 :: 5 :: 6 :: 0 :: 1 :: [], (by decide +kernel), fun S hle hfr => ?_⟩, ?_⟩
         · exact .inl ⟨.inr (.inl ⟨_, _, _, _, rfl, rfl, (hle.ev (x := .tmp _) rfl (by nofun)), (by rw [hle.nt]; rfl), (by first | rfl | (rw [q11]; rfl))⟩), ev_call_v (actorgridref1_ValidValue_fn k a1 x13 hx13) (map_ev (.cons (hle.ev rfl (by nofun)) (.nil))) [] (by repeat' (first | exact All2.nil | refine All2.cons ?_ ?_ | refine ArgV.one ?_ | refine ArgV.agg ?_ | exact ArgC.mk rfl | exact ArgC.lend (hle.heap _ _ rfl) (by simp) | exact ArgC.le (CLe.nil _) rfl | exact ArgC.le (CLe.emp _) rfl | exact ArgC.le (CLe.any _) rfl)) rfl rfl rfl (.inl rfl) (hle.d rfl)⟩
         refine ⟨⟨16 :: 18 :: 14 :: 15 :: 17 :: 13 :: 9 :: 12 :: 8 :: 4 :: 10 :: 11 :: 7 :: 3 :: 2 :: 5 :: 6 :: 0 :: 1 :: [], (by decide +kernel), fun S hle hfr => ?_⟩, ?_⟩
         · exact .inl ⟨.inr (.inl ⟨_, _, _, _, rfl, rfl, (hle.ev (x := .tmp _) rfl (by nofun)), (by rw [hle.nt]; rfl), (by first | rfl | (rw [q11]; rfl))⟩), ev_bool_ne (hle.ev rfl (by nofun)) (hle.ev rfl (by nofun)) (hle.d rfl) Try.underlying4 rfl⟩
         refine ⟨⟨14 :: 19 :: 13 :: 9 :: 16 :: 18 :: 12 :: 8 :: 4 :: 15 :: 17 :: 10 :: 11 :: 7 :: 3 :: 2 :: 5 :: 6 :: 0 :: 1 :: [], (by decide +kernel), fun S hle hfr => ?_⟩, ?_⟩
         · exact .inl ⟨.inl ⟨rfl, rfl⟩, st_pick_no (hle.ev rfl (by nofun)) (by first | rfl | exact q11) (hle.ev rfl (by nofun)) (hle.d rfl)⟩
         refine ⟨⟨20 :: 18 :: 14 :: 19 :: 17 :: 16 :: 13 :: 9 :: 15 :: 12 :: 8 :: 4 :: 10 :: 11 :: 7 :: 3 :: 2 :: 5 :: 6 :: 0 :: 1 :: [], (by decide +kernel), fun S hle hfr => ?_⟩, ?_⟩
         · exact .inl ⟨.inl ⟨rfl, rfl⟩, st_move (hle.ev rfl (by nofun)) (hle.d rfl)⟩
         refine ⟨⟨21 :: 20 :: 18 :: 14 :: 19 :: 17 :: 16 :: 13 :: 9 :: 15 :: 12 :: 8 :: 4 :: 10 :: 11 :: 7 :: 3 :: 2 :: 5 :: 6 :: 0 :: 1 :: [], (by decide +kernel), fun S hle hfr => ?_⟩, ?_⟩
         · exact .inl ⟨.inr (.inl ⟨_, _, _, _, rfl, rfl, (hle.ev (x := .tmp _) rfl (by nofun)), (by rw [hle.nt]; rfl), (by first | rfl | (rw [q14]; rfl))⟩), ev_loads (ds := [_, _, _, _, _]) (hle.ev rfl (by nofun)) (hle.heap _ _ rfl) rfl rfl (hle.d rfl)⟩
         refine ⟨⟨21 :: 20 :: 18 :: 14 :: 19 :: 17 :: 16 :: 13 :: 9 :: 15 :: 12 :: 8 :: 4 :: 10 :: 11 :: 7 :: 3 :: 2 :: 5 :: 6 :: 0 :: 1 :: [], (by decide +kernel), fun S hle hfr => ?_⟩, ?_⟩
         · exact .inl ⟨.inr (.inl ⟨_, _, _, _, rfl, rfl, (hle.ev (x := .tmp _) rfl (by nofun)), (by rw [hle.nt]; rfl), (by first | rfl | (rw [q14]; rfl))⟩), ev_loads (ds := [_, _, _, _, _]) (hle.ev rfl (by nofun)) (hle.heap _ _ rfl) rfl rfl (hle.d rfl)⟩
         refine ⟨⟨22 :: 23 :: 21 :: 20 :: 18 :: 14 :: 19 :: 17 :: 16 :: 13 :: 9 :: 15 :: 12 :: 8 :: 4 :: 10 :: 11 :: 7 :: 3 :: 2 :: 5 :: 6 :: 0 :: 1 :: [], (by decide +kernel), fun S hle hfr => ?_⟩, ?_⟩
         · exact .inl ⟨.inr (.inl ⟨_, _, _, _, rfl, rfl, (hle.ev (x := .tmp _) rfl (by nofun)), (by rw [hle.nt]; rfl), (by first | rfl | (rw [q14]; rfl))⟩), ev_call_v (wire_SameValue_fn k a1 a2 x15 hx15) (map_ev (.cons (hle.ev rfl (by nofun)) (.cons (hle.ev rfl (by nofun)) (.nil)))) [] (by repeat' (first | exact All2.nil | refine All2.cons ?_ ?_ | refine ArgV.one ?_ | refine ArgV.agg ?_ | exact ArgC.mk rfl | exact ArgC.lend (hle.heap _ _ rfl) (by simp) | exact ArgC.le (CLe.nil _) rfl | exact ArgC.le (CLe.emp _) rfl | exact ArgC.le (CLe.any _) rfl)) rfl rfl rfl (.inl rfl) (hle.d rfl)⟩
         refine ⟨⟨21 :: 20 :: 18 :: 14 :: 19 :: 17 :: 16 :: 13 :: 9 :: 15 :: 12 :: 8 :: 4 :: 10 :: 11 :: 7 :: 3 :: 2 :: 5 :: 6 :: 0 :: 1 :: [], (by decide +kernel), fun S hle hfr => ?_⟩, ?_⟩
         · exact .inl ⟨.inr (.inl ⟨_, _, _, _, rfl, rfl, (hle.ev (x := .tmp _) rfl (by nofun)), (by rw [hle.nt]; rfl), (by first | rfl | (rw [q14]; rfl))⟩), ev_loads (ds := [_, _, _, _, _]) (hle.ev rfl (by nofun)) (hle.heap _ _ rfl) rfl rfl (hle.d rfl)⟩
         refine ⟨⟨21 :: 20 :: 18 :: 14 :: 19 :: 17 :: 16 :: 13 :: 9 :: 15 :: 12 :: 8 :: 4 :: 10 :: 11 :: 7 :: 3 :: 2 :: 5 :: 6 :: 0 :: 1 :: [], (by decide +kernel), fun S hle hfr => ?_⟩, ?_⟩
         · exact .inl ⟨.inr (.inl ⟨_, _, _, _, rfl, rfl, (hle.ev (x := .tmp _) rfl (by nofun)), (by rw [hle.nt]; rfl), (by first | rfl | (rw [q14]; rfl))⟩), ev_loads (ds := [_, _, _, _, _]) (hle.ev rfl (by nofun)) (hle.heap _ _ rfl) rfl rfl (hle.d rfl)⟩
         refine ⟨⟨25 :: 26 :: 24 :: 21 :: 22 :: 23 :: 20 :: 18 :: 14 :: 19 :: 17 :: 16 :: 13 :: 9 :: 15 :: 12 :: 8 :: 4 :: 10 :: 11 :: 7 :: 3 :: 2 :: 5 :: 6 :: 0 :: 1 :: [], (by decide +kernel), fun S hle hfr => ?_⟩, ?_⟩
         · exact .inl ⟨.inr (.inl ⟨_, _, _, _, rfl, rfl, (hle.ev (x := .tmp _) rfl (by nofun)), (by rw [hle.nt]; rfl), (by first | rfl | (rw [q14]; rfl))⟩), ev_call_v (actorgridref1_SameValue_fn k a1 a2 x16 hx16) (map_ev (.cons (hle.ev rfl (by nofun)) (.cons (hle.ev rfl (by nofun)) (.nil)))) [] (by repeat' (first | exact All2.nil | refine All2.cons ?_ ?_ | refine ArgV.one ?_ | refine ArgV.agg ?_ | exact ArgC.mk rfl | exact ArgC.lend (hle.heap _ _ rfl) (by simp) | exact ArgC.le (CLe.nil _) rfl | exact ArgC.le (CLe.emp _) rfl | exact ArgC.le (CLe.any _) rfl)) rfl rfl rfl (.inl rfl) (hle.d rfl)⟩
         refine ⟨⟨24 :: 27 :: 21 :: 22 :: 23 :: 25 :: 26 :: 20 :: 18 :: 14 :: 19 :: 17 :: 16 :: 13 :: 9 :: 15 :: 12 :: 8 :: 4 :: 10 :: 11 :: 7 :: 3 :: 2 :: 5 :: 6 :: 0 :: 1 :: [], (by decide +kernel), fun S hle hfr => ?_⟩, ?_⟩
         · exact .inl ⟨.inr (.inl ⟨_, _, _, _, rfl, rfl, (hle.ev (x := .tmp _) rfl (by nofun)), (by rw [hle.nt]; rfl), (by first | rfl | (rw [q14]; rfl))⟩), ev_bool_ne (hle.ev rfl (by nofun)) (hle.ev rfl (by nofun)) (hle.d rfl) Try.underlying4 rfl⟩
         refine ⟨⟨21 :: 28 :: 20 :: 18 :: 24 :: 27 :: 14 :: 19 :: 17 :: 16 :: 22 :: 23 :: 25 :: 26 :: 13 :: 9 :: 15 :: 12 :: 8 :: 4 :: 10 :: 11 :: 7 :: 3 :: 2 :: 5 :: 6 :: 0 :: 1 :: [], (by decide +kernel), fun S hle hfr => ?_⟩, ?_⟩
         · exact .inl ⟨.inl ⟨rfl, rfl⟩, st_pick_no (hle.ev rfl (by nofun)) (by first | rfl | exact q14) (hle.ev rfl (by nofun)) (hle.d rfl)⟩
         refine ⟨⟨29 :: 27 :: 21 :: 28 :: 25 :: 26 :: 24 :: 20 :: 18 :: 22 :: 23 :: 14 :: 19 :: 17 :: 16 :: 13 :: 9 :: 15 :: 12 :: 8 :: 4 :: 10 :: 11 :: 7 :: 3 :: 2 :: 5 :: 6 :: 0 :: 1 :: [], (by decide +kernel), fun S hle hfr => ?_⟩, ?_⟩
         · exact .inl ⟨.inl ⟨rfl, rfl⟩, st_move (hle.ev rfl (by nofun)) (hle.d rfl)⟩
         refine ⟨⟨30 :: 29 :: 27 :: 21 :: 28 :: 25 :: 26 :: 24 :: 20 :: 18 :: 22 :: 23 :: 14 :: 19 :: 17 :: 16 :: 13 :: 9 :: 15 :: 12 :: 8 :: 4 :: 10 :: 11 :: 7 :: 3 :: 2 :: 5 :: 6 :: 0 :: 1 :: [], (by decide +kernel), fun S hle hfr => ?_⟩, ?_⟩
         · exact .inr ⟨.inr (.inl ⟨_, _, _, _, rfl, rfl, (hle.ev (x := .tmp _) rfl (by nofun)), (by rw [hle.nt]; rfl), (by first | rfl | (rw [q17]; rfl))⟩), rfl, hle.d rfl⟩
         refine ⟨⟨30 :: 29 :: 27 :: 21 :: 28 :: 25 :: 26 :: 24 :: 20 :: 18 :: 22 :: 23 :: 14 :: 19 :: 17 :: 16 :: 13 :: 9 :: 15 :: 12 :: 8 :: 4 :: 10 :: 11 :: 7 :: 3 :: 2 :: 5 :: 6 :: 0 :: 1 :: [], (by decide +kernel), fun S hle hfr => ?_⟩, ?_⟩
         · exact .inr ⟨.inr (.inl ⟨_, _, _, _, rfl, rfl, (hle.ev (x := .tmp _) rfl (by nofun)), (by rw [hle.nt]; rfl), (by first | rfl | (rw [q17]; rfl))⟩), rfl, hle.d rfl⟩
         exact trivial
        case hk5x => rfl
        case hf5x => rfl
        refine aops_no rfl rfl rfl rfl rfl (by first | decide | (rw [q17]; decide)) ?_
        refine aops_no rfl rfl rfl rfl rfl (by first | decide | (rw [q17]; decide)) ?_
        refine aops_step1 rfl (st_pick_yes rfl (by first | rfl | exact q17) rfl rfl) ?_
        refine aops_nil ?_
        refine aw_yes rfl (rfl) ?_
        refine aw_seq ?_
        refine aw_region ?_
        refine aops_step1 rfl (st_assign rfl rfl) ?_
        refine aops_nil ?_
        cases Option.some.inj h
        refine aw_ret ⟨rfl, ret_v (.inl ⟨_, rfl, rfl, fun _ e => nomatch e⟩) rfl rfl rfl ?_⟩
        (repeat' (first | exact TLe.refl _ | exact VLe.refl _ | exact CLe.refl _ | exact All2.nil | refine TLe.tup ?_ | refine TLe.v ?_ | refine All2.cons ?_ ?_ | refine VLe.agg ?_ | refine VLe.one ?_ | exact CLe.nil _ | exact CLe.emp _ | refine CLe.val ?_ | refine CLe.slc ?_ ?_))
      replace h := Md.cond_f h q17
      obtain ⟨x18, hx18, h⟩ := Md.bind_s h
      refine aw_seq ?_
      apply aw_draw 33 ((⟨[], .agg [.val (.int .i64 x6.1.Kind), .val (.int .i64 x6.1.N), .val (Sv x6.1.S), CV.ls c_Int x6.1.I, CV.ls c_Str x6.1.L]⟩ : Add) :: ⟨[], .agg [.val (.int .i64 x7.1.Kind), .val (.int .i64 x7.1.N), .val (Sv x7.1.S), CV.ls c_Int x7.1.I, CV.ls c_Str x7.1.L]⟩ :: ⟨[], .one (.val (.bool x8))⟩ :: ⟨[], .one (.val (.bool (!x8)))⟩ :: ⟨[], .one (.val (.bool (!x8)))⟩ :: ⟨[], .one (.val (.int .i64 x6.2.1))⟩ :: ⟨[], .one (.val (.int .i64 x7.2.1))⟩ :: ⟨[], .one (.val (.bool (x6.2.1 != x7.2.1)))⟩ :: ⟨[], .one (.val (.bool (x6.2.1 != x7.2.1)))⟩ :: ⟨[], .one (.val (.bool (x6.2.1 != x7.2.1)))⟩ :: ⟨[], .one (.val (.int .i64 x6.2.2))⟩ :: ⟨[], .one (.val (.int .i64 x7.2.2))⟩ :: ⟨[], .one (.val (.bool (x6.2.2 != x7.2.2)))⟩ :: ⟨[], .one (.val (.bool (x6.2.2 != x7.2.2)))⟩ :: ⟨[], .one (.val (.bool (x6.2.2 != x7.2.2)))⟩ :: ⟨[], .agg [.val (.int .i64 a1.Kind), .val (.int .i64 a1.N), .val (Sv a1.S), CV.ls c_Int a1.I, CV.ls c_Str a1.L]⟩ :: ⟨[], .one (.val (.bool x12))⟩ :: ⟨[], .agg [.val (.int .i64 a1.Kind), .val (.int .i64 a1.N), .val (Sv a1.S), CV.ls c_Int a1.I, CV.ls c_Str a1.L]⟩ :: ⟨[], .one (.val (.bool x13))⟩ :: ⟨[], .one (.val (.bool (!(x12 == x13))))⟩ :: ⟨[], .one (.val (.bool (!(x12 == x13))))⟩ :: ⟨[], .one (.val (.bool (!(x12 == x13))))⟩ :: ⟨[], .agg [.val (.int .i64 a1.Kind), .val (.int .i64 a1.N), .val (Sv a1.S), CV.ls c_Int a1.I, CV.ls c_Str a1.L]⟩ :: ⟨[], .agg [.val (.int .i64 a2.Kind), .val (.int .i64 a2.N), .val (Sv a2.S), CV.ls c_Int a2.I, CV.ls c_Str a2.L]⟩ :: ⟨[], .one (.val (.bool x15))⟩ :: ⟨[], .agg [.val (.int .i64 a1.Kind), .val (.int .i64 a1.N), .val (Sv a1.S), CV.ls c_Int a1.I, CV.ls c_Str a1.L]⟩ :: ⟨[], .agg [.val (.int .i64 a2.Kind), .val (.int .i64 a2.N), .val (Sv a2.S), CV.ls c_Int a2.I, CV.ls c_Str a2.L]⟩ :: ⟨[], .one (.val (.bool x16))⟩ :: ⟨[], .one (.val (.bool (!(x15 == x16))))⟩ :: ⟨[], .one (.val (.bool (!(x15 == x16))))⟩ :: ⟨[], .one (.val (.bool (!(x15 == x16))))⟩ :: ⟨[], .agg [.val (.int .i64 a1.Kind), .val (.int .i64 a1.N), .val (Sv a1.S), CV.ls c_Int a1.I, CV.ls c_Str a1.L]⟩ :: ⟨[], .agg [.val (.int .i64 a1.Kind), .val (.int .i64 a1.N), .val (Sv a1.S), CV.ls c_Int a1.I, CV.ls c_Str a1.L]⟩ :: []) (by decide) rfl ?hk6x ?hf6x ?ho6x ?hr6x
      case ho6x =>
       refine ⟨⟨[], (by decide +kernel), fun S hle hfr => ?_⟩, ?_⟩
       · exact .inl ⟨.inl ⟨rfl, rfl⟩, ev_loads (ds := [_, _, _, _, _]) (hle.ev rfl (by nofun)) (hle.heap _ _ rfl) rfl rfl (hle.d rfl)⟩
       refine ⟨⟨[], (by decide +kernel), fun S hle hfr => ?_⟩, ?_⟩
       · exact .inl ⟨.inl ⟨rfl, rfl⟩, ev_loads (ds := [_, _, _, _, _]) (hle.ev rfl (by nofun)) (hle.heap _ _ rfl) rfl rfl (hle.d rfl)⟩
       refine ⟨⟨0 :: 1 :: [], (by decide +kernel), fun S hle hfr => ?_⟩, ?_⟩
       · exact .inl ⟨.inl ⟨rfl, rfl⟩, ev_call_v (actorgridref1_SameValue_fn k x6.1 x7.1 x8 hx8) (map_ev (.cons (hle.ev rfl (by nofun)) (.cons (hle.ev rfl (by nofun)) (.nil)))) [] (by repeat' (first | exact All2.nil | refine All2.cons ?_ ?_ | refine ArgV.one ?_ | refine ArgV.agg ?_ | exact ArgC.mk rfl | exact ArgC.lend (hle.heap _ _ rfl) (by simp) | exact ArgC.le (CLe.nil _) rfl | exact ArgC.le (CLe.emp _) rfl | exact ArgC.le (CLe.any _) rfl)) rfl rfl rfl (.inl rfl) (hle.d rfl)⟩
       refine ⟨⟨2 :: 0 :: 1 :: [], (by decide +kernel), fun S hle hfr => ?_⟩, ?_⟩
       · exact .inl ⟨.inl ⟨rfl, rfl⟩, ev_not (hle.ev rfl (by nofun)) (hle.d rfl)⟩
       refine ⟨⟨3 :: 2 :: 0 :: 1 :: [], (by decide +kernel), fun S hle hfr => ?_⟩, ?_⟩
       · exact .inl ⟨.inl ⟨rfl, rfl⟩, st_move (hle.ev rfl (by nofun)) (hle.d rfl)⟩
       refine ⟨⟨4 :: 3 :: 2 :: 0 :: 1 :: [], (by decide +kernel), fun S hle hfr => ?_⟩, ?_⟩
       · exact .inl ⟨.inr (.inl ⟨_, _, _, _, rfl, rfl, (hle.ev (x := .tmp _) rfl (by nofun)), (by rw [hle.nt]; rfl), (by first | rfl | (rw [q9]; rfl))⟩), st_move (hle.ev rfl (by nofun)) (hle.d rfl)⟩
       refine ⟨⟨4 :: 3 :: 2 :: 0 :: 1 :: [], (by decide +kernel), fun S hle hfr => ?_⟩, ?_⟩
       · exact .inl ⟨.inr (.inl ⟨_, _, _, _, rfl, rfl, (hle.ev (x := .tmp _) rfl (by nofun)), (by rw [hle.nt]; rfl), (by first | rfl | (rw [q9]; rfl))⟩), st_move (hle.ev rfl (by nofun)) (hle.d rfl)⟩
       refine ⟨⟨5 :: 6 :: 4 :: 3 :: 2 :: 0 :: 1 :: [], (by decide +kernel), fun S hle hfr => ?_⟩, ?_⟩
       · exact .inl ⟨.inr (.inl ⟨_, _, _, _, rfl, rfl, (hle.ev (x := .tmp _) rfl (by nofun)), (by rw [hle.nt]; rfl), (by first | rfl | (rw [q9]; rfl))⟩), ev_cmp (hle.ev rfl (by nofun)) (hle.ev rfl (by nofun)) (hle.d rfl) rfl⟩
       refine ⟨⟨4 :: 7 :: 3 :: 2 :: 5 :: 6 :: 0 :: 1 :: [], (by decide +kernel), fun S hle hfr => ?_⟩, ?_⟩
       · exact .inl ⟨.inl ⟨rfl, rfl⟩, st_pick_no (hle.ev rfl (by nofun)) (by first | rfl | exact q9) (hle.ev rfl (by nofun)) (hle.d rfl)⟩
       refine ⟨⟨8 :: 4 :: 7 :: 3 :: 2 :: 5 :: 6 :: 0 :: 1 :: [], (by decide +kernel), fun S hle hfr => ?_⟩, ?_⟩
       · exact .inl ⟨.inl ⟨rfl, rfl⟩, st_move (hle.ev rfl (by nofun)) (hle.d rfl)⟩
       refine ⟨⟨9 :: 8 :: 4 :: 7 :: 3 :: 2 :: 5 :: 6 :: 0 :: 1 :: [], (by decide +kernel), fun S hle hfr => ?_⟩, ?_⟩
       · exact .inl ⟨.inr (.inl ⟨_, _, _, _, rfl, rfl, (hle.ev (x := .tmp _) rfl (by nofun)), (by rw [hle.nt]; rfl), (by first | rfl | (rw [q10]; rfl))⟩), st_move (hle.ev rfl (by nofun)) (hle.d rfl)⟩
       refine ⟨⟨9 :: 8 :: 4 :: 7 :: 3 :: 2 :: 5 :: 6 :: 0 :: 1 :: [], (by decide +kernel), fun S hle hfr => ?_⟩, ?_⟩
       · exact .inl ⟨.inr (.inl ⟨_, _, _, _, rfl, rfl, (hle.ev (x := .tmp _) rfl (by nofun)), (by rw [hle.nt]; rfl), (by first | rfl | (rw [q10]; rfl))⟩), st_move (hle.ev rfl (by nofun)) (hle.d rfl)⟩
       refine ⟨⟨10 :: 11 :: 9 :: 8 :: 4 :: 7 :: 3 :: 2 :: 5 :: 6 :: 0 :: 1 :: [], (by decide +kernel), fun S hle hfr => ?_⟩, ?_⟩
       · exact .inl ⟨.inr (.inl ⟨_, _, _, _, rfl, rfl, (hle.ev (x := .tmp _) rfl (by nofun)), (by rw [hle.nt]; rfl), (by first | rfl | (rw [q10]; rfl))⟩), ev_cmp (hle.ev rfl (by nofun)) (hle.ev rfl (by nofun)) (hle.d rfl) rfl⟩
       refine ⟨⟨9 :: 12 :: 8 :: 4 :: 10 :: 11 :: 7 :: 3 :: 2 :: 5 :: 6 :: 0 :: 1 :: [], (by decide +kernel), fun S hle hfr => ?_⟩, ?_⟩
       · exact .inl ⟨.inl ⟨rfl, rfl⟩, st_pick_no (hle.ev rfl (by nofun)) (by first | rfl | exact q10) (hle.ev rfl (by nofun)) (hle.d rfl)⟩
       refine ⟨⟨13 :: 9 :: 12 :: 8 :: 4 :: 10 :: 11 :: 7 :: 3 :: 2 :: 5 :: 6 :: 0 :: 1 :: [], (by decide +kernel), fun S hle hfr => ?_⟩, ?_⟩
       · exact .inl ⟨.inl ⟨rfl, rfl⟩, st_move (hle.ev rfl (by nofun)) (hle.d rfl)⟩
       refine ⟨⟨14 :: 13 :: 9 :: 12 :: 8 :: 4 :: 10 :: 11 :: 7 :: 3 :: 2 :: 5 :: 6 :: 0 :: 1 :: [], (by decide +kernel), fun S hle hfr => ?_⟩, ?_⟩
       · exact .inl ⟨.inr (.inl ⟨_, _, _, _, rfl, rfl, (hle.ev (x := .tmp _) rfl (by nofun)), (by rw [hle.nt]; rfl), (by first | rfl | (rw [q11]; rfl))⟩), ev_loads (ds := [_, _, _, _, _]) (hle.ev rfl (by nofun)) (hle.heap _ _ rfl) rfl rfl (hle.d rfl)⟩
       refine ⟨⟨15 :: 14 :: 13 :: 9 :: 12 :: 8 :: 4 :: 10 :: 11 :: 7 :: 3 :: 2 :: 5 :: 6 :: 0 :: 1 :: [], (by decide +kernel), fun S hle hfr => ?_⟩, ?_⟩
       · exact .inl ⟨.inr (.inl ⟨_, _, _, _, rfl, rfl, (hle.ev (x := .tmp _) rfl (by nofun)), (by rw [hle.nt]; rfl), (by first | rfl | (rw [q11]; rfl))⟩), ev_call_v (wire_ValidValue_fn k a1 x12 hx12) (map_ev (.cons (hle.ev rfl (by nofun)) (.nil))) [] (by repeat' (first | exact All2.nil | refine All2.cons ?_ ?_ | refine ArgV.one ?_ | refine ArgV.agg ?_ | exact ArgC.mk rfl | exact ArgC.lend (hle.heap _ _ rfl) (by simp) | exact ArgC.le (CLe.nil _) rfl | exact ArgC.le (CLe.emp _) rfl | exact ArgC.le (CLe.any _) rfl)) rfl rfl rfl (.inl rfl) (hle.d rfl)⟩
       refine ⟨⟨14 :: 13 :: 9 :: 12 :: 8 :: 4 :: 10 :: 11 :: 7 :: 3 :: 2 :: 5 :: 6 :: 0 :: 1 :: [], (by decide +kernel), fun S hle hfr => ?_⟩, ?_⟩
       · exact .inl ⟨.inr (.inl ⟨_, _, _, _, rfl, rfl, (hle.ev (x := .tmp _) rfl (by nofun)), (by rw [hle.nt]; rfl), (by first | rfl | (rw [q11]; rfl))⟩), ev_loads (ds := [_, _, _, _, _]) (hle.ev rfl (by nofun)) (hle.heap _ _ rfl) rfl rfl (hle.d rfl)⟩
       refine ⟨⟨17 :: 16 :: 14 :: 15 :: 13 :: 9 :: 12 :: 8 :: 4 :: 10 :: 11 :: 7 :: 3 :: 2 :: 5 :: 6 :: 0 :: 1 :: [], (by decide +kernel), fun S hle hfr => ?_⟩, ?_⟩
       · exact .inl ⟨.inr (.inl ⟨_, _, _, _, rfl, rfl, (hle.ev (x := .tmp _) rfl (by nofun)), (by rw [hle.nt]; rfl), (by first | rfl | (rw [q11]; rfl))⟩), ev_call_v (actorgridref1_ValidValue_fn k a1 x13 hx13) (map_ev (.cons (hle.ev rfl (by nofun)) (.nil))) [] (by repeat' (first | exact All2.nil | refine All2.cons ?_ ?_ | refine ArgV.one ?_ | refine ArgV.agg ?_ | exact ArgC.mk rfl | exact ArgC.lend (hle.heap _ _ rfl) (by simp) | exact ArgC.le (CLe.nil _) rfl | exact ArgC.le (CLe.emp _) rfl | exact ArgC.le (CLe.any _) rfl)) rfl rfl rfl (.inl rfl) (hle.d rfl)⟩
       refine ⟨⟨16 :: 18 :: 14 :: 15 :: 17 :: 13 :: 9 :: 12 :: 8 :: 4 :: 10 :: 11 :: 7 :: 3 :: 2 :: 5 :: 6 :: 0 :: 1 :: [], (by decide +kernel), fun S hle hfr => ?_⟩, ?_⟩
       · exact .inl ⟨.inr (.inl ⟨_, _, _, _, rfl, rfl, (hle.ev (x := .tmp _) rfl (by nofun)), (by rw [hle.nt]; rfl), (by first | rfl | (rw [q11]; rfl))⟩), ev_bool_ne (hle.ev rfl (by nofun)) (hle.ev rfl (by nofun)) (hle.d rfl) Try.underlying4 rfl⟩
       refine ⟨⟨14 :: 19 :: 13 :: 9 :: 16 :: 18 :: 12 :: 8 :: 4 :: 15 :: 17 :: 10 :: 11 :: 7 :: 3 :: 2 :: 5 :: 6 :: 0 :: 1 :: [], (by decide +kernel), fun S hle hfr => ?_⟩, ?_⟩
       · exact .inl ⟨.inl ⟨rfl, rfl⟩, st_pick_no (hle.ev rfl (by nofun)) (by first | rfl | exact q11) (hle.ev rfl (by nofun)) (hle.d rfl)⟩
       refine ⟨⟨20 :: 18 :: 14 :: 19 :: 17 :: 16 :: 13 :: 9 :: 15 :: 12 :: 8 :: 4 :: 10 :: 11 :: 7 :: 3 :: 2 :: 5 :: 6 :: 0 :: 1 :: [], (by decide +kernel), fun S hle hfr => ?_⟩, ?_⟩
       · exact .inl ⟨.inl ⟨rfl, rfl⟩, st_move (hle.ev rfl (by nofun)) (hle.d rfl)⟩
       refine ⟨⟨21 :: 20 :: 18 :: 14 :: 19 :: 17 :: 16 :: 13 :: 9 :: 15 :: 12 :: 8 :: 4 :: 10 :: 11 :: 7 :: 3 :: 2 :: 5 :: 6 :: 0 :: 1 :: [], (by decide +kernel), fun S hle hfr => ?_⟩, ?_⟩
       · exact .inl ⟨.inr (.inl ⟨_, _, _, _, rfl, rfl, (hle.ev (x := .tmp _) rfl (by nofun)), (by rw [hle.nt]; rfl), (by first | rfl | (rw [q14]; rfl))⟩), ev_loads (ds := [_, _, _, _, _]) (hle.ev rfl (by nofun)) (hle.heap _ _ rfl) rfl rfl (hle.d rfl)⟩
       refine ⟨⟨21 :: 20 :: 18 :: 14 :: 19 :: 17 :: 16 :: 13 :: 9 :: 15 :: 12 :: 8 :: 4 :: 10 :: 11 :: 7 :: 3 :: 2 :: 5 :: 6 :: 0 :: 1 :: [], (by decide +kernel), fun S hle hfr => ?_⟩, ?_⟩
       · exact .inl ⟨.inr (.inl ⟨_, _, _, _, rfl, rfl, (hle.ev (x := .tmp _) rfl (by nofun)), (by rw [hle.nt]; rfl), (by first | rfl | (rw [q14]; rfl))⟩), ev_loads (ds := [_, _, _, _, _]) (hle.ev rfl (by nofun)) (hle.heap _ _ rfl) rfl rfl (hle.d rfl)⟩
       refine ⟨⟨22 :: 23 :: 21 :: 20 :: 18 :: 14 :: 19 :: 17 :: 16 :: 13 :: 9 :: 15 :: 12 :: 8 :: 4 :: 10 :: 11 :: 7 :: 3 :: 2 :: 5 :: 6 :: 0 :: 1 :: [], (by decide +kernel), fun S hle hfr => ?_⟩, ?_⟩
       · exact .inl ⟨.inr (.inl ⟨_, _, _, _, rfl, rfl, (hle.ev (x := .tmp _) rfl (by nofun)), (by rw [hle.nt]; rfl), (by first | rfl | (rw [q14]; rfl))⟩), ev_call_v (wire_SameValue_fn k a1 a2 x15 hx15) (map_ev (.cons (hle.ev rfl (by nofun)) (.cons (hle.ev rfl (by nofun)) (.nil)))) [] (by repeat' (first | exact All2.nil | refine All2.cons ?_ ?_ | refine ArgV.one ?_ | refine ArgV.agg ?_ | exact ArgC.mk rfl | exact ArgC.lend (hle.heap _ _ rfl) (by simp) | exact ArgC.le (CLe.nil _) rfl | exact ArgC.le (CLe.emp _) rfl | exact ArgC.le (CLe.any _) rfl)) rfl rfl rfl (.inl rfl) (hle.d rfl)⟩
       refine ⟨⟨21 :: 20 :: 18 :: 14 :: 19 :: 17 :: 16 :: 13 :: 9 :: 15 :: 12 :: 8 :: 4 :: 10 :: 11 :: 7 :: 3 :: 2 :: 5 :: 6 :: 0 :: 1 :: [], (by decide +kernel), fun S hle hfr => ?_⟩, ?_⟩
       · exact .inl ⟨.inr (.inl ⟨_, _, _, _, rfl, rfl, (hle.ev (x := .tmp _) rfl (by nofun)), (by rw [hle.nt]; rfl), (by first | rfl | (rw [q14]; rfl))⟩), ev_loads (ds := [_, _, _, _, _]) (hle.ev rfl (by nofun)) (hle.heap _ _ rfl) rfl rfl (hle.d rfl)⟩
       refine ⟨⟨21 :: 20 :: 18 :: 14 :: 19 :: 17 :: 16 :: 13 :: 9 :: 15 :: 12 :: 8 :: 4 :: 10 :: 11 :: 7 :: 3 :: 2 :: 5 :: 6 :: 0 :: 1 :: [], (by decide +kernel), fun S hle hfr => ?_⟩, ?_⟩
       · exact .inl ⟨.inr (.inl ⟨_, _, _, _, rfl, rfl, (hle.ev (x := .tmp _) rfl (by nofun)), (by rw [hle.nt]; rfl), (by first | rfl | (rw [q14]; rfl))⟩), ev_loads (ds := [_, _, _, _, _]) (hle.ev rfl (by nofun)) (hle.heap _ _ rfl) rfl rfl (hle.d rfl)⟩
       refine ⟨⟨25 :: 26 :: 24 :: 21 :: 22 :: 23 :: 20 :: 18 :: 14 :: 19 :: 17 :: 16 :: 13 :: 9 :: 15 :: 12 :: 8 :: 4 :: 10 :: 11 :: 7 :: 3 :: 2 :: 5 :: 6 :: 0 :: 1 :: [], (by decide +kernel), fun S hle hfr => ?_⟩, ?_⟩
       · exact .inl ⟨.inr (.inl ⟨_, _, _, _, rfl, rfl, (hle.ev (x := .tmp _) rfl (by nofun)), (by rw [hle.nt]; rfl), (by first | rfl | (rw [q14]; rfl))⟩), ev_call_v (actorgridref1_SameValue_fn k a1 a2 x16 hx16) (map_ev (.cons (hle.ev rfl (by nofun)) (.cons (hle.ev rfl (by nofun)) (.nil)))) [] (by repeat' (first | exact All2.nil | refine All2.cons ?_ ?_ | refine ArgV.one ?_ | refine ArgV.agg ?_ | exact ArgC.mk rfl | exact ArgC.lend (hle.heap _ _ rfl) (by simp) | exact ArgC.le (CLe.nil _) rfl | exact ArgC.le (CLe.emp _) rfl | exact ArgC.le (CLe.any _) rfl)) rfl rfl rfl (.inl rfl) (hle.d rfl)⟩
       refine ⟨⟨24 :: 27 :: 21 :: 22 :: 23 :: 25 :: 26 :: 20 :: 18 :: 14 :: 19 :: 17 :: 16 :: 13 :: 9 :: 15 :: 12 :: 8 :: 4 :: 10 :: 11 :: 7 :: 3 :: 2 :: 5 :: 6 :: 0 :: 1 :: [], (by decide +kernel), fun S hle hfr => ?_⟩, ?_⟩
       · exact .inl ⟨.inr (.inl ⟨_, _, _, _, rfl, rfl, (hle.ev (x := .tmp _) rfl (by nofun)), (by rw [hle.nt]; rfl), (by first | rfl | (rw [q14]; rfl))⟩), ev_bool_ne (hle.ev rfl (by nofun)) (hle.ev rfl (by nofun)) (hle.d rfl) Try.underlying4 rfl⟩
       refine ⟨⟨21 :: 28 :: 20 :: 18 :: 24 :: 27 :: 14 :: 19 :: 17 :: 16 :: 22 :: 23 :: 25 :: 26 :: 13 :: 9 :: 15 :: 12 :: 8 :: 4 :: 10 :: 11 :: 7 :: 3 :: 2 :: 5 :: 6 :: 0 :: 1 :: [], (by decide +kernel), fun S hle hfr => ?_⟩, ?_⟩
       · exact .inl ⟨.inl ⟨rfl, rfl⟩, st_pick_no (hle.ev rfl (by nofun)) (by first | rfl | exact q14) (hle.ev rfl (by nofun)) (hle.d rfl)⟩
       refine ⟨⟨29 :: 27 :: 21 :: 28 :: 25 :: 26 :: 24 :: 20 :: 18 :: 22 :: 23 :: 14 :: 19 :: 17 :: 16 :: 13 :: 9 :: 15 :: 12 :: 8 :: 4 :: 10 :: 11 :: 7 :: 3 :: 2 :: 5 :: 6 :: 0 :: 1 :: [], (by decide +kernel), fun S hle hfr => ?_⟩, ?_⟩
       · exact .inl ⟨.inl ⟨rfl, rfl⟩, st_move (hle.ev rfl (by nofun)) (hle.d rfl)⟩
       refine ⟨⟨30 :: 29 :: 27 :: 21 :: 28 :: 25 :: 26 :: 24 :: 20 :: 18 :: 22 :: 23 :: 14 :: 19 :: 17 :: 16 :: 13 :: 9 :: 15 :: 12 :: 8 :: 4 :: 10 :: 11 :: 7 :: 3 :: 2 :: 5 :: 6 :: 0 :: 1 :: [], (by decide +kernel), fun S hle hfr => ?_⟩, ?_⟩
       · exact .inl ⟨.inr (.inl ⟨_, _, _, _, rfl, rfl, (hle.ev (x := .tmp _) rfl (by nofun)), (by rw [hle.nt]; rfl), (by first | rfl | (rw [q17]; rfl))⟩), ev_loads (ds := [_, _, _, _, _]) (hle.ev rfl (by nofun)) (hle.heap _ _ rfl) rfl rfl (hle.d rfl)⟩
       refine ⟨⟨30 :: 29 :: 27 :: 21 :: 28 :: 25 :: 26 :: 24 :: 20 :: 18 :: 22 :: 23 :: 14 :: 19 :: 17 :: 16 :: 13 :: 9 :: 15 :: 12 :: 8 :: 4 :: 10 :: 11 :: 7 :: 3 :: 2 :: 5 :: 6 :: 0 :: 1 :: [], (by decide +kernel), fun S hle hfr => ?_⟩, ?_⟩
       · exact .inl ⟨.inr (.inl ⟨_, _, _, _, rfl, rfl, (hle.ev (x := .tmp _) rfl (by nofun)), (by rw [hle.nt]; rfl), (by first | rfl | (rw [q17]; rfl))⟩), ev_loads (ds := [_, _, _, _, _]) (hle.ev rfl (by nofun)) (hle.heap _ _ rfl) rfl rfl (hle.d rfl)⟩
       exact trivial
      case hk6x => rfl
      case hf6x => rfl
      refine aops_yes rfl rfl rfl rfl q17 (ev_call_v (wire_SameValue_fn k a1 a1 x18 hx18) rfl [] (by repeat' (first | exact All2.nil | refine All2.cons ?_ ?_ | refine ArgV.one ?_ | refine ArgV.agg ?_ | exact ArgC.mk rfl | exact ArgC.lend rfl (by simp) | exact ArgC.le (CLe.nil _) rfl | exact ArgC.le (CLe.emp _) rfl | exact ArgC.le (CLe.any _) rfl)) rfl rfl rfl (.inl rfl) rfl) ?_
      refine aops_yes rfl rfl rfl rfl q17 (ev_not rfl rfl) ?_
      refine aops_step1 rfl (st_pick_no rfl (by first | rfl | exact q17) rfl rfl) ?_
      refine aops_nil ?_
      refine aw_cond rfl (fun c19 => ?_) (fun c19 => ?_)
      · replace h := Md.cond_t h c19
        refine aw_seq ?_
        refine aw_region ?_
        refine aops_step1 rfl (st_assign rfl rfl) ?_
        refine aops_nil ?_
        cases Option.some.inj h
        refine aw_ret ⟨rfl, ret_v (.inl ⟨_, rfl, rfl, fun _ e => nomatch e⟩) rfl rfl rfl ?_⟩
        (repeat' (first | exact TLe.refl _ | exact VLe.refl _ | exact CLe.refl _ | exact All2.nil | refine TLe.tup ?_ | refine TLe.v ?_ | refine All2.cons ?_ ?_ | refine VLe.agg ?_ | refine VLe.one ?_ | exact CLe.nil _ | exact CLe.emp _ | refine CLe.val ?_ | refine CLe.slc ?_ ?_))
      replace h := Md.cond_f h c19
      refine aw_skip ?_
      refine aw_seq ?_
      refine aw_seq ?_
      refine aw_region ?_
      refine aops_step1 rfl (ev_loads (ds := [_, _, _, _, _]) rfl rfl rfl rfl rfl) ?_
      obtain ⟨x20, hx20, h⟩ := Md.bind_s h
      refine aops_step1 rfl (ev_call_v (actorgridref1_ValidValue_fn k a1 x20 hx20) rfl [] (by repeat' (first | exact All2.nil | refine All2.cons ?_ ?_ | refine ArgV.one ?_ | refine ArgV.agg ?_ | exact ArgC.mk rfl | exact ArgC.lend rfl (by simp) | exact ArgC.le (CLe.nil _) rfl | exact ArgC.le (CLe.emp _) rfl | exact ArgC.le (CLe.any _) rfl)) rfl rfl rfl (.inl rfl) rfl) ?_
      refine aops_step1 rfl (ev_not rfl rfl) ?_
      refine aops_nil ?_
      refine aw_cond rfl (fun c21 => ?_) (fun c21 => ?_)
      · replace h := Md.cond_t h c21
        refine aw_seq ?_
        refine aw_region ?_
        refine aops_step1 rfl (st_move rfl rfl) ?_
        refine aops_step1 rfl (ev_loads (ds := [_, _, _, _, _]) rfl rfl rfl rfl rfl) ?_
        obtain ⟨x22, hx22, h⟩ := Md.bind_s h
        refine aops_step1 rfl (ev_call_v (wire_AppendValue_fn k a0 a1 x22 hx22) rfl [] (by repeat' (first | exact All2.nil | refine All2.cons ?_ ?_ | refine ArgV.one ?_ | refine ArgV.agg ?_ | exact ArgC.mk rfl | exact ArgC.lend rfl (by simp) | exact ArgC.le (CLe.nil _) rfl | exact ArgC.le (CLe.emp _) rfl | exact ArgC.le (CLe.any _) rfl)) rfl rfl rfl (.inl rfl) rfl) ?_
        refine aops_step1 rfl (ev_len_slc rfl rfl) ?_
        refine aops_step1 rfl (ev_cmp rfl rfl rfl rfl) ?_
        refine aops_step1 rfl (st_assign rfl rfl) ?_
        refine aops_nil ?_
        cases Option.some.inj h
        refine aw_ret ⟨rfl, ret_v (.inl ⟨_, rfl, rfl, fun _ e => nomatch e⟩) rfl rfl rfl ?_⟩
        (repeat' (first | exact TLe.refl _ | exact VLe.refl _ | exact CLe.refl _ | exact All2.nil | refine TLe.tup ?_ | refine TLe.v ?_ | refine All2.cons ?_ ?_ | refine VLe.agg ?_ | refine VLe.one ?_ | exact CLe.nil _ | exact CLe.emp _ | refine CLe.val ?_ | refine CLe.slc ?_ ?_))
      replace h := Md.cond_f h c21
      refine aw_skip ?_
      obtain ⟨x23, hx23, h⟩ := Md.bind_s h
      obtain ⟨x24, hx24, h⟩ := Md.bind_s h
      obtain ⟨x25, hx25, h⟩ := Md.bind_s h
      obtain ⟨x26, hx26, h⟩ := Md.bind_s h
      refine aw_seq ?_
      apply aw_draw 6 ((⟨[], .one (CV.ls byC a0)⟩ : Add) :: ⟨[], .agg [.val (.int .i64 a1.Kind), .val (.int .i64 a1.N), .val (Sv a1.S), CV.ls c_Int a1.I, CV.ls c_Str a1.L]⟩ :: ⟨[], .one (CV.ls byC x23)⟩ :: ⟨[], .one (CV.ls byC a0)⟩ :: ⟨[], .agg [.val (.int .i64 a1.Kind), .val (.int .i64 a1.N), .val (Sv a1.S), CV.ls c_Int a1.I, CV.ls c_Str a1.L]⟩ :: ⟨[], .one (CV.ls byC x24)⟩ :: []) (by decide) rfl ?hk7x ?hf7x ?ho7x ?hr7x
      case ho7x =>
       refine ⟨⟨[], (by decide +kernel), fun S hle hfr => ?_⟩, ?_⟩
       · exact .inl ⟨.inl ⟨rfl, rfl⟩, st_move (hle.ev rfl (by nofun)) (hle.d rfl)⟩
       refine ⟨⟨[], (by decide +kernel), fun S hle hfr => ?_⟩, ?_⟩
       · exact .inl ⟨.inl ⟨rfl, rfl⟩, ev_loads (ds := [_, _, _, _, _]) (hle.ev rfl (by nofun)) (hle.heap _ _ rfl) rfl rfl (hle.d rfl)⟩
       refine ⟨⟨0 :: 1 :: [], (by decide +kernel), fun S hle hfr => ?_⟩, ?_⟩
       · exact .inl ⟨.inl ⟨rfl, rfl⟩, ev_call_v (wire_AppendValue_fn k a0 a1 x23 hx23) (map_ev (.cons (hle.ev rfl (by nofun)) (.cons (hle.ev rfl (by nofun)) (.nil)))) [] (by repeat' (first | exact All2.nil | refine All2.cons ?_ ?_ | refine ArgV.one ?_ | refine ArgV.agg ?_ | exact ArgC.mk rfl | exact ArgC.lend (hle.heap _ _ rfl) (by simp) | exact ArgC.le (CLe.nil _) rfl | exact ArgC.le (CLe.emp _) rfl | exact ArgC.le (CLe.any _) rfl)) rfl rfl rfl (.inl rfl) (hle.d rfl)⟩
       refine ⟨⟨[], (by decide +kernel), fun S hle hfr => ?_⟩, ?_⟩
       · exact .inl ⟨.inl ⟨rfl, rfl⟩, st_move (hle.ev rfl (by nofun)) (hle.d rfl)⟩
       refine ⟨⟨[], (by decide +kernel), fun S hle hfr => ?_⟩, ?_⟩
       · exact .inl ⟨.inl ⟨rfl, rfl⟩, ev_loads (ds := [_, _, _, _, _]) (hle.ev rfl (by nofun)) (hle.heap _ _ rfl) rfl rfl (hle.d rfl)⟩
       refine ⟨⟨4 :: 2 :: 0 :: 1 :: [], (by decide +kernel), fun S hle hfr => ?_⟩, ?_⟩
       · exact .inl ⟨.inl ⟨rfl, rfl⟩, ev_call_v (actorgridref1_Value_fn k a1 x24 hx24) (map_ev (.cons (hle.ev rfl (by nofun)) (.nil))) [] (by repeat' (first | exact All2.nil | refine All2.cons ?_ ?_ | refine ArgV.one ?_ | refine ArgV.agg ?_ | exact ArgC.mk rfl | exact ArgC.lend (hle.heap _ _ rfl) (by simp) | exact ArgC.le (CLe.nil _) rfl | exact ArgC.le (CLe.emp _) rfl | exact ArgC.le (CLe.any _) rfl)) rfl rfl rfl (.inl rfl) (hle.d rfl)⟩
       exact trivial
      case hk7x => rfl
      case hf7x => rfl
      refine aops_step1 rfl (st_call_z (actorgridlaw1_join_fn k a0 x24 x25 hx25) rfl [] (fun _ => (by repeat' (first | exact All2.nil | refine All2.cons ?_ ?_ | refine ArgV.one ?_ | refine ArgV.agg ?_ | exact ArgC.mk rfl | exact ArgC.lend rfl (by simp) | exact ArgC.le (CLe.nil _) rfl | exact ArgC.le (CLe.emp _) rfl | exact ArgC.le (CLe.any _) rfl))) rfl (.inl rfl) rfl) ?_
      refine aops_step1 rfl (ev_call_v (actorgridlaw1_same_fn k x23 x25 x26 hx26) rfl [] (by repeat' (first | exact All2.nil | refine All2.cons ?_ ?_ | refine ArgV.one ?_ | refine ArgV.agg ?_ | exact ArgC.mk rfl | exact ArgC.lend rfl (by simp) | exact ArgC.le (CLe.nil _) rfl | exact ArgC.le (CLe.emp _) rfl | exact ArgC.le (CLe.any _) rfl)) rfl rfl rfl (.inl rfl) rfl) ?_
      refine aops_step1 rfl (st_assign rfl rfl) ?_
      refine aops_nil ?_
      cases Option.some.inj h
      refine aw_ret ⟨rfl, ret_v (.inl ⟨_, rfl, rfl, fun _ e => nomatch e⟩) rfl rfl rfl ?_⟩
      (repeat' (first | exact TLe.refl _ | exact VLe.refl _ | exact CLe.refl _ | exact All2.nil | refine TLe.tup ?_ | refine TLe.v ?_ | refine All2.cons ?_ ?_ | refine VLe.agg ?_ | refine VLe.one ?_ | exact CLe.nil _ | exact CLe.emp _ | refine CLe.val ?_ | refine CLe.slc ?_ ?_))
    rcases Md.bool_or (x3) with q4 | q4
    · replace j4 := Md.cond_t j4 q4
      refine aops_no rfl rfl rfl rfl rfl (by first | decide | (rw [q4]; decide)) ?_
      refine aops_no rfl rfl rfl rfl rfl (by first | decide | (rw [q4]; decide)) ?_
      refine aops_no rfl rfl rfl rfl rfl (by first | decide | (rw [q4]; decide)) ?_
      refine aops_step1 rfl (st_pick_yes rfl (by first | rfl | exact q4) rfl rfl) ?_
      refine aops_nil ?_
      show ∃ _x : Bool, _ = _ ∧ Weak _ _
      exact ⟨true, Option.some.inj j4, (by (refine weak_mk rfl rfl ?_ ?_ rfl <;> repeat' (first | exact trivial | refine ⟨?_, ?_⟩ | exact VLe.refl _ | exact BLe.refl _ | refine VLe.one (CLe.val ?_) | exact VLe.one (CLe.nil _) | exact VLe.one (CLe.emp _))))⟩
    replace j4 := Md.cond_f j4 q4
    refine aops_yes rfl rfl rfl rfl q4 (ev_loads (ds := [_, _, _, _, _]) rfl rfl rfl rfl rfl) ?_
    obtain ⟨x27, hx27, j4⟩ := Md.bind_s j4
    refine aops_yes rfl rfl rfl rfl q4 (ev_call_v (actorgridlaw1_Small_fn k a2 x27 hx27) rfl [] (by repeat' (first | exact All2.nil | refine All2.cons ?_ ?_ | refine ArgV.one ?_ | refine ArgV.agg ?_ | exact ArgC.mk rfl | exact ArgC.lend rfl (by simp) | exact ArgC.le (CLe.nil _) rfl | exact ArgC.le (CLe.emp _) rfl | exact ArgC.le (CLe.any _) rfl)) rfl rfl rfl (.inl rfl) rfl) ?_
    refine aops_yes rfl rfl rfl rfl q4 (ev_not rfl rfl) ?_
    refine aops_step1 rfl (st_pick_no rfl (by first | rfl | exact q4) rfl rfl) ?_
    refine aops_nil ?_
    show ∃ _x : Bool, _ = _ ∧ Weak _ _
    exact ⟨(!x27), Option.some.inj j4, (by (refine weak_mk rfl rfl ?_ ?_ rfl <;> repeat' (first | exact trivial | refine ⟨?_, ?_⟩ | exact VLe.refl _ | exact BLe.refl _ | refine VLe.one (CLe.val ?_) | exact VLe.one (CLe.nil _) | exact VLe.one (CLe.emp _))))⟩
  rcases Md.bool_or ((decide (((a0.length : Nat) : Int) > 2000))) with q3 | q3
  · replace j3 := Md.cond_t j3 q3
    refine aops_no rfl rfl rfl rfl rfl (by first | decide | (rw [q3]; decide)) ?_
    refine aops_no rfl rfl rfl rfl rfl (by first | decide | (rw [q3]; decide)) ?_
    refine aops_no rfl rfl rfl rfl rfl (by first | decide | (rw [q3]; decide)) ?_
    refine aops_step1 rfl (st_pick_yes rfl (by first | rfl | exact q3) rfl rfl) ?_
    refine aops_nil ?_
    show ∃ _x : Bool, _ = _ ∧ Weak _ _
    exact ⟨true, Option.some.inj j3, (by (refine weak_mk rfl rfl ?_ ?_ rfl <;> repeat' (first | exact trivial | refine ⟨?_, ?_⟩ | exact VLe.refl _ | exact BLe.refl _ | refine VLe.one (CLe.val ?_) | exact VLe.one (CLe.nil _) | exact VLe.one (CLe.emp _))))⟩
  replace j3 := Md.cond_f j3 q3
  refine aops_yes rfl rfl rfl rfl q3 (ev_loads (ds := [_, _, _, _, _]) rfl rfl rfl rfl rfl) ?_
  obtain ⟨x28, hx28, j3⟩ := Md.bind_s j3
  refine aops_yes rfl rfl rfl rfl q3 (ev_call_v (actorgridlaw1_Small_fn k a1 x28 hx28) rfl [] (by repeat' (first | exact All2.nil | refine All2.cons ?_ ?_ | refine ArgV.one ?_ | refine ArgV.agg ?_ | exact ArgC.mk rfl | exact ArgC.lend rfl (by simp) | exact ArgC.le (CLe.nil _) rfl | exact ArgC.le (CLe.emp _) rfl | exact ArgC.le (CLe.any _) rfl)) rfl rfl rfl (.inl rfl) rfl) ?_
  refine aops_yes rfl rfl rfl rfl q3 (ev_not rfl rfl) ?_
  refine aops_step1 rfl (st_pick_no rfl (by first | rfl | exact q3) rfl rfl) ?_
  refine aops_nil ?_
  show ∃ _x : Bool, _ = _ ∧ Weak _ _
  exact ⟨(!x28), Option.some.inj j3, (by (refine weak_mk rfl rfl ?_ ?_ rfl <;> repeat' (first | exact trivial | refine ⟨?_, ?_⟩ | exact VLe.refl _ | exact BLe.refl _ | refine VLe.one (CLe.val ?_) | exact VLe.one (CLe.nil _) | exact VLe.one (CLe.emp _))))⟩
end Md
end Go.Proofs.Ytbnjdkpangmneaa
