/-
  ConsL: where a function's model gives a value, the function returns what reads as it (printed by wip/tools/auto.py). Condition of each: the model gives a value.
-/
import Derived.Test.YtjpiiejdaiaocaaDoorConsLM
import Derived.Test.YtjpiiejdaiaocaaDoorTy
import Derived.Test.YtjpiiejdaiaocaaDoorAbsU
import Derived.Test.YtjpiiejdaiaocaaDoorConsF
namespace Go.Proofs.YtjpiiejdaiaocaaDoor
open Go.ChangeShapes Go.WideShapes Go.RowKit
open Abs
set_option linter.unusedVariables false
set_option linter.unusedSimpArgs false
set_option maxRecDepth 10000
namespace Md
set_option maxHeartbeats 2000000 in
theorem actorgridlaw41_ConsoleCommands_fn (k : Nat) (a0 : ConsoleCommand) (a1 : List UInt8) (r : Bool) (h : actorgridlaw41_ConsoleCommands k a0 a1 = some r) : FnC Tryd.prog 3 [.agg (c_ConsoleCommand a0), .one (.val (Sv a1))] [] (Det (vB r) []) := by
  unfold actorgridlaw41_ConsoleCommands at h
  refine fn_intro' 26 Tryd.func3 rfl rfl rfl (aw_seq (aw_region (aops_step1 rfl (st_box 0 rfl rfl rfl rfl) (s_sa ?_))))
  refine aops_nil (aw_seq (aw_seq (aw_region ?_)))
  obtain ⟨x1, hx1, h⟩ := Md.bind_s h
  refine aops_step1 rfl (ev_call_v (actorgridlaw41_awake_fn k x1 hx1) rfl [] ai rfl rfl rfl (.inl rfl) rfl) (s_nt ?_)
  refine aops_nil ?_
  refine aw_cond rfl (fun c2 => ?_) (fun c2 => ?_)
  · replace h := Md.cond_t h c2
    refine aw_seq (aw_region (s_sa ?_))
    refine aops_nil ?_
    cases Option.some.inj h
    exact aw_ret ⟨rfl, rv r1⟩
  replace h := Md.cond_f h c2
  refine aw_skip ?_
  obtain ⟨x3, hx3, h⟩ := Md.bind_s h
  obtain ⟨x4, hx4, h⟩ := Md.bind_s h
  rcases Md.bool_or ((x3 == x4)) with q5 | q5
  · replace h := Md.cond_t h q5
    obtain ⟨x6, hx6, h⟩ := Md.bind_s h
    obtain ⟨x7, hx7, h⟩ := Md.bind_s h
    rcases Md.bool_or ((decide (x6 = x7))) with q8 | q8
    · replace h := Md.cond_t h q8
      obtain ⟨x9, hx9, h⟩ := Md.bind_s h
      obtain ⟨x10, hx10, h⟩ := Md.bind_s h
      refine aw_seq ?_
      apply aw_draw 16 ((⟨[], .agg (c_ConsoleCommand a0)⟩ : Add) :: ⟨[], vB x3⟩ :: ⟨[], .agg (c_ConsoleCommand a0)⟩ :: ⟨[], vB x4⟩ :: ⟨[], vB (x3 == x4)⟩ :: ⟨[], vB (x3 == x4)⟩ :: ⟨[], .agg (c_ConsoleCommand a0)⟩ :: ⟨[], .one (.val (Sv x6))⟩ :: ⟨[], .agg (c_ConsoleCommand a0)⟩ :: ⟨[], .one (.val (Sv x7))⟩ :: ⟨[], vB (decide (x6 = x7))⟩ :: ⟨[], vB (decide (x6 = x7))⟩ :: ⟨[], vB (decide (x6 = x7))⟩ :: ⟨[], .one (.val (Sv a1))⟩ :: ⟨[], vB x9⟩ :: ⟨[], .one (.val (Sv a1))⟩ :: []) (by decide) rfl ?hk1x ?hf1x ?ho1x ?hr1x
      case ho1x =>
       refine ob [] (fun S hle hfr => .inl ⟨w0, ev_loads (ds := [_, _, _, _, _, _]) (hle.e rfl) (hle.heap _ _ rfl) rfl rfl (hle.d rfl)⟩) ?_
       refine ob [0] (fun S hle hfr => .inl ⟨w0, ev_call_v (console_Valid_fn k a0 x3 hx3) (map_ev (.cons (hle.e rfl) (.nil))) [] (by repeat' (first | exact .nil | refine .cons ?_ ?_ | refine .one ?_ | refine .agg ?_ | exact .mk rfl | exact .lend (hle.heap _ _ rfl) (by simp) | exact .le (.nil _) rfl | exact .le (.emp _) rfl | exact .le (.any _) rfl | fail)) rfl rfl rfl (.inl rfl) (hle.d rfl)⟩) ?_
       refine ob [] (fun S hle hfr => .inl ⟨w0, ev_loads (ds := [_, _, _, _, _, _]) (hle.e rfl) (hle.heap _ _ rfl) rfl rfl (hle.d rfl)⟩) ?_
       refine ob [2, 1, 0] (fun S hle hfr => .inl ⟨w0, ev_call_v (actorgridref41_Valid_fn k a0 x4 hx4) (map_ev (.cons (hle.e rfl) (.nil))) [] (by repeat' (first | exact .nil | refine .cons ?_ ?_ | refine .one ?_ | refine .agg ?_ | exact .mk rfl | exact .lend (hle.heap _ _ rfl) (by simp) | exact .le (.nil _) rfl | exact .le (.emp _) rfl | exact .le (.any _) rfl | fail)) rfl rfl rfl (.inl rfl) (hle.d rfl)⟩) ?_
       refine ob [1, 3, 0, 2] (fun S hle hfr => .inl ⟨w0, ev_bool_eq (hle.e rfl) (hle.e rfl) (hle.d rfl) Tryd.underlying4 rfl⟩) ?_
       refine ob [4, 3, 1, 2, 0] (fun S hle hfr => .inl ⟨w0, st_move (hle.e rfl) (hle.d rfl)⟩) ?_
       refine ob [5, 4, 3, 1, 2, 0] (fun S hle hfr => .inl ⟨wy hle q5, ev_loads (ds := [_, _, _, _, _, _]) (hle.e rfl) (hle.heap _ _ rfl) rfl rfl (hle.d rfl)⟩) ?_
       refine ob [6, 5, 4, 3, 1, 2, 0] (fun S hle hfr => .inl ⟨wy hle q5, ev_call_v (console_Format_fn k a0 x6 hx6) (map_ev (.cons (hle.e rfl) (.nil))) [] (by repeat' (first | exact .nil | refine .cons ?_ ?_ | refine .one ?_ | refine .agg ?_ | exact .mk rfl | exact .lend (hle.heap _ _ rfl) (by simp) | exact .le (.nil _) rfl | exact .le (.emp _) rfl | exact .le (.any _) rfl | fail)) rfl rfl rfl (.inl rfl) (hle.d rfl)⟩) ?_
       refine ob [5, 4, 3, 1, 2, 0] (fun S hle hfr => .inl ⟨wy hle q5, ev_loads (ds := [_, _, _, _, _, _]) (hle.e rfl) (hle.heap _ _ rfl) rfl rfl (hle.d rfl)⟩) ?_
       refine ob [8, 7, 5, 6, 4, 3, 1, 2, 0] (fun S hle hfr => .inl ⟨wy hle q5, ev_call_v (actorgridref41_Format_fn k a0 x7 hx7) (map_ev (.cons (hle.e rfl) (.nil))) [] (by repeat' (first | exact .nil | refine .cons ?_ ?_ | refine .one ?_ | refine .agg ?_ | exact .mk rfl | exact .lend (hle.heap _ _ rfl) (by simp) | exact .le (.nil _) rfl | exact .le (.emp _) rfl | exact .le (.any _) rfl | fail)) rfl rfl rfl (.inl rfl) (hle.d rfl)⟩) ?_
       refine ob [7, 9, 5, 6, 8, 4, 3, 1, 2, 0] (fun S hle hfr => .inl ⟨wy hle q5, st_str_eq (hle.e rfl) (hle.e rfl) (hle.d rfl)⟩) ?_
       refine ob [5, 10, 4, 3, 7, 9, 1, 2, 6, 8, 0] (fun S hle hfr => .inl ⟨w0, st_pick_yes (hle.e rfl) (by first | rfl | exact q5) (hle.e rfl) (hle.d rfl)⟩) ?_
       refine ob [11, 9, 5, 10, 8, 7, 4, 3, 6, 1, 2, 0] (fun S hle hfr => .inl ⟨w0, st_move (hle.e rfl) (hle.d rfl)⟩) ?_
       refine ob [12, 11, 9, 5, 10, 8, 7, 4, 3, 6, 1, 2, 0] (fun S hle hfr => .inl ⟨wy hle q8, st_move (hle.e rfl) (hle.d rfl)⟩) ?_
       refine ob [13, 12, 11, 9, 5, 10, 8, 7, 4, 3, 6, 1, 2, 0] (fun S hle hfr => .inl ⟨wy hle q8, ev_call_v (console_Name_fn k a1 x9 hx9) (map_ev (.cons (hle.e rfl) (.nil))) [] (by repeat' (first | exact .nil | refine .cons ?_ ?_ | refine .one ?_ | refine .agg ?_ | exact .mk rfl | exact .lend (hle.heap _ _ rfl) (by simp) | exact .le (.nil _) rfl | exact .le (.emp _) rfl | exact .le (.any _) rfl | fail)) rfl rfl rfl (.inl rfl) (hle.d rfl)⟩) ?_
       refine ob [12, 11, 9, 5, 10, 8, 7, 4, 3, 6, 1, 2, 0] (fun S hle hfr => .inl ⟨wy hle q8, st_move (hle.e rfl) (hle.d rfl)⟩) ?_
       exact trivial
      case hk1x => rfl
      case hf1x => rfl
      refine aops_yes rfl rfl rfl rfl q8 (ev_call_v (actorgridref41_Name_fn k a1 x10 hx10) rfl [] ai rfl rfl rfl (.inl rfl) rfl) ?_
      refine aops_yes rfl rfl rfl rfl q8 (ev_bool_eq rfl rfl rfl Tryd.underlying4 rfl) (s_py q8 ?_)
      refine s_sa ?_
      refine aops_nil ?_
      cases Option.some.inj h
      exact aw_ret ⟨rfl, rv r1⟩
    replace h := Md.cond_f h q8
    refine aw_seq ?_
    apply aw_draw 16 ((⟨[], .agg (c_ConsoleCommand a0)⟩ : Add) :: ⟨[], vB x3⟩ :: ⟨[], .agg (c_ConsoleCommand a0)⟩ :: ⟨[], vB x4⟩ :: ⟨[], vB (x3 == x4)⟩ :: ⟨[], vB (x3 == x4)⟩ :: ⟨[], .agg (c_ConsoleCommand a0)⟩ :: ⟨[], .one (.val (Sv x6))⟩ :: ⟨[], .agg (c_ConsoleCommand a0)⟩ :: ⟨[], .one (.val (Sv x7))⟩ :: ⟨[], vB (decide (x6 = x7))⟩ :: ⟨[], vB (decide (x6 = x7))⟩ :: ⟨[], vB (decide (x6 = x7))⟩ :: ⟨[], .tup []⟩ :: ⟨[], .tup []⟩ :: ⟨[], .tup []⟩ :: []) (by decide) rfl ?hk2x ?hf2x ?ho2x ?hr2x
    case ho2x =>
     refine ob [] (fun S hle hfr => .inl ⟨w0, ev_loads (ds := [_, _, _, _, _, _]) (hle.e rfl) (hle.heap _ _ rfl) rfl rfl (hle.d rfl)⟩) ?_
     refine ob [0] (fun S hle hfr => .inl ⟨w0, ev_call_v (console_Valid_fn k a0 x3 hx3) (map_ev (.cons (hle.e rfl) (.nil))) [] (by repeat' (first | exact .nil | refine .cons ?_ ?_ | refine .one ?_ | refine .agg ?_ | exact .mk rfl | exact .lend (hle.heap _ _ rfl) (by simp) | exact .le (.nil _) rfl | exact .le (.emp _) rfl | exact .le (.any _) rfl | fail)) rfl rfl rfl (.inl rfl) (hle.d rfl)⟩) ?_
     refine ob [] (fun S hle hfr => .inl ⟨w0, ev_loads (ds := [_, _, _, _, _, _]) (hle.e rfl) (hle.heap _ _ rfl) rfl rfl (hle.d rfl)⟩) ?_
     refine ob [2, 1, 0] (fun S hle hfr => .inl ⟨w0, ev_call_v (actorgridref41_Valid_fn k a0 x4 hx4) (map_ev (.cons (hle.e rfl) (.nil))) [] (by repeat' (first | exact .nil | refine .cons ?_ ?_ | refine .one ?_ | refine .agg ?_ | exact .mk rfl | exact .lend (hle.heap _ _ rfl) (by simp) | exact .le (.nil _) rfl | exact .le (.emp _) rfl | exact .le (.any _) rfl | fail)) rfl rfl rfl (.inl rfl) (hle.d rfl)⟩) ?_
     refine ob [1, 3, 0, 2] (fun S hle hfr => .inl ⟨w0, ev_bool_eq (hle.e rfl) (hle.e rfl) (hle.d rfl) Tryd.underlying4 rfl⟩) ?_
     refine ob [4, 3, 1, 2, 0] (fun S hle hfr => .inl ⟨w0, st_move (hle.e rfl) (hle.d rfl)⟩) ?_
     refine ob [5, 4, 3, 1, 2, 0] (fun S hle hfr => .inl ⟨wy hle q5, ev_loads (ds := [_, _, _, _, _, _]) (hle.e rfl) (hle.heap _ _ rfl) rfl rfl (hle.d rfl)⟩) ?_
     refine ob [6, 5, 4, 3, 1, 2, 0] (fun S hle hfr => .inl ⟨wy hle q5, ev_call_v (console_Format_fn k a0 x6 hx6) (map_ev (.cons (hle.e rfl) (.nil))) [] (by repeat' (first | exact .nil | refine .cons ?_ ?_ | refine .one ?_ | refine .agg ?_ | exact .mk rfl | exact .lend (hle.heap _ _ rfl) (by simp) | exact .le (.nil _) rfl | exact .le (.emp _) rfl | exact .le (.any _) rfl | fail)) rfl rfl rfl (.inl rfl) (hle.d rfl)⟩) ?_
     refine ob [5, 4, 3, 1, 2, 0] (fun S hle hfr => .inl ⟨wy hle q5, ev_loads (ds := [_, _, _, _, _, _]) (hle.e rfl) (hle.heap _ _ rfl) rfl rfl (hle.d rfl)⟩) ?_
     refine ob [8, 7, 5, 6, 4, 3, 1, 2, 0] (fun S hle hfr => .inl ⟨wy hle q5, ev_call_v (actorgridref41_Format_fn k a0 x7 hx7) (map_ev (.cons (hle.e rfl) (.nil))) [] (by repeat' (first | exact .nil | refine .cons ?_ ?_ | refine .one ?_ | refine .agg ?_ | exact .mk rfl | exact .lend (hle.heap _ _ rfl) (by simp) | exact .le (.nil _) rfl | exact .le (.emp _) rfl | exact .le (.any _) rfl | fail)) rfl rfl rfl (.inl rfl) (hle.d rfl)⟩) ?_
     refine ob [7, 9, 5, 6, 8, 4, 3, 1, 2, 0] (fun S hle hfr => .inl ⟨wy hle q5, st_str_eq (hle.e rfl) (hle.e rfl) (hle.d rfl)⟩) ?_
     refine ob [5, 10, 4, 3, 7, 9, 1, 2, 6, 8, 0] (fun S hle hfr => .inl ⟨w0, st_pick_yes (hle.e rfl) (by first | rfl | exact q5) (hle.e rfl) (hle.d rfl)⟩) ?_
     refine ob [11, 9, 5, 10, 8, 7, 4, 3, 6, 1, 2, 0] (fun S hle hfr => .inl ⟨w0, st_move (hle.e rfl) (hle.d rfl)⟩) ?_
     refine ob [12, 11, 9, 5, 10, 8, 7, 4, 3, 6, 1, 2, 0] (fun S hle hfr => nw hle q8) ?_
     refine ob [13, 12, 11, 9, 5, 10, 8, 7, 4, 3, 6, 1, 2, 0] (fun S hle hfr => nw hle q8) ?_
     refine ob [12, 11, 9, 5, 10, 8, 7, 4, 3, 6, 1, 2, 0] (fun S hle hfr => nw hle q8) ?_
     exact trivial
    case hk2x => rfl
    case hf2x => rfl
    iterate 2 refine np q8 ?_
    refine s_pn q8 ?_
    refine s_sa ?_
    refine aops_nil ?_
    cases Option.some.inj h
    exact aw_ret ⟨rfl, rv r1⟩
  replace h := Md.cond_f h q5
  refine aw_seq ?_
  apply aw_draw 16 ((⟨[], .agg (c_ConsoleCommand a0)⟩ : Add) :: ⟨[], vB x3⟩ :: ⟨[], .agg (c_ConsoleCommand a0)⟩ :: ⟨[], vB x4⟩ :: ⟨[], vB (x3 == x4)⟩ :: ⟨[], vB (x3 == x4)⟩ :: ⟨[], .tup []⟩ :: ⟨[], .tup []⟩ :: ⟨[], .tup []⟩ :: ⟨[], .tup []⟩ :: ⟨[], .tup []⟩ :: ⟨[], vB false⟩ :: ⟨[], vB false⟩ :: ⟨[], .tup []⟩ :: ⟨[], .tup []⟩ :: ⟨[], .tup []⟩ :: []) (by decide) rfl ?hk3x ?hf3x ?ho3x ?hr3x
  case ho3x =>
   refine ob [] (fun S hle hfr => .inl ⟨w0, ev_loads (ds := [_, _, _, _, _, _]) (hle.e rfl) (hle.heap _ _ rfl) rfl rfl (hle.d rfl)⟩) ?_
   refine ob [0] (fun S hle hfr => .inl ⟨w0, ev_call_v (console_Valid_fn k a0 x3 hx3) (map_ev (.cons (hle.e rfl) (.nil))) [] (by repeat' (first | exact .nil | refine .cons ?_ ?_ | refine .one ?_ | refine .agg ?_ | exact .mk rfl | exact .lend (hle.heap _ _ rfl) (by simp) | exact .le (.nil _) rfl | exact .le (.emp _) rfl | exact .le (.any _) rfl | fail)) rfl rfl rfl (.inl rfl) (hle.d rfl)⟩) ?_
   refine ob [] (fun S hle hfr => .inl ⟨w0, ev_loads (ds := [_, _, _, _, _, _]) (hle.e rfl) (hle.heap _ _ rfl) rfl rfl (hle.d rfl)⟩) ?_
   refine ob [2, 1, 0] (fun S hle hfr => .inl ⟨w0, ev_call_v (actorgridref41_Valid_fn k a0 x4 hx4) (map_ev (.cons (hle.e rfl) (.nil))) [] (by repeat' (first | exact .nil | refine .cons ?_ ?_ | refine .one ?_ | refine .agg ?_ | exact .mk rfl | exact .lend (hle.heap _ _ rfl) (by simp) | exact .le (.nil _) rfl | exact .le (.emp _) rfl | exact .le (.any _) rfl | fail)) rfl rfl rfl (.inl rfl) (hle.d rfl)⟩) ?_
   refine ob [1, 3, 0, 2] (fun S hle hfr => .inl ⟨w0, ev_bool_eq (hle.e rfl) (hle.e rfl) (hle.d rfl) Tryd.underlying4 rfl⟩) ?_
   refine ob [4, 3, 1, 2, 0] (fun S hle hfr => .inl ⟨w0, st_move (hle.e rfl) (hle.d rfl)⟩) (ob [5, 4, 3, 1, 2, 0] (fun S hle hfr => nw hle q5) ?_)
   refine ob [6, 5, 4, 3, 1, 2, 0] (fun S hle hfr => nw hle q5) (ob [5, 4, 3, 1, 2, 0] (fun S hle hfr => nw hle q5) ?_)
   refine ob [8, 7, 5, 6, 4, 3, 1, 2, 0] (fun S hle hfr => nw hle q5) (ob [7, 9, 5, 6, 8, 4, 3, 1, 2, 0] (fun S hle hfr => nw hle q5) ?_)
   refine ob [5, 10, 4, 3, 7, 9, 1, 2, 6, 8, 0] (fun S hle hfr => .inl ⟨w0, st_pick_no (hle.e rfl) (by first | rfl | exact q5) (hle.e rfl) (hle.d rfl)⟩) ?_
   refine ob [11, 9, 5, 10, 8, 7, 4, 3, 6, 1, 2, 0] (fun S hle hfr => .inl ⟨w0, st_move (hle.e rfl) (hle.d rfl)⟩) ?_
   refine ob [12, 11, 9, 5, 10, 8, 7, 4, 3, 6, 1, 2, 0] (fun S hle hfr => .inr ⟨.inr (.inl ⟨_, _, _, _, rfl, rfl, (hle.ev (x := .tmp _) rfl (by nofun)), (by rw [hle.nt]; rfl), (by first | rfl | (rw [rfl]; rfl))⟩), rfl, hle.d rfl⟩) ?_
   refine ob [13, 12, 11, 9, 5, 10, 8, 7, 4, 3, 6, 1, 2, 0] (fun S hle hfr => .inr ⟨.inr (.inl ⟨_, _, _, _, rfl, rfl, (hle.ev (x := .tmp _) rfl (by nofun)), (by rw [hle.nt]; rfl), (by first | rfl | (rw [rfl]; rfl))⟩), rfl, hle.d rfl⟩) ?_
   refine ob [12, 11, 9, 5, 10, 8, 7, 4, 3, 6, 1, 2, 0] (fun S hle hfr => .inr ⟨.inr (.inl ⟨_, _, _, _, rfl, rfl, (hle.ev (x := .tmp _) rfl (by nofun)), (by rw [hle.nt]; rfl), (by first | rfl | (rw [rfl]; rfl))⟩), rfl, hle.d rfl⟩) ?_
   exact trivial
  case hk3x => rfl
  case hf3x => rfl
  refine aops_no rfl rfl rfl rfl rfl (by decide) (aops_no rfl rfl rfl rfl rfl (by decide) (aops_step1 rfl (st_pick_no rfl (by first | rfl | exact rfl) rfl rfl) (s_sa ?_)))
  refine aops_nil ?_
  cases Option.some.inj h
  exact aw_ret ⟨rfl, rv r1⟩
set_option maxHeartbeats 2000000 in
theorem actorgridlaw41_ConsoleQuotes_fn (k : Nat) (a0 : List UInt8) (a1 : List UInt8) (r : Bool) (h : actorgridlaw41_ConsoleQuotes k a0 a1 = some r) : FnC Tryd.prog 4 [.one (.val (Sv a0)), .one (.val (Sv a1))] [] (Det (vB r) []) := by
  unfold actorgridlaw41_ConsoleQuotes at h
  refine fn_intro' 68 Tryd.func4 rfl rfl rfl (aw_seq (aw_region (s_sa ?_)))
  refine aops_nil (aw_seq (aw_seq (aw_region ?_)))
  obtain ⟨x1, hx1, h⟩ := Md.bind_s h
  refine aops_step1 rfl (ev_call_v (actorgridlaw41_awake_fn k x1 hx1) rfl [] ai rfl rfl rfl (.inl rfl) rfl) (s_nt ?_)
  refine aops_nil ?_
  refine aw_cond rfl (fun c2 => ?_) (fun c2 => ?_)
  · replace h := Md.cond_t h c2
    refine aw_seq (aw_region (s_sa ?_))
    refine aops_nil ?_
    cases Option.some.inj h
    exact aw_ret ⟨rfl, rv r1⟩
  replace h := Md.cond_f h c2
  refine aw_skip (aw_seq (aw_seq (aw_region (s_mv ?_))))
  refine aops_step1 rfl (st_len_str rfl rfl) (s_cm ?_)
  refine s_mv ?_
  refine aops_mid 4 (⟨68, [], [(0, .one (.val (Sv a0))), (1, .one (.val (Sv a1))), (22, vB ((decide (((a0.length : Nat) : Int) > 500)) || (decide (((a1.length : Nat) : Int) > 500))))], []⟩ : ASt) ?_ ?_
  · rcases Md.bool_or ((decide (((a0.length : Nat) : Int) > 500))) with q3 | q3
    · skip
      iterate 3 refine np q3 ?_
      refine s_py q3 ?_
      refine aops_nil ?_
      exact wq q3
    refine y_mv q3 ?_
    refine aops_yes rfl rfl rfl rfl q3 (st_len_str rfl rfl) (y_cm q3 ?_)
    refine s_pn q3 ?_
    refine aops_nil ?_
    exact wq q3
  refine aops_nil ?_
  refine aw_cond rfl (fun c4 => ?_) (fun c4 => ?_)
  · replace h := Md.cond_t h c4
    refine aw_seq (aw_region (s_sa ?_))
    refine aops_nil ?_
    cases Option.some.inj h
    exact aw_ret ⟨rfl, rv r1⟩
  replace h := Md.cond_f h c4
  refine aw_skip (aw_seq (aw_seq (aw_region (s_mv ?_))))
  obtain ⟨x5, hx5, h⟩ := Md.bind_s h
  refine aops_step1 rfl (ev_call_v (console_Quote_fn k a0 x5 hx5) rfl [] ai rfl rfl rfl (.inl rfl) rfl) (s_mv ?_)
  obtain ⟨x6, hx6, h⟩ := Md.bind_s h
  refine aops_step1 rfl (ev_call_v (actorgridref41_Quote_fn k a0 x6 hx6) rfl [] ai rfl rfl rfl (.inl rfl) rfl) (aops_step1 rfl (st_str_ne rfl rfl rfl) (aops_nil ?_))
  refine aw_cond rfl (fun c7 => ?_) (fun c7 => ?_)
  · replace h := Md.cond_t h c7
    refine aw_seq (aw_region (s_sa ?_))
    refine aops_nil ?_
    cases Option.some.inj h
    exact aw_ret ⟨rfl, rv r1⟩
  replace h := Md.cond_f h c7
  refine aw_skip (aw_seq (aw_seq (aw_region ?_)))
  iterate 3 refine s_mv ?_
  obtain ⟨g8, h⟩ := Md.ifp_s h
  refine aops_step1 rfl (st_str_add rfl rfl rfl g8) (s_mv ?_)
  obtain ⟨x9, hx9, h⟩ := Md.bind_s h
  refine aops_step1 rfl (ev_call_v (console_Quote_fn k a0 x9 hx9) rfl [] ai rfl rfl rfl (.inl rfl) rfl) (s_mv ?_)
  obtain ⟨g10, h⟩ := Md.ifp_s h
  refine aops_step1 rfl (st_str_add rfl rfl rfl g10) ?_
  refine aops_step1 rfl (st_slice_lit (el := lsEl c_Str [a0, a1, (([34] : List UInt8) ++ a0), (x9 ++ a1)]) 0 rfl rfl rfl rfl rfl rfl rfl rfl (lit_el c_Str 1 [a0, a1, (([34] : List UInt8) ++ a0), (x9 ++ a1)] (fun _ => rfl)) rfl) ?_
  refine aops_step1 rfl (ev_len_own rfl rfl rfl) (s_mv ?_)
  refine aops_nil (aw_block (aw_freeze 0 rfl ?_))
  obtain ⟨o11, ho11, h⟩ := Md.bind_s h
  refine aw_loop_x (ι := {p : Nat × Nat // actorgridlaw41_ConsoleQuotes_loop1 k a0 a1 x9 p.1 p.2 = some o11}) (fun p => (⟨68, [], [(36, .one (CV.ls c_Str [a0, a1, (([34] : List UInt8) ++ a0), (x9 ++ a1)])), (37, vI (([a0, a1, (([34] : List UInt8) ++ a0), (x9 ++ a1)].length : Nat) : Int)), (38, vI ((p.1.2 : Nat) : Int))], []⟩ : ASt)) (fun p => p.1.1) ⟨(k, 0), ho11⟩ wk 0 (ε := Unit) (fun x => (⟨68, [], [], []⟩ : ASt)) (fun x => Sum.inl x = o11) (fun _ _ w h => aw_weak w h) ?_ ?_
  · intro x11_0 hI11
    subst hI11
    replace h := Md.onS_l h
    change AW _ _ (⟨68, [], [], []⟩ : ASt) _
    refine aw_seq (aw_region (s_sa ?_))
    refine aops_nil ?_
    cases Option.some.inj h
    exact aw_ret ⟨rfl, rv r1⟩
  intro p11
  obtain ⟨⟨n11, s11_0⟩, l11⟩ := p11
  change AW _ _ (⟨68, [], [(36, .one (CV.ls c_Str [a0, a1, (([34] : List UInt8) ++ a0), (x9 ++ a1)])), (37, vI (([a0, a1, (([34] : List UInt8) ++ a0), (x9 ++ a1)].length : Nat) : Int)), (38, vI ((s11_0 : Nat) : Int))], []⟩ : ASt) _
  replace l11 : actorgridlaw41_ConsoleQuotes_loop1 k a0 a1 x9 n11 s11_0 = some o11 := l11
  rcases n11 with _ | n11
  · exact absurd (show none = some o11 from l11) nofun
  rw [actorgridlaw41_ConsoleQuotes_loop1] at l11
  refine aw_seq (aw_region (s_cm ?_))
  refine aops_nil (aw_seq ?_)
  refine aw_cond rfl (fun c12 => ?_) (fun c12 => ?_)
  · replace l11 := Md.cond_t l11 c12
    refine aw_skip (aw_seq (aw_block (aw_seq (aw_region ?_))))
    obtain ⟨g13, l11⟩ := Md.ifp_s l11
    refine aops_step1 rfl (ev_index_in rfl rfl rfl g13 rfl rfl) (aops_step1 rfl (ev_load_in rfl rfl rfl) (s_sa ?_))
    refine aops_nil (aw_seq (aw_region (s_mv ?_)))
    obtain ⟨x14, hx14, l11⟩ := Md.bind_s l11
    refine aops_step1 rfl (ev_call_v (console_Unquote_fn k ([a0, a1, (([34] : List UInt8) ++ a0), (x9 ++ a1)].getD s11_0 default) x14 hx14) rfl [] ai rfl rfl rfl (.inl rfl) rfl) (s_mt ?_)
    iterate 3 refine s_ex ?_
    iterate 3 refine s_sa ?_
    refine aops_nil (aw_seq (aw_region (s_mv ?_)))
    obtain ⟨x15, hx15, l11⟩ := Md.bind_s l11
    refine aops_step1 rfl (ev_call_v (actorgridref41_Unquote_fn k ([a0, a1, (([34] : List UInt8) ++ a0), (x9 ++ a1)].getD s11_0 default) x15 hx15) rfl [] ai rfl rfl rfl (.inl rfl) rfl) (s_mt ?_)
    iterate 3 refine s_ex ?_
    iterate 3 refine s_sa ?_
    refine aops_nil (aw_seq (aw_region ?_))
    iterate 2 refine s_mv ?_
    refine aops_step1 rfl (st_str_ne rfl rfl rfl) (s_mv ?_)
    refine aops_mid 4 (⟨68, [], [(9, vI x14.2.2), (12, vI x15.2.2), (36, .one (CV.ls c_Str [a0, a1, (([34] : List UInt8) ++ a0), (x9 ++ a1)])), (37, vI (([a0, a1, (([34] : List UInt8) ++ a0), (x9 ++ a1)].length : Nat) : Int)), (38, vI ((s11_0 : Nat) : Int)), (61, vB ((!(decide (x14.1 = x15.1))) || (x14.2.1 != x15.2.1)))], []⟩ : ASt) ?_ ?_
    · rcases Md.bool_or ((!(decide (x14.1 = x15.1)))) with q16 | q16
      · skip
        iterate 3 refine np q16 ?_
        refine s_py q16 ?_
        refine aops_nil ?_
        exact wq q16
      iterate 2 refine y_mv q16 ?_
      refine y_cm q16 ?_
      refine s_pn q16 ?_
      refine aops_nil ?_
      exact wq q16
    refine s_mv ?_
    refine aops_mid 4 (⟨68, [], [(36, .one (CV.ls c_Str [a0, a1, (([34] : List UInt8) ++ a0), (x9 ++ a1)])), (37, vI (([a0, a1, (([34] : List UInt8) ++ a0), (x9 ++ a1)].length : Nat) : Int)), (38, vI ((s11_0 : Nat) : Int)), (66, vB (((!(decide (x14.1 = x15.1))) || (x14.2.1 != x15.2.1)) || (x14.2.2 != x15.2.2)))], []⟩ : ASt) ?_ ?_
    · rcases Md.bool_or (((!(decide (x14.1 = x15.1))) || (x14.2.1 != x15.2.1))) with q17 | q17
      · skip
        iterate 3 refine np q17 ?_
        refine s_py q17 ?_
        refine aops_nil ?_
        exact wq q17
      iterate 2 refine y_mv q17 ?_
      refine y_cm q17 ?_
      refine s_pn q17 ?_
      refine aops_nil ?_
      exact wq q17
    refine aops_nil ?_
    refine aw_cond rfl (fun c18 => ?_) (fun c18 => ?_)
    · replace l11 := Md.cond_t l11 c18
      refine aw_seq (aw_region (s_sa ?_))
      refine aops_nil ?_
      cases Option.some.inj l11
      replace h := Md.onS_r h
      cases Option.some.inj h
      exact aw_ret ⟨rfl, rv r1⟩
    replace l11 := Md.cond_f l11 c18
    refine aw_skip (aw_region ?_)
    obtain ⟨g19, l11⟩ := Md.ifp_s l11
    refine aops_step1 rfl (ev_add rfl rfl rfl (Md.nat_add g19)) (s_mv ?_)
    refine aops_nil ?_
    exact ⟨⟨(n11, (s11_0 + 1)), l11⟩, Nat.lt_succ_self _, wk⟩
  replace l11 := Md.cond_f l11 c12
  refine aw_exit ?_
  show ∃ _x : Unit, _ = _ ∧ Weak _ _
  exact ⟨(), Option.some.inj l11, wk⟩
set_option maxHeartbeats 2000000 in
theorem actorgridlaw41_ConsoleQuoteTrip_fn (k : Nat) (a0 : List UInt8) (a1 : List UInt8) (r : Bool) (h : actorgridlaw41_ConsoleQuoteTrip k a0 a1 = some r) : FnC Tryd.prog 5 [.one (.val (Sv a0)), .one (.val (Sv a1))] [] (Det (vB r) []) := by
  unfold actorgridlaw41_ConsoleQuoteTrip at h
  refine fn_intro' 72 Tryd.func5 rfl rfl rfl (aw_seq (aw_region (s_sa ?_)))
  refine aops_nil (aw_seq (aw_seq (aw_region ?_)))
  obtain ⟨x1, hx1, h⟩ := Md.bind_s h
  refine aops_step1 rfl (ev_call_v (actorgridlaw41_awake_fn k x1 hx1) rfl [] ai rfl rfl rfl (.inl rfl) rfl) (s_nt ?_)
  refine aops_nil ?_
  refine aw_cond rfl (fun c2 => ?_) (fun c2 => ?_)
  · replace h := Md.cond_t h c2
    refine aw_seq (aw_region (s_sa ?_))
    refine aops_nil ?_
    cases Option.some.inj h
    exact aw_ret ⟨rfl, rv r1⟩
  replace h := Md.cond_f h c2
  refine aw_skip (aw_seq (aw_seq (aw_region (s_mv ?_))))
  refine aops_step1 rfl (st_len_str rfl rfl) (s_cm ?_)
  refine s_mv ?_
  refine aops_mid 4 (⟨72, [], [(0, .one (.val (Sv a0))), (1, .one (.val (Sv a1))), (19, vB ((decide (((a0.length : Nat) : Int) > 500)) || (decide (((a1.length : Nat) : Int) > 500))))], []⟩ : ASt) ?_ ?_
  · rcases Md.bool_or ((decide (((a0.length : Nat) : Int) > 500))) with q3 | q3
    · skip
      iterate 3 refine np q3 ?_
      refine s_py q3 ?_
      refine aops_nil ?_
      exact wq q3
    refine y_mv q3 ?_
    refine aops_yes rfl rfl rfl rfl q3 (st_len_str rfl rfl) (y_cm q3 ?_)
    refine s_pn q3 ?_
    refine aops_nil ?_
    exact wq q3
  refine aops_nil ?_
  refine aw_cond rfl (fun c4 => ?_) (fun c4 => ?_)
  · replace h := Md.cond_t h c4
    refine aw_seq (aw_region (s_sa ?_))
    refine aops_nil ?_
    cases Option.some.inj h
    exact aw_ret ⟨rfl, rv r1⟩
  replace h := Md.cond_f h c4
  refine aw_skip (aw_seq (aw_region (s_mv ?_)))
  obtain ⟨x5, hx5, h⟩ := Md.bind_s h
  refine aops_step1 rfl (ev_call_v (console_Quote_fn k a0 x5 hx5) rfl [] ai rfl rfl rfl (.inl rfl) rfl) (s_sa ?_)
  refine aops_nil (aw_seq (aw_region ?_))
  iterate 2 refine s_mv ?_
  obtain ⟨g6, h⟩ := Md.ifp_s h
  refine aops_step1 rfl (st_str_add rfl rfl rfl g6) ?_
  obtain ⟨x7, hx7, h⟩ := Md.bind_s h
  refine aops_step1 rfl (ev_call_v (console_Unquote_fn k (x5 ++ a1) x7 hx7) rfl [] ai rfl rfl rfl (.inl rfl) rfl) (s_mt ?_)
  iterate 3 refine s_ex ?_
  iterate 3 refine s_sa ?_
  refine aops_nil (aw_seq (aw_seq (aw_region (s_mv ?_))))
  refine s_cm ?_
  refine s_mv ?_
  refine aops_mid 4 (⟨72, [], [(1, .one (.val (Sv a1))), (5, .one (.val (Sv x5))), (7, vI x7.2.1), (36, vB ((x7.2.2 != 0) || (!(decide (x7.1 = a0)))))], []⟩ : ASt) ?_ ?_
  · rcases Md.bool_or ((x7.2.2 != 0)) with q8 | q8
    · skip
      iterate 3 refine np q8 ?_
      refine s_py q8 ?_
      refine aops_nil ?_
      exact wq q8
    iterate 2 refine y_mv q8 ?_
    refine aops_yes rfl rfl rfl rfl q8 (st_str_ne rfl rfl rfl) (s_pn q8 ?_)
    refine aops_nil ?_
    exact wq q8
  refine s_mv ?_
  refine aops_mid 5 (⟨72, [], [(1, .one (.val (Sv a1))), (42, vB (((x7.2.2 != 0) || (!(decide (x7.1 = a0)))) || (x7.2.1 != ((x5.length : Nat) : Int))))], []⟩ : ASt) ?_ ?_
  · rcases Md.bool_or (((x7.2.2 != 0) || (!(decide (x7.1 = a0))))) with q9 | q9
    · skip
      iterate 4 refine np q9 ?_
      refine s_py q9 ?_
      refine aops_nil ?_
      exact wq q9
    iterate 2 refine y_mv q9 ?_
    refine aops_yes rfl rfl rfl rfl q9 (st_len_str rfl rfl) (y_cm q9 ?_)
    refine s_pn q9 ?_
    refine aops_nil ?_
    exact wq q9
  refine aops_nil ?_
  refine aw_cond rfl (fun c10 => ?_) (fun c10 => ?_)
  · replace h := Md.cond_t h c10
    refine aw_seq (aw_region (s_sa ?_))
    refine aops_nil ?_
    cases Option.some.inj h
    exact aw_ret ⟨rfl, rv r1⟩
  replace h := Md.cond_f h c10
  refine aw_skip (aw_seq (aw_region (s_mv ?_)))
  obtain ⟨g11, h⟩ := Md.ifp_s h
  refine aops_step1 rfl (st_str_add rfl rfl rfl g11) ?_
  obtain ⟨x12, hx12, h⟩ := Md.bind_s h
  refine aops_step1 rfl (ev_call_v (console_Unquote_fn k (([34] : List UInt8) ++ a1) x12 hx12) rfl [] ai rfl rfl rfl (.inl rfl) rfl) (s_mt ?_)
  iterate 3 refine s_ex ?_
  iterate 3 refine s_sa ?_
  refine aops_nil (aw_seq (aw_seq (aw_region (s_mv ?_))))
  refine s_cm ?_
  refine aops_nil ?_
  refine aw_cond rfl (fun c13 => ?_) (fun c13 => ?_)
  · replace h := Md.cond_t h c13
    refine aw_seq (aw_region (s_mv ?_))
    refine aops_step1 rfl (st_str_eq rfl rfl rfl) (s_mv ?_)
    refine aops_mid 3 (⟨72, [], [(57, vB ((decide (x12.1 = ([] : List UInt8))) && (x12.2.1 == 0)))], []⟩ : ASt) ?_ ?_
    · rcases Md.bool_or ((decide (x12.1 = ([] : List UInt8)))) with q14 | q14
      · skip
        refine y_mv q14 ?_
        refine y_cm q14 ?_
        refine s_py q14 ?_
        refine aops_nil ?_
        exact wq q14
      iterate 2 refine np q14 ?_
      refine s_pn q14 ?_
      refine aops_nil ?_
      exact wq q14
    refine s_sa ?_
    refine aops_nil ?_
    cases Option.some.inj h
    exact aw_ret ⟨rfl, rv r1⟩
  replace h := Md.cond_f h c13
  refine aw_skip ?_
  obtain ⟨g15, h⟩ := Md.ifp_s h
  rcases Md.bool_or ((decide (x12.2.1 ≤ (((a1.length + 1) : Nat) : Int)))) with q16 | q16
  · replace h := Md.cond_t h q16
    obtain ⟨g17, h⟩ := Md.ifp_s h
    obtain ⟨g18, h⟩ := Md.ifp_s h
    obtain ⟨g19, h⟩ := Md.ifp_s h
    obtain ⟨x20, hx20, h⟩ := Md.bind_s h
    refine aw_seq ?_
    apply aw_draw 12 ((⟨[], vI x12.2.1⟩ : Add) :: ⟨[], .one (.val (Sv a1))⟩ :: ⟨[], vI ((a1.length : Nat) : Int)⟩ :: ⟨[], vI (((a1.length + 1) : Nat) : Int)⟩ :: ⟨[], vB (decide (x12.2.1 ≤ (((a1.length + 1) : Nat) : Int)))⟩ :: ⟨[], vB (decide (x12.2.1 ≤ (((a1.length + 1) : Nat) : Int)))⟩ :: ⟨[], .one (.val (Sv a1))⟩ :: ⟨[], .one (.val (Sv (([34] : List UInt8) ++ a1)))⟩ :: ⟨[], vI x12.2.1⟩ :: ⟨[], .one (.val (Sv ((([34] : List UInt8) ++ a1).take ((x12.2.1).toNat))))⟩ :: ⟨[], .one (.val (Sv x12.1))⟩ :: ⟨[], .one (.val (Sv x20))⟩ :: []) (by decide) rfl ?hk1x ?hf1x ?ho1x ?hr1x
    case ho1x =>
     refine ob [] (fun S hle hfr => .inl ⟨w0, st_move (hle.e rfl) (hle.d rfl)⟩) (ob [] (fun S hle hfr => .inl ⟨w0, st_move (hle.e rfl) (hle.d rfl)⟩) ?_)
     refine ob [1] (fun S hle hfr => .inl ⟨w0, st_len_str (hle.e rfl) (hle.d rfl)⟩) ?_
     refine ob [2, 1] (fun S hle hfr => .inl ⟨w0, ev_add (hle.e rfl) (hle.e rfl) (hle.d rfl) (Md.nat_add g15)⟩) ?_
     refine ob [0, 3, 2, 1] (fun S hle hfr => .inl ⟨w0, ev_cmp (hle.e rfl) (hle.e rfl) (hle.d rfl) rfl⟩) ?_
     refine ob [4, 0, 3, 2, 1] (fun S hle hfr => .inl ⟨w0, st_move (hle.e rfl) (hle.d rfl)⟩) ?_
     refine ob [5, 4, 0, 3, 2, 1] (fun S hle hfr => .inl ⟨wy hle q16, st_move (hle.e rfl) (hle.d rfl)⟩) ?_
     refine ob [6, 5, 4, 0, 3, 2, 1] (fun S hle hfr => .inl ⟨wy hle q16, st_str_add (hle.e rfl) (hle.e rfl) (hle.d rfl) g17⟩) ?_
     refine ob [5, 4, 0, 3, 2, 1] (fun S hle hfr => .inl ⟨wy hle q16, st_move (hle.e rfl) (hle.d rfl)⟩) ?_
     refine ob [7, 8, 5, 6, 4, 0, 3, 2, 1] (fun S hle hfr => .inl ⟨wy hle q16, st_cut_hi_s (hle.e rfl) ⟨_, _, (hle.e rfl), (Md.nn_eq g18)⟩ g19 (hle.d rfl)⟩) ?_
     refine ob [5, 4, 0, 3, 2, 1] (fun S hle hfr => .inl ⟨wy hle q16, st_move (hle.e rfl) (hle.d rfl)⟩) ?_
     refine ob [10, 5, 4, 0, 3, 2, 1] (fun S hle hfr => .inl ⟨wy hle q16, ev_call_v (console_Quote_fn k x12.1 x20 hx20) (map_ev (.cons (hle.e rfl) (.nil))) [] (by repeat' (first | exact .nil | refine .cons ?_ ?_ | refine .one ?_ | refine .agg ?_ | exact .mk rfl | exact .lend (hle.heap _ _ rfl) (by simp) | exact .le (.nil _) rfl | exact .le (.emp _) rfl | exact .le (.any _) rfl | fail)) rfl rfl rfl (.inl rfl) (hle.d rfl)⟩) ?_
     exact trivial
    case hk1x => rfl
    case hf1x => rfl
    refine aops_yes rfl rfl rfl rfl q16 (st_str_eq rfl rfl rfl) (s_py q16 ?_)
    refine s_sa ?_
    refine aops_nil ?_
    cases Option.some.inj h
    exact aw_ret ⟨rfl, rv r1⟩
  replace h := Md.cond_f h q16
  refine aw_seq ?_
  apply aw_draw 12 ((⟨[], vI x12.2.1⟩ : Add) :: ⟨[], .one (.val (Sv a1))⟩ :: ⟨[], vI ((a1.length : Nat) : Int)⟩ :: ⟨[], vI (((a1.length + 1) : Nat) : Int)⟩ :: ⟨[], vB (decide (x12.2.1 ≤ (((a1.length + 1) : Nat) : Int)))⟩ :: ⟨[], vB (decide (x12.2.1 ≤ (((a1.length + 1) : Nat) : Int)))⟩ :: ⟨[], .tup []⟩ :: ⟨[], .tup []⟩ :: ⟨[], .tup []⟩ :: ⟨[], .tup []⟩ :: ⟨[], .tup []⟩ :: ⟨[], .tup []⟩ :: []) (by decide) rfl ?hk2x ?hf2x ?ho2x ?hr2x
  case ho2x =>
   refine ob [] (fun S hle hfr => .inl ⟨w0, st_move (hle.e rfl) (hle.d rfl)⟩) (ob [] (fun S hle hfr => .inl ⟨w0, st_move (hle.e rfl) (hle.d rfl)⟩) ?_)
   refine ob [1] (fun S hle hfr => .inl ⟨w0, st_len_str (hle.e rfl) (hle.d rfl)⟩) ?_
   refine ob [2, 1] (fun S hle hfr => .inl ⟨w0, ev_add (hle.e rfl) (hle.e rfl) (hle.d rfl) (Md.nat_add g15)⟩) ?_
   refine ob [0, 3, 2, 1] (fun S hle hfr => .inl ⟨w0, ev_cmp (hle.e rfl) (hle.e rfl) (hle.d rfl) rfl⟩) ?_
   refine ob [4, 0, 3, 2, 1] (fun S hle hfr => .inl ⟨w0, st_move (hle.e rfl) (hle.d rfl)⟩) (ob [5, 4, 0, 3, 2, 1] (fun S hle hfr => nw hle q16) ?_)
   refine ob [6, 5, 4, 0, 3, 2, 1] (fun S hle hfr => nw hle q16) (ob [5, 4, 0, 3, 2, 1] (fun S hle hfr => nw hle q16) ?_)
   refine ob [7, 8, 5, 6, 4, 0, 3, 2, 1] (fun S hle hfr => nw hle q16) (ob [5, 4, 0, 3, 2, 1] (fun S hle hfr => nw hle q16) ?_)
   refine ob [10, 5, 4, 0, 3, 2, 1] (fun S hle hfr => nw hle q16) ?_
   exact trivial
  case hk2x => rfl
  case hf2x => rfl
  refine np q16 ?_
  refine s_pn q16 ?_
  refine s_sa ?_
  refine aops_nil ?_
  cases Option.some.inj h
  exact aw_ret ⟨rfl, rv r1⟩
set_option maxHeartbeats 2000000 in
theorem actorgridlaw41_ConsoleTrip_fn (k : Nat) (a0 : UInt8) (a1 : UInt8) (a2 : UInt8) (a3 : UInt8) (a4 : List UInt8) (a5 : UInt64) (r : Bool) (h : actorgridlaw41_ConsoleTrip k a0 a1 a2 a3 a4 a5 = some r) : FnC Tryd.prog 6 [.one (.val (.int .u8 (a0.toNat : Int))), .one (.val (.int .u8 (a1.toNat : Int))), .one (.val (.int .u8 (a2.toNat : Int))), .one (.val (.int .u8 (a3.toNat : Int))), .one (.val (Sv a4)), .one (.val (.int .u64 (a5.toNat : Int)))] [] (Det (vB r) []) := by
  unfold actorgridlaw41_ConsoleTrip at h
  refine fn_intro' 57 Tryd.func6 rfl rfl rfl (aw_seq (aw_region (s_sa ?_)))
  refine aops_nil (aw_seq (aw_seq (aw_region ?_)))
  obtain ⟨x1, hx1, h⟩ := Md.bind_s h
  refine aops_step1 rfl (ev_call_v (actorgridlaw41_awake_fn k x1 hx1) rfl [] ai rfl rfl rfl (.inl rfl) rfl) (s_nt ?_)
  refine aops_nil ?_
  refine aw_cond rfl (fun c2 => ?_) (fun c2 => ?_)
  · replace h := Md.cond_t h c2
    refine aw_seq (aw_region (s_sa ?_))
    refine aops_nil ?_
    cases Option.some.inj h
    exact aw_ret ⟨rfl, rv r1⟩
  replace h := Md.cond_f h c2
  refine aw_skip (aw_seq (aw_region ?_))
  iterate 6 refine s_mv ?_
  obtain ⟨x3, hx3, h⟩ := Md.bind_s h
  refine aops_step1 rfl (ev_call_v (actorgridlaw41_command_fn k a0 a1 a2 a3 a4 a5 x3 hx3) rfl [] ai rfl rfl rfl (.inl rfl) rfl) ?_
  refine aops_step1 rfl (st_alloc (cs := [cI 0, .val (Sv []), .val (Sv []), .val (Sv []), .val (Sv []), cI 0]) 0 rfl rfl rfl rfl rfl) (s_st [_, _, _, _, _, _] ?_)
  refine aops_nil (aw_seq (aw_region (s_ls [_, _, _, _, _, _] ?_)))
  obtain ⟨x4, hx4, h⟩ := Md.bind_s h
  refine aops_step1 rfl (ev_call_v (console_Format_fn k x3 x4 hx4) rfl [] ai rfl rfl rfl (.inl rfl) rfl) (s_sa ?_)
  refine aops_nil (aw_seq (aw_region (s_mv ?_)))
  obtain ⟨x5, hx5, h⟩ := Md.bind_s h
  refine aops_step1 rfl (ev_call_v (console_Parse_fn k x4 x5 hx5) rfl [] ai rfl rfl rfl (.inl rfl) rfl) (s_mt ?_)
  iterate 3 refine s_ex ?_
  refine aops_step1 rfl (st_alloc (cs := [cI 0, .val (Sv []), .val (Sv []), .val (Sv []), .val (Sv []), cI 0]) 1 rfl rfl rfl rfl rfl) (s_st [_, _, _, _, _, _] ?_)
  iterate 2 refine s_sa ?_
  refine aops_nil (aw_seq (aw_region (s_ls [_, _, _, _, _, _] ?_)))
  obtain ⟨x6, hx6, h⟩ := Md.bind_s h
  refine aops_step1 rfl (ev_call_v (console_Valid_fn k x3 x6 hx6) rfl [] ai rfl rfl rfl (.inl rfl) rfl) (s_mv ?_)
  refine aops_mid 3 (⟨57, [], [(12, vB false), (13, .one (.ptr 0 0)), (14, .one (.val (Sv x4))), (15, .one (.ptr 1 0)), (16, vI x5.2.1), (40, vB (x6 && (x5.2.2 == 0)))], [(0, some (.box (c_ConsoleCommand x3))), (1, some (.box (c_ConsoleCommand x5.1)))]⟩ : ASt) ?_ ?_
  · rcases Md.bool_or (x6) with q7 | q7
    · skip
      refine y_mv q7 ?_
      refine y_cm q7 ?_
      refine s_py q7 ?_
      refine aops_nil ?_
      exact wq q7
    iterate 2 refine np q7 ?_
    refine s_pn q7 ?_
    refine aops_nil ?_
    exact wq q7
  refine s_mv ?_
  refine aops_mid 4 (⟨57, [], [(12, vB false), (14, .one (.val (Sv x4))), (16, vI x5.2.1), (45, vB ((x6 && (x5.2.2 == 0)) && (decide (x3 = x5.1))))], []⟩ : ASt) ?_ ?_
  · rcases Md.bool_or ((x6 && (x5.2.2 == 0))) with q8 | q8
    · skip
      refine aops_yes rfl rfl rfl rfl q8 (ev_loads (ds := [_, _, _, _, _, _]) rfl rfl rfl rfl rfl) ?_
      refine aops_yes rfl rfl rfl rfl q8 (ev_loads (ds := [_, _, _, _, _, _]) rfl rfl rfl rfl rfl) ?_
      refine aops_yes rfl rfl rfl rfl q8 (ev_agg_eq (vs := [.int .i64 x3.Kind, Sv x3.Topic, Sv x3.Actor.fType, Sv x3.Actor.Key, Sv x3.Method, .int .i64 x3.Number]) (us := [.int .i64 x5.1.Kind, Sv x5.1.Topic, Sv x5.1.Actor.fType, Sv x5.1.Actor.Key, Sv x5.1.Method, .int .i64 x5.1.Number]) (by kernel_rfl) rfl rfl (fun w => sq_ConsoleCommand x3 x5.1 w) rfl) (s_py q8 ?_)
      refine aops_nil ?_
      exact wq q8
    iterate 3 refine np q8 ?_
    refine s_pn q8 ?_
    refine aops_nil ?_
    exact wq q8
  refine s_mv ?_
  refine aops_mid 5 (⟨57, [], [(12, vB false), (14, .one (.val (Sv x4))), (51, vB (((x6 && (x5.2.2 == 0)) && (decide (x3 = x5.1))) && (x5.2.1 == ((x4.length : Nat) : Int))))], []⟩ : ASt) ?_ ?_
  · rcases Md.bool_or (((x6 && (x5.2.2 == 0)) && (decide (x3 = x5.1)))) with q9 | q9
    · skip
      iterate 2 refine y_mv q9 ?_
      refine aops_yes rfl rfl rfl rfl q9 (st_len_str rfl rfl) (y_cm q9 ?_)
      refine s_py q9 ?_
      refine aops_nil ?_
      exact wq q9
    iterate 4 refine np q9 ?_
    refine s_pn q9 ?_
    refine aops_nil ?_
    exact wq q9
  refine s_mv ?_
  refine aops_mid 4 (⟨57, [], [(12, vB false), (56, vB ((((x6 && (x5.2.2 == 0)) && (decide (x3 = x5.1))) && (x5.2.1 == ((x4.length : Nat) : Int))) && (decide (((x4.length : Nat) : Int) > 0))))], []⟩ : ASt) ?_ ?_
  · rcases Md.bool_or ((((x6 && (x5.2.2 == 0)) && (decide (x3 = x5.1))) && (x5.2.1 == ((x4.length : Nat) : Int)))) with q10 | q10
    · skip
      refine y_mv q10 ?_
      refine aops_yes rfl rfl rfl rfl q10 (st_len_str rfl rfl) (y_cm q10 ?_)
      refine s_py q10 ?_
      refine aops_nil ?_
      exact wq q10
    iterate 3 refine np q10 ?_
    refine s_pn q10 ?_
    refine aops_nil ?_
    exact wq q10
  refine s_sa ?_
  refine aops_nil ?_
  cases Option.some.inj h
  exact aw_ret ⟨rfl, rv r1⟩
end Md
end Go.Proofs.YtjpiiejdaiaocaaDoor
