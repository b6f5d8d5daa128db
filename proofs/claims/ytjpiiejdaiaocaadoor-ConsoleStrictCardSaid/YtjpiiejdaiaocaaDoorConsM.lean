/-
  ConsM: where a function's model gives a value, the function returns what reads as it (printed by wip/tools/auto.py). Condition of each: the model gives a value.
-/
import Derived.Test.YtjpiiejdaiaocaaDoorConsMM
import Derived.Test.YtjpiiejdaiaocaaDoorTy
import Derived.Test.YtjpiiejdaiaocaaDoorAbsU
import Derived.Test.YtjpiiejdaiaocaaDoorConsL
namespace Go.Proofs.YtjpiiejdaiaocaaDoor
open Go.ChangeShapes Go.WideShapes Go.RowKit
open Abs
set_option linter.unusedVariables false
set_option linter.unusedSimpArgs false
set_option maxRecDepth 10000
namespace Md
set_option maxHeartbeats 2000000 in
theorem actorgridlaw41_ConsoleParses_fn (k : Nat) (a0 : List UInt8) (a1 : UInt8) (a2 : UInt8) (a3 : UInt8) (a4 : UInt8) (a5 : List UInt8) (a6 : UInt64) (a7 : Int) (a8 : UInt8) (r : Bool) (h : actorgridlaw41_ConsoleParses k a0 a1 a2 a3 a4 a5 a6 a7 a8 = some r) : FnC Tryd.prog 7 [.one (.val (Sv a0)), .one (.val (.int .u8 (a1.toNat : Int))), .one (.val (.int .u8 (a2.toNat : Int))), .one (.val (.int .u8 (a3.toNat : Int))), .one (.val (.int .u8 (a4.toNat : Int))), .one (.val (Sv a5)), .one (.val (.int .u64 (a6.toNat : Int))), vI a7, .one (.val (.int .u8 (a8.toNat : Int)))] [] (Det (vB r) []) := by
  unfold actorgridlaw41_ConsoleParses at h
  refine fn_intro' 123 Tryd.func7 rfl rfl rfl (aw_seq (aw_region (s_sa ?_)))
  refine aops_nil (aw_seq (aw_seq (aw_region ?_)))
  obtain ⟨x1, hx1, h⟩ := Md.bind_s h
  refine aops_step1 rfl (ev_call_v (actorgridlaw41_awake_fn k x1 hx1) rfl [] ai rfl rfl rfl (.inl rfl) rfl) (s_nt ?_)
  refine aops_nil ?_
  refine aw_cond rfl (fun c2 => ?_) (fun c2 => ?_)
  · replace h := Md.cond_t h c2
    refine aw_seq (aw_region (s_sa ?_))
    refine aops_nil ?_
    cases Option.some.inj h
    exact aw_ret ⟨rfl, rv r1⟩
  replace h := Md.cond_f h c2
  refine aw_skip (aw_seq (aw_seq (aw_region (s_mv ?_))))
  refine aops_step1 rfl (st_len_str rfl rfl) (s_cm ?_)
  refine aops_nil ?_
  refine aw_cond rfl (fun c3 => ?_) (fun c3 => ?_)
  · replace h := Md.cond_t h c3
    refine aw_seq (aw_region (s_sa ?_))
    refine aops_nil ?_
    cases Option.some.inj h
    exact aw_ret ⟨rfl, rv r1⟩
  replace h := Md.cond_f h c3
  refine aw_skip (aw_seq (aw_region ?_))
  iterate 6 refine s_mv ?_
  obtain ⟨x4, hx4, h⟩ := Md.bind_s h
  refine aops_step1 rfl (ev_call_v (actorgridlaw41_command_fn k a1 a2 a3 a4 a5 a6 x4 hx4) rfl [] ai rfl rfl rfl (.inl rfl) rfl) ?_
  obtain ⟨x5, hx5, h⟩ := Md.bind_s h
  refine aops_step1 rfl (ev_call_v (console_Format_fn k x4 x5 hx5) rfl [] ai rfl rfl rfl (.inl rfl) rfl) (s_sa ?_)
  refine aops_nil (aw_seq (aw_seq (aw_region (s_mv ?_))))
  refine aops_step1 rfl (st_len_str rfl rfl) (s_cm ?_)
  refine aops_nil ?_
  refine aw_cond rfl (fun c6 => ?_) (fun c6 => ?_)
  · replace h := Md.cond_t h c6
    refine aw_seq (aw_region (s_sa ?_))
    refine aops_nil ?_
    cases Option.some.inj h
    exact aw_ret ⟨rfl, rv r1⟩
  replace h := Md.cond_f h c6
  refine aw_skip (aw_seq (aw_region (s_mv ?_)))
  refine aops_step1 rfl (st_conv_int rfl rfl Tryd.underlying3 Tryd.underlying37 (Md.ofInt_u64 a7)) (s_mv ?_)
  refine aops_step1 rfl (st_len_str rfl rfl) (aops_step1 rfl (st_conv_int rfl rfl Tryd.underlying3 Tryd.underlying37 (Md.ofNat_u64 x5.length)) ?_)
  obtain ⟨g7, h⟩ := Md.ifp_s h
  refine aops_step1 rfl (ev_rem rfl rfl rfl (Md.nz_u64 g7) (Md.rem_u64 (UInt64.ofInt a7) (UInt64.ofNat x5.length))) ?_
  refine aops_step1 rfl (st_conv_int rfl rfl Tryd.underlying37 Tryd.underlying3 (Md.wrap_W _)) (s_sa ?_)
  refine aops_nil (aw_seq ?_)
  obtain ⟨g8, h⟩ := Md.ifp_s h
  obtain ⟨g9, h⟩ := Md.ifp_s h
  obtain ⟨g10, h⟩ := Md.ifp_s h
  obtain ⟨g11, h⟩ := Md.ifp_s h
  obtain ⟨g12, h⟩ := Md.ifp_s h
  obtain ⟨g13, h⟩ := Md.ifp_s h
  obtain ⟨g14, h⟩ := Md.ifp_s h
  obtain ⟨g15, h⟩ := Md.ifp_s h
  obtain ⟨g16, h⟩ := Md.ifp_s h
  obtain ⟨g17, h⟩ := Md.ifp_s h
  obtain ⟨g18, h⟩ := Md.ifp_s h
  obtain ⟨g19, h⟩ := Md.ifp_s h
  obtain ⟨g20, h⟩ := Md.ifp_s h
  obtain ⟨g21, h⟩ := Md.ifp_s h
  obtain ⟨g22, h⟩ := Md.ifp_s h
  obtain ⟨g23, h⟩ := Md.ifp_s h
  obtain ⟨g24, h⟩ := Md.ifp_s h
  obtain ⟨g25, h⟩ := Md.ifp_s h
  obtain ⟨g26, h⟩ := Md.ifp_s h
  obtain ⟨g27, h⟩ := Md.ifp_s h
  refine aw_seq ?_
  apply aw_draw 42 ((⟨[], .one (.val (Sv a0))⟩ : Add) :: ⟨[], .one (.val (Sv x5))⟩ :: ⟨[], .one (.val (Sv x5))⟩ :: ⟨[], vI (Md.W (((UInt64.ofInt a7) % (UInt64.ofNat x5.length)).toNat : Int))⟩ :: ⟨[], .one (.val (Sv (x5.take (((Md.W (((UInt64.ofInt a7) % (UInt64.ofNat x5.length)).toNat : Int))).toNat))))⟩ :: ⟨[], .one (.val (.int .u8 (a8.toNat : Int)))⟩ :: ⟨[], .one (CV.ls byC [a8])⟩ :: ⟨[], .one (.val (Sv [a8]))⟩ :: ⟨[], .one (.val (Sv ((x5.take (((Md.W (((UInt64.ofInt a7) % (UInt64.ofNat x5.length)).toNat : Int))).toNat)) ++ [a8])))⟩ :: ⟨[], .one (.val (Sv x5))⟩ :: ⟨[], vI (Md.W (((UInt64.ofInt a7) % (UInt64.ofNat x5.length)).toNat : Int))⟩ :: ⟨[], vI (Md.W ((Md.W (((UInt64.ofInt a7) % (UInt64.ofNat x5.length)).toNat : Int)) + 1))⟩ :: ⟨[], .one (.val (Sv (x5.drop (((Md.W ((Md.W (((UInt64.ofInt a7) % (UInt64.ofNat x5.length)).toNat : Int)) + 1))).toNat))))⟩ :: ⟨[], .one (.val (Sv (((x5.take (((Md.W (((UInt64.ofInt a7) % (UInt64.ofNat x5.length)).toNat : Int))).toNat)) ++ [a8]) ++ (x5.drop (((Md.W ((Md.W (((UInt64.ofInt a7) % (UInt64.ofNat x5.length)).toNat : Int)) + 1))).toNat)))))⟩ :: ⟨[], .one (.val (Sv x5))⟩ :: ⟨[], vI (Md.W (((UInt64.ofInt a7) % (UInt64.ofNat x5.length)).toNat : Int))⟩ :: ⟨[], .one (.val (Sv (x5.take (((Md.W (((UInt64.ofInt a7) % (UInt64.ofNat x5.length)).toNat : Int))).toNat))))⟩ :: ⟨[], .one (.val (Sv x5))⟩ :: ⟨[], vI (Md.W (((UInt64.ofInt a7) % (UInt64.ofNat x5.length)).toNat : Int))⟩ :: ⟨[], .one (.val (Sv (x5.take (((Md.W (((UInt64.ofInt a7) % (UInt64.ofNat x5.length)).toNat : Int))).toNat))))⟩ :: ⟨[], .one (.val (.int .u8 (a8.toNat : Int)))⟩ :: ⟨[], .one (CV.ls byC [a8])⟩ :: ⟨[], .one (.val (Sv [a8]))⟩ :: ⟨[], .one (.val (Sv ((x5.take (((Md.W (((UInt64.ofInt a7) % (UInt64.ofNat x5.length)).toNat : Int))).toNat)) ++ [a8])))⟩ :: ⟨[], .one (.val (Sv x5))⟩ :: ⟨[], vI (Md.W (((UInt64.ofInt a7) % (UInt64.ofNat x5.length)).toNat : Int))⟩ :: ⟨[], .one (.val (Sv (x5.drop (((Md.W (((UInt64.ofInt a7) % (UInt64.ofNat x5.length)).toNat : Int))).toNat))))⟩ :: ⟨[], .one (.val (Sv (((x5.take (((Md.W (((UInt64.ofInt a7) % (UInt64.ofNat x5.length)).toNat : Int))).toNat)) ++ [a8]) ++ (x5.drop (((Md.W (((UInt64.ofInt a7) % (UInt64.ofNat x5.length)).toNat : Int))).toNat)))))⟩ :: ⟨[], .one (.val (Sv x5))⟩ :: ⟨[], vI (Md.W (((UInt64.ofInt a7) % (UInt64.ofNat x5.length)).toNat : Int))⟩ :: ⟨[], .one (.val (Sv (x5.take (((Md.W (((UInt64.ofInt a7) % (UInt64.ofNat x5.length)).toNat : Int))).toNat))))⟩ :: ⟨[], .one (.val (Sv x5))⟩ :: ⟨[], vI (Md.W (((UInt64.ofInt a7) % (UInt64.ofNat x5.length)).toNat : Int))⟩ :: ⟨[], vI (Md.W ((Md.W (((UInt64.ofInt a7) % (UInt64.ofNat x5.length)).toNat : Int)) + 1))⟩ :: ⟨[], .one (.val (Sv (x5.drop (((Md.W ((Md.W (((UInt64.ofInt a7) % (UInt64.ofNat x5.length)).toNat : Int)) + 1))).toNat))))⟩ :: ⟨[], .one (.val (Sv ((x5.take (((Md.W (((UInt64.ofInt a7) % (UInt64.ofNat x5.length)).toNat : Int))).toNat)) ++ (x5.drop (((Md.W ((Md.W (((UInt64.ofInt a7) % (UInt64.ofNat x5.length)).toNat : Int)) + 1))).toNat)))))⟩ :: ⟨[], .one (.val (Sv x5))⟩ :: ⟨[], .one (.val (Sv a0))⟩ :: ⟨[], .one (.val (Sv (x5 ++ a0)))⟩ :: ⟨[], .one (CV.ls c_Str [a0, x5, (((x5.take (((Md.W (((UInt64.ofInt a7) % (UInt64.ofNat x5.length)).toNat : Int))).toNat)) ++ [a8]) ++ (x5.drop (((Md.W ((Md.W (((UInt64.ofInt a7) % (UInt64.ofNat x5.length)).toNat : Int)) + 1))).toNat))), (x5.take (((Md.W (((UInt64.ofInt a7) % (UInt64.ofNat x5.length)).toNat : Int))).toNat)), (((x5.take (((Md.W (((UInt64.ofInt a7) % (UInt64.ofNat x5.length)).toNat : Int))).toNat)) ++ [a8]) ++ (x5.drop (((Md.W (((UInt64.ofInt a7) % (UInt64.ofNat x5.length)).toNat : Int))).toNat))), ((x5.take (((Md.W (((UInt64.ofInt a7) % (UInt64.ofNat x5.length)).toNat : Int))).toNat)) ++ (x5.drop (((Md.W ((Md.W (((UInt64.ofInt a7) % (UInt64.ofNat x5.length)).toNat : Int)) + 1))).toNat))), (x5 ++ a0)])⟩ :: ⟨[], vI (([a0, x5, (((x5.take (((Md.W (((UInt64.ofInt a7) % (UInt64.ofNat x5.length)).toNat : Int))).toNat)) ++ [a8]) ++ (x5.drop (((Md.W ((Md.W (((UInt64.ofInt a7) % (UInt64.ofNat x5.length)).toNat : Int)) + 1))).toNat))), (x5.take (((Md.W (((UInt64.ofInt a7) % (UInt64.ofNat x5.length)).toNat : Int))).toNat)), (((x5.take (((Md.W (((UInt64.ofInt a7) % (UInt64.ofNat x5.length)).toNat : Int))).toNat)) ++ [a8]) ++ (x5.drop (((Md.W (((UInt64.ofInt a7) % (UInt64.ofNat x5.length)).toNat : Int))).toNat))), ((x5.take (((Md.W (((UInt64.ofInt a7) % (UInt64.ofNat x5.length)).toNat : Int))).toNat)) ++ (x5.drop (((Md.W ((Md.W (((UInt64.ofInt a7) % (UInt64.ofNat x5.length)).toNat : Int)) + 1))).toNat))), (x5 ++ a0)].length : Nat) : Int)⟩ :: ⟨[], vI 0⟩ :: []) (by decide) rfl ?hk1x ?hf1x ?ho1x ?hr1x
  case ho1x =>
   iterate 4 refine ob [] (fun S hle hfr => .inl ⟨w0, st_move (hle.e rfl) (hle.d rfl)⟩) ?_
   refine ob [2, 3] (fun S hle hfr => .inl ⟨w0, st_cut_hi_s (hle.e rfl) ⟨_, _, (hle.e rfl), (Md.nn_eq g8)⟩ g9 (hle.d rfl)⟩) ?_
   refine ob [] (fun S hle hfr => .inl ⟨w0, st_move (hle.e rfl) (hle.d rfl)⟩) ?_
   refine ob [5] (fun S hle hfr => .inl ⟨w0, st_slice_lit_z (el := lsEl byC [a8]) (map_ev2 (.cons (hle.e rfl) (.nil))) rfl rfl rfl rfl rfl rfl (lit_el byC 1 [a8] (fun _ => rfl)) (hle.d rfl)⟩) ?_
   refine ob [6, 5] (fun S hle hfr => .inl ⟨w0, ev_str_bytes (.inl (hle.e rfl)) Tryd.underlying42 Tryd.underlying5 Tryd.underlying9 (hle.d rfl)⟩) ?_
   refine ob [4, 7, 2, 3, 6, 5] (fun S hle hfr => .inl ⟨w0, st_str_add (hle.e rfl) (hle.e rfl) (hle.d rfl) g10⟩) ?_
   refine ob [] (fun S hle hfr => .inl ⟨w0, st_move (hle.e rfl) (hle.d rfl)⟩) (ob [] (fun S hle hfr => .inl ⟨w0, st_move (hle.e rfl) (hle.d rfl)⟩) ?_)
   refine ob [10] (fun S hle hfr => .inl ⟨w0, ev_add (hle.e rfl) (hle.e rfl) (hle.d rfl) (Md.wrap_W _)⟩) ?_
   refine ob [9, 11, 10] (fun S hle hfr => .inl ⟨w0, st_cut_lo_s (hle.e rfl) ⟨_, _, (hle.e rfl), (Md.nn_eq g11)⟩ g12 (hle.d rfl)⟩) ?_
   refine ob [8, 12, 4, 7, 9, 11, 2, 3, 6, 10, 5] (fun S hle hfr => .inl ⟨w0, st_str_add (hle.e rfl) (hle.e rfl) (hle.d rfl) g13⟩) ?_
   refine ob [] (fun S hle hfr => .inl ⟨w0, st_move (hle.e rfl) (hle.d rfl)⟩) (ob [] (fun S hle hfr => .inl ⟨w0, st_move (hle.e rfl) (hle.d rfl)⟩) ?_)
   refine ob [14, 15] (fun S hle hfr => .inl ⟨w0, st_cut_hi_s (hle.e rfl) ⟨_, _, (hle.e rfl), (Md.nn_eq g14)⟩ g15 (hle.d rfl)⟩) ?_
   refine ob [] (fun S hle hfr => .inl ⟨w0, st_move (hle.e rfl) (hle.d rfl)⟩) (ob [] (fun S hle hfr => .inl ⟨w0, st_move (hle.e rfl) (hle.d rfl)⟩) ?_)
   refine ob [17, 18] (fun S hle hfr => .inl ⟨w0, st_cut_hi_s (hle.e rfl) ⟨_, _, (hle.e rfl), (Md.nn_eq g16)⟩ g17 (hle.d rfl)⟩) ?_
   refine ob [] (fun S hle hfr => .inl ⟨w0, st_move (hle.e rfl) (hle.d rfl)⟩) ?_
   refine ob [20] (fun S hle hfr => .inl ⟨w0, st_slice_lit_z (el := lsEl byC [a8]) (map_ev2 (.cons (hle.e rfl) (.nil))) rfl rfl rfl rfl rfl rfl (lit_el byC 1 [a8] (fun _ => rfl)) (hle.d rfl)⟩) ?_
   refine ob [21, 20] (fun S hle hfr => .inl ⟨w0, ev_str_bytes (.inl (hle.e rfl)) Tryd.underlying42 Tryd.underlying5 Tryd.underlying9 (hle.d rfl)⟩) ?_
   refine ob [19, 22, 17, 18, 21, 20] (fun S hle hfr => .inl ⟨w0, st_str_add (hle.e rfl) (hle.e rfl) (hle.d rfl) g18⟩) ?_
   refine ob [] (fun S hle hfr => .inl ⟨w0, st_move (hle.e rfl) (hle.d rfl)⟩) (ob [] (fun S hle hfr => .inl ⟨w0, st_move (hle.e rfl) (hle.d rfl)⟩) ?_)
   refine ob [24, 25] (fun S hle hfr => .inl ⟨w0, st_cut_lo_s (hle.e rfl) ⟨_, _, (hle.e rfl), (Md.nn_eq g19)⟩ g20 (hle.d rfl)⟩) ?_
   refine ob [23, 26, 19, 22, 24, 25, 17, 18, 21, 20] (fun S hle hfr => .inl ⟨w0, st_str_add (hle.e rfl) (hle.e rfl) (hle.d rfl) g21⟩) ?_
   refine ob [] (fun S hle hfr => .inl ⟨w0, st_move (hle.e rfl) (hle.d rfl)⟩) (ob [] (fun S hle hfr => .inl ⟨w0, st_move (hle.e rfl) (hle.d rfl)⟩) ?_)
   refine ob [28, 29] (fun S hle hfr => .inl ⟨w0, st_cut_hi_s (hle.e rfl) ⟨_, _, (hle.e rfl), (Md.nn_eq g22)⟩ g23 (hle.d rfl)⟩) ?_
   refine ob [] (fun S hle hfr => .inl ⟨w0, st_move (hle.e rfl) (hle.d rfl)⟩) (ob [] (fun S hle hfr => .inl ⟨w0, st_move (hle.e rfl) (hle.d rfl)⟩) ?_)
   refine ob [32] (fun S hle hfr => .inl ⟨w0, ev_add (hle.e rfl) (hle.e rfl) (hle.d rfl) (Md.wrap_W _)⟩) ?_
   refine ob [31, 33, 32] (fun S hle hfr => .inl ⟨w0, st_cut_lo_s (hle.e rfl) ⟨_, _, (hle.e rfl), (Md.nn_eq g24)⟩ g25 (hle.d rfl)⟩) ?_
   refine ob [30, 34, 28, 29, 31, 33, 32] (fun S hle hfr => .inl ⟨w0, st_str_add (hle.e rfl) (hle.e rfl) (hle.d rfl) g26⟩) ?_
   refine ob [] (fun S hle hfr => .inl ⟨w0, st_move (hle.e rfl) (hle.d rfl)⟩) (ob [] (fun S hle hfr => .inl ⟨w0, st_move (hle.e rfl) (hle.d rfl)⟩) ?_)
   refine ob [36, 37] (fun S hle hfr => .inl ⟨w0, st_str_add (hle.e rfl) (hle.e rfl) (hle.d rfl) g27⟩) ?_
   refine ob [0, 1, 13, 16, 27, 35, 38, 8, 12, 14, 15, 23, 26, 30, 34, 36, 37, 4, 7, 9, 11, 19, 22, 24, 25, 28, 29, 31, 33, 2, 3, 6, 10, 17, 18, 21, 32, 5, 20] (fun S hle hfr => .inl ⟨w0, st_slice_lit_z (el := lsEl c_Str [a0, x5, (((x5.take (((Md.W (((UInt64.ofInt a7) % (UInt64.ofNat x5.length)).toNat : Int))).toNat)) ++ [a8]) ++ (x5.drop (((Md.W ((Md.W (((UInt64.ofInt a7) % (UInt64.ofNat x5.length)).toNat : Int)) + 1))).toNat))), (x5.take (((Md.W (((UInt64.ofInt a7) % (UInt64.ofNat x5.length)).toNat : Int))).toNat)), (((x5.take (((Md.W (((UInt64.ofInt a7) % (UInt64.ofNat x5.length)).toNat : Int))).toNat)) ++ [a8]) ++ (x5.drop (((Md.W (((UInt64.ofInt a7) % (UInt64.ofNat x5.length)).toNat : Int))).toNat))), ((x5.take (((Md.W (((UInt64.ofInt a7) % (UInt64.ofNat x5.length)).toNat : Int))).toNat)) ++ (x5.drop (((Md.W ((Md.W (((UInt64.ofInt a7) % (UInt64.ofNat x5.length)).toNat : Int)) + 1))).toNat))), (x5 ++ a0)]) (map_ev2 (.cons (hle.e rfl) (.cons (hle.e rfl) (.cons (hle.e rfl) (.cons (hle.e rfl) (.cons (hle.e rfl) (.cons (hle.e rfl) (.cons (hle.e rfl) (.nil))))))))) rfl rfl rfl rfl rfl rfl (lit_el c_Str 1 [a0, x5, (((x5.take (((Md.W (((UInt64.ofInt a7) % (UInt64.ofNat x5.length)).toNat : Int))).toNat)) ++ [a8]) ++ (x5.drop (((Md.W ((Md.W (((UInt64.ofInt a7) % (UInt64.ofNat x5.length)).toNat : Int)) + 1))).toNat))), (x5.take (((Md.W (((UInt64.ofInt a7) % (UInt64.ofNat x5.length)).toNat : Int))).toNat)), (((x5.take (((Md.W (((UInt64.ofInt a7) % (UInt64.ofNat x5.length)).toNat : Int))).toNat)) ++ [a8]) ++ (x5.drop (((Md.W (((UInt64.ofInt a7) % (UInt64.ofNat x5.length)).toNat : Int))).toNat))), ((x5.take (((Md.W (((UInt64.ofInt a7) % (UInt64.ofNat x5.length)).toNat : Int))).toNat)) ++ (x5.drop (((Md.W ((Md.W (((UInt64.ofInt a7) % (UInt64.ofNat x5.length)).toNat : Int)) + 1))).toNat))), (x5 ++ a0)] (fun _ => rfl)) (hle.d rfl)⟩) ?_
   refine ob [39, 0, 1, 13, 16, 27, 35, 38, 8, 12, 14, 15, 23, 26, 30, 34, 36, 37, 4, 7, 9, 11, 19, 22, 24, 25, 28, 29, 31, 33, 2, 3, 6, 10, 17, 18, 21, 32, 5, 20] (fun S hle hfr => .inl ⟨w0, ev_len_slc (hle.e rfl) (hle.d rfl)⟩) ?_
   refine ob [] (fun S hle hfr => .inl ⟨w0, st_move (hle.e rfl) (hle.d rfl)⟩) ?_
   exact trivial
  case hk1x => rfl
  case hf1x => rfl
  refine aops_nil (aw_block ?_)
  obtain ⟨o28, ho28, h⟩ := Md.bind_s h
  refine aw_loop_x (ι := {p : Nat × Nat // actorgridlaw41_ConsoleParses_loop1 k a0 a7 a8 x5 p.1 p.2 = some o28}) (fun p => (⟨123, [], [(91, .one (CV.ls c_Str [a0, x5, (((x5.take (((Md.W (((UInt64.ofInt a7) % (UInt64.ofNat x5.length)).toNat : Int))).toNat)) ++ [a8]) ++ (x5.drop (((Md.W ((Md.W (((UInt64.ofInt a7) % (UInt64.ofNat x5.length)).toNat : Int)) + 1))).toNat))), (x5.take (((Md.W (((UInt64.ofInt a7) % (UInt64.ofNat x5.length)).toNat : Int))).toNat)), (((x5.take (((Md.W (((UInt64.ofInt a7) % (UInt64.ofNat x5.length)).toNat : Int))).toNat)) ++ [a8]) ++ (x5.drop (((Md.W (((UInt64.ofInt a7) % (UInt64.ofNat x5.length)).toNat : Int))).toNat))), ((x5.take (((Md.W (((UInt64.ofInt a7) % (UInt64.ofNat x5.length)).toNat : Int))).toNat)) ++ (x5.drop (((Md.W ((Md.W (((UInt64.ofInt a7) % (UInt64.ofNat x5.length)).toNat : Int)) + 1))).toNat))), (x5 ++ a0)])), (92, vI (([a0, x5, (((x5.take (((Md.W (((UInt64.ofInt a7) % (UInt64.ofNat x5.length)).toNat : Int))).toNat)) ++ [a8]) ++ (x5.drop (((Md.W ((Md.W (((UInt64.ofInt a7) % (UInt64.ofNat x5.length)).toNat : Int)) + 1))).toNat))), (x5.take (((Md.W (((UInt64.ofInt a7) % (UInt64.ofNat x5.length)).toNat : Int))).toNat)), (((x5.take (((Md.W (((UInt64.ofInt a7) % (UInt64.ofNat x5.length)).toNat : Int))).toNat)) ++ [a8]) ++ (x5.drop (((Md.W (((UInt64.ofInt a7) % (UInt64.ofNat x5.length)).toNat : Int))).toNat))), ((x5.take (((Md.W (((UInt64.ofInt a7) % (UInt64.ofNat x5.length)).toNat : Int))).toNat)) ++ (x5.drop (((Md.W ((Md.W (((UInt64.ofInt a7) % (UInt64.ofNat x5.length)).toNat : Int)) + 1))).toNat))), (x5 ++ a0)].length : Nat) : Int)), (93, vI ((p.1.2 : Nat) : Int))], []⟩ : ASt)) (fun p => p.1.1) ⟨(k, 0), ho28⟩ wk 0 (ε := Unit) (fun x => (⟨123, [], [], []⟩ : ASt)) (fun x => Sum.inl x = o28) (fun _ _ w h => aw_weak w h) ?_ ?_
  · intro x28_0 hI28
    subst hI28
    replace h := Md.onS_l h
    change AW _ _ (⟨123, [], [], []⟩ : ASt) _
    refine aw_seq (aw_region (s_sa ?_))
    refine aops_nil ?_
    cases Option.some.inj h
    exact aw_ret ⟨rfl, rv r1⟩
  intro p28
  obtain ⟨⟨n28, s28_0⟩, l28⟩ := p28
  change AW _ _ (⟨123, [], [(91, .one (CV.ls c_Str [a0, x5, (((x5.take (((Md.W (((UInt64.ofInt a7) % (UInt64.ofNat x5.length)).toNat : Int))).toNat)) ++ [a8]) ++ (x5.drop (((Md.W ((Md.W (((UInt64.ofInt a7) % (UInt64.ofNat x5.length)).toNat : Int)) + 1))).toNat))), (x5.take (((Md.W (((UInt64.ofInt a7) % (UInt64.ofNat x5.length)).toNat : Int))).toNat)), (((x5.take (((Md.W (((UInt64.ofInt a7) % (UInt64.ofNat x5.length)).toNat : Int))).toNat)) ++ [a8]) ++ (x5.drop (((Md.W (((UInt64.ofInt a7) % (UInt64.ofNat x5.length)).toNat : Int))).toNat))), ((x5.take (((Md.W (((UInt64.ofInt a7) % (UInt64.ofNat x5.length)).toNat : Int))).toNat)) ++ (x5.drop (((Md.W ((Md.W (((UInt64.ofInt a7) % (UInt64.ofNat x5.length)).toNat : Int)) + 1))).toNat))), (x5 ++ a0)])), (92, vI (([a0, x5, (((x5.take (((Md.W (((UInt64.ofInt a7) % (UInt64.ofNat x5.length)).toNat : Int))).toNat)) ++ [a8]) ++ (x5.drop (((Md.W ((Md.W (((UInt64.ofInt a7) % (UInt64.ofNat x5.length)).toNat : Int)) + 1))).toNat))), (x5.take (((Md.W (((UInt64.ofInt a7) % (UInt64.ofNat x5.length)).toNat : Int))).toNat)), (((x5.take (((Md.W (((UInt64.ofInt a7) % (UInt64.ofNat x5.length)).toNat : Int))).toNat)) ++ [a8]) ++ (x5.drop (((Md.W (((UInt64.ofInt a7) % (UInt64.ofNat x5.length)).toNat : Int))).toNat))), ((x5.take (((Md.W (((UInt64.ofInt a7) % (UInt64.ofNat x5.length)).toNat : Int))).toNat)) ++ (x5.drop (((Md.W ((Md.W (((UInt64.ofInt a7) % (UInt64.ofNat x5.length)).toNat : Int)) + 1))).toNat))), (x5 ++ a0)].length : Nat) : Int)), (93, vI ((s28_0 : Nat) : Int))], []⟩ : ASt) _
  replace l28 : actorgridlaw41_ConsoleParses_loop1 k a0 a7 a8 x5 n28 s28_0 = some o28 := l28
  rcases n28 with _ | n28
  · exact absurd (show none = some o28 from l28) nofun
  rw [actorgridlaw41_ConsoleParses_loop1] at l28
  refine aw_seq (aw_region (s_cm ?_))
  refine aops_nil (aw_seq ?_)
  refine aw_cond rfl (fun c29 => ?_) (fun c29 => ?_)
  · replace l28 := Md.cond_t l28 c29
    refine aw_skip (aw_seq (aw_block (aw_seq (aw_region ?_))))
    obtain ⟨g30, l28⟩ := Md.ifp_s l28
    refine aops_step1 rfl (ev_index_in rfl rfl rfl g30 rfl rfl) (aops_step1 rfl (ev_load_in rfl rfl rfl) (s_sa ?_))
    refine aops_nil (aw_seq (aw_region (s_mv ?_)))
    obtain ⟨x31, hx31, l28⟩ := Md.bind_s l28
    refine aops_step1 rfl (ev_call_v (console_Parse_fn k ([a0, x5, (((x5.take (((Md.W (((UInt64.ofInt a7) % (UInt64.ofNat x5.length)).toNat : Int))).toNat)) ++ [a8]) ++ (x5.drop (((Md.W ((Md.W (((UInt64.ofInt a7) % (UInt64.ofNat x5.length)).toNat : Int)) + 1))).toNat))), (x5.take (((Md.W (((UInt64.ofInt a7) % (UInt64.ofNat x5.length)).toNat : Int))).toNat)), (((x5.take (((Md.W (((UInt64.ofInt a7) % (UInt64.ofNat x5.length)).toNat : Int))).toNat)) ++ [a8]) ++ (x5.drop (((Md.W (((UInt64.ofInt a7) % (UInt64.ofNat x5.length)).toNat : Int))).toNat))), ((x5.take (((Md.W (((UInt64.ofInt a7) % (UInt64.ofNat x5.length)).toNat : Int))).toNat)) ++ (x5.drop (((Md.W ((Md.W (((UInt64.ofInt a7) % (UInt64.ofNat x5.length)).toNat : Int)) + 1))).toNat))), (x5 ++ a0)].getD s28_0 default) x31 hx31) rfl [] ai rfl rfl rfl (.inl rfl) rfl) (s_mt ?_)
    iterate 3 refine s_ex ?_
    refine aops_step1 rfl (st_alloc (cs := [cI 0, .val (Sv []), .val (Sv []), .val (Sv []), .val (Sv []), cI 0]) 0 rfl rfl rfl rfl rfl) (s_st [_, _, _, _, _, _] ?_)
    iterate 2 refine s_sa ?_
    refine aops_nil (aw_seq (aw_region (s_mv ?_)))
    obtain ⟨x32, hx32, l28⟩ := Md.bind_s l28
    refine aops_step1 rfl (ev_call_v (actorgridref41_Parse_fn k ([a0, x5, (((x5.take (((Md.W (((UInt64.ofInt a7) % (UInt64.ofNat x5.length)).toNat : Int))).toNat)) ++ [a8]) ++ (x5.drop (((Md.W ((Md.W (((UInt64.ofInt a7) % (UInt64.ofNat x5.length)).toNat : Int)) + 1))).toNat))), (x5.take (((Md.W (((UInt64.ofInt a7) % (UInt64.ofNat x5.length)).toNat : Int))).toNat)), (((x5.take (((Md.W (((UInt64.ofInt a7) % (UInt64.ofNat x5.length)).toNat : Int))).toNat)) ++ [a8]) ++ (x5.drop (((Md.W (((UInt64.ofInt a7) % (UInt64.ofNat x5.length)).toNat : Int))).toNat))), ((x5.take (((Md.W (((UInt64.ofInt a7) % (UInt64.ofNat x5.length)).toNat : Int))).toNat)) ++ (x5.drop (((Md.W ((Md.W (((UInt64.ofInt a7) % (UInt64.ofNat x5.length)).toNat : Int)) + 1))).toNat))), (x5 ++ a0)].getD s28_0 default) x32 hx32) rfl [] ai rfl rfl rfl (.inl rfl) rfl) (s_mt ?_)
    iterate 3 refine s_ex ?_
    refine aops_step1 rfl (st_alloc (cs := [cI 0, .val (Sv []), .val (Sv []), .val (Sv []), .val (Sv []), cI 0]) 1 rfl rfl rfl rfl rfl) (s_st [_, _, _, _, _, _] ?_)
    iterate 2 refine s_sa ?_
    refine aops_nil (aw_seq (aw_region ?_))
    iterate 2 refine s_ls [_, _, _, _, _, _] ?_
    refine aops_step1 rfl (ev_agg_ne (vs := [.int .i64 x31.1.Kind, Sv x31.1.Topic, Sv x31.1.Actor.fType, Sv x31.1.Actor.Key, Sv x31.1.Method, .int .i64 x31.1.Number]) (us := [.int .i64 x32.1.Kind, Sv x32.1.Topic, Sv x32.1.Actor.fType, Sv x32.1.Actor.Key, Sv x32.1.Method, .int .i64 x32.1.Number]) (by kernel_rfl) rfl rfl (fun w => sq_ConsoleCommand x31.1 x32.1 w) rfl) (s_mv ?_)
    refine aops_mid 4 (⟨123, [], [(25, vI x31.2.2), (28, vI x32.2.2), (91, .one (CV.ls c_Str [a0, x5, (((x5.take (((Md.W (((UInt64.ofInt a7) % (UInt64.ofNat x5.length)).toNat : Int))).toNat)) ++ [a8]) ++ (x5.drop (((Md.W ((Md.W (((UInt64.ofInt a7) % (UInt64.ofNat x5.length)).toNat : Int)) + 1))).toNat))), (x5.take (((Md.W (((UInt64.ofInt a7) % (UInt64.ofNat x5.length)).toNat : Int))).toNat)), (((x5.take (((Md.W (((UInt64.ofInt a7) % (UInt64.ofNat x5.length)).toNat : Int))).toNat)) ++ [a8]) ++ (x5.drop (((Md.W (((UInt64.ofInt a7) % (UInt64.ofNat x5.length)).toNat : Int))).toNat))), ((x5.take (((Md.W (((UInt64.ofInt a7) % (UInt64.ofNat x5.length)).toNat : Int))).toNat)) ++ (x5.drop (((Md.W ((Md.W (((UInt64.ofInt a7) % (UInt64.ofNat x5.length)).toNat : Int)) + 1))).toNat))), (x5 ++ a0)])), (92, vI (([a0, x5, (((x5.take (((Md.W (((UInt64.ofInt a7) % (UInt64.ofNat x5.length)).toNat : Int))).toNat)) ++ [a8]) ++ (x5.drop (((Md.W ((Md.W (((UInt64.ofInt a7) % (UInt64.ofNat x5.length)).toNat : Int)) + 1))).toNat))), (x5.take (((Md.W (((UInt64.ofInt a7) % (UInt64.ofNat x5.length)).toNat : Int))).toNat)), (((x5.take (((Md.W (((UInt64.ofInt a7) % (UInt64.ofNat x5.length)).toNat : Int))).toNat)) ++ [a8]) ++ (x5.drop (((Md.W (((UInt64.ofInt a7) % (UInt64.ofNat x5.length)).toNat : Int))).toNat))), ((x5.take (((Md.W (((UInt64.ofInt a7) % (UInt64.ofNat x5.length)).toNat : Int))).toNat)) ++ (x5.drop (((Md.W ((Md.W (((UInt64.ofInt a7) % (UInt64.ofNat x5.length)).toNat : Int)) + 1))).toNat))), (x5 ++ a0)].length : Nat) : Int)), (93, vI ((s28_0 : Nat) : Int)), (116, vB ((!(decide (x31.1 = x32.1))) || (x31.2.1 != x32.2.1)))], []⟩ : ASt) ?_ ?_
    · rcases Md.bool_or ((!(decide (x31.1 = x32.1)))) with q33 | q33
      · skip
        iterate 3 refine np q33 ?_
        refine s_py q33 ?_
        refine aops_nil ?_
        exact wq q33
      iterate 2 refine y_mv q33 ?_
      refine y_cm q33 ?_
      refine s_pn q33 ?_
      refine aops_nil ?_
      exact wq q33
    refine s_mv ?_
    refine aops_mid 4 (⟨123, [], [(91, .one (CV.ls c_Str [a0, x5, (((x5.take (((Md.W (((UInt64.ofInt a7) % (UInt64.ofNat x5.length)).toNat : Int))).toNat)) ++ [a8]) ++ (x5.drop (((Md.W ((Md.W (((UInt64.ofInt a7) % (UInt64.ofNat x5.length)).toNat : Int)) + 1))).toNat))), (x5.take (((Md.W (((UInt64.ofInt a7) % (UInt64.ofNat x5.length)).toNat : Int))).toNat)), (((x5.take (((Md.W (((UInt64.ofInt a7) % (UInt64.ofNat x5.length)).toNat : Int))).toNat)) ++ [a8]) ++ (x5.drop (((Md.W (((UInt64.ofInt a7) % (UInt64.ofNat x5.length)).toNat : Int))).toNat))), ((x5.take (((Md.W (((UInt64.ofInt a7) % (UInt64.ofNat x5.length)).toNat : Int))).toNat)) ++ (x5.drop (((Md.W ((Md.W (((UInt64.ofInt a7) % (UInt64.ofNat x5.length)).toNat : Int)) + 1))).toNat))), (x5 ++ a0)])), (92, vI (([a0, x5, (((x5.take (((Md.W (((UInt64.ofInt a7) % (UInt64.ofNat x5.length)).toNat : Int))).toNat)) ++ [a8]) ++ (x5.drop (((Md.W ((Md.W (((UInt64.ofInt a7) % (UInt64.ofNat x5.length)).toNat : Int)) + 1))).toNat))), (x5.take (((Md.W (((UInt64.ofInt a7) % (UInt64.ofNat x5.length)).toNat : Int))).toNat)), (((x5.take (((Md.W (((UInt64.ofInt a7) % (UInt64.ofNat x5.length)).toNat : Int))).toNat)) ++ [a8]) ++ (x5.drop (((Md.W (((UInt64.ofInt a7) % (UInt64.ofNat x5.length)).toNat : Int))).toNat))), ((x5.take (((Md.W (((UInt64.ofInt a7) % (UInt64.ofNat x5.length)).toNat : Int))).toNat)) ++ (x5.drop (((Md.W ((Md.W (((UInt64.ofInt a7) % (UInt64.ofNat x5.length)).toNat : Int)) + 1))).toNat))), (x5 ++ a0)].length : Nat) : Int)), (93, vI ((s28_0 : Nat) : Int)), (121, vB (((!(decide (x31.1 = x32.1))) || (x31.2.1 != x32.2.1)) || (x31.2.2 != x32.2.2)))], []⟩ : ASt) ?_ ?_
    · rcases Md.bool_or (((!(decide (x31.1 = x32.1))) || (x31.2.1 != x32.2.1))) with q34 | q34
      · skip
        iterate 3 refine np q34 ?_
        refine s_py q34 ?_
        refine aops_nil ?_
        exact wq q34
      iterate 2 refine y_mv q34 ?_
      refine y_cm q34 ?_
      refine s_pn q34 ?_
      refine aops_nil ?_
      exact wq q34
    refine aops_nil ?_
    refine aw_cond rfl (fun c35 => ?_) (fun c35 => ?_)
    · replace l28 := Md.cond_t l28 c35
      refine aw_seq (aw_region (s_sa ?_))
      refine aops_nil ?_
      cases Option.some.inj l28
      replace h := Md.onS_r h
      cases Option.some.inj h
      exact aw_ret ⟨rfl, rv r1⟩
    replace l28 := Md.cond_f l28 c35
    refine aw_skip (aw_region ?_)
    obtain ⟨g36, l28⟩ := Md.ifp_s l28
    refine aops_step1 rfl (ev_add rfl rfl rfl (Md.nat_add g36)) (s_mv ?_)
    refine aops_nil ?_
    exact ⟨⟨(n28, (s28_0 + 1)), l28⟩, Nat.lt_succ_self _, wk⟩
  replace l28 := Md.cond_f l28 c29
  refine aw_exit ?_
  show ∃ _x : Unit, _ = _ ∧ Weak _ _
  exact ⟨(), Option.some.inj l28, wk⟩
set_option maxHeartbeats 2000000 in
theorem actorgridlaw41_ConsoleStrict_fn (k : Nat) (a0 : List UInt8) (a1 : UInt8) (a2 : UInt8) (a3 : UInt8) (a4 : UInt8) (a5 : List UInt8) (a6 : UInt64) (a7 : Int) (a8 : UInt8) (r : Bool) (h : actorgridlaw41_ConsoleStrict k a0 a1 a2 a3 a4 a5 a6 a7 a8 = some r) : FnC Tryd.prog 8 [.one (.val (Sv a0)), .one (.val (.int .u8 (a1.toNat : Int))), .one (.val (.int .u8 (a2.toNat : Int))), .one (.val (.int .u8 (a3.toNat : Int))), .one (.val (.int .u8 (a4.toNat : Int))), .one (.val (Sv a5)), .one (.val (.int .u64 (a6.toNat : Int))), vI a7, .one (.val (.int .u8 (a8.toNat : Int)))] [] (Det (vB r) []) := by
  unfold actorgridlaw41_ConsoleStrict at h
  refine fn_intro' 124 Tryd.func8 rfl rfl rfl (aw_seq (aw_region (s_sa ?_)))
  refine aops_nil (aw_seq (aw_seq (aw_region ?_)))
  obtain ⟨x1, hx1, h⟩ := Md.bind_s h
  refine aops_step1 rfl (ev_call_v (actorgridlaw41_awake_fn k x1 hx1) rfl [] ai rfl rfl rfl (.inl rfl) rfl) (s_nt ?_)
  refine aops_nil ?_
  refine aw_cond rfl (fun c2 => ?_) (fun c2 => ?_)
  · replace h := Md.cond_t h c2
    refine aw_seq (aw_region (s_sa ?_))
    refine aops_nil ?_
    cases Option.some.inj h
    exact aw_ret ⟨rfl, rv r1⟩
  replace h := Md.cond_f h c2
  refine aw_skip (aw_seq (aw_seq (aw_region (s_mv ?_))))
  refine aops_step1 rfl (st_len_str rfl rfl) (s_cm ?_)
  refine aops_nil ?_
  refine aw_cond rfl (fun c3 => ?_) (fun c3 => ?_)
  · replace h := Md.cond_t h c3
    refine aw_seq (aw_region (s_sa ?_))
    refine aops_nil ?_
    cases Option.some.inj h
    exact aw_ret ⟨rfl, rv r1⟩
  replace h := Md.cond_f h c3
  refine aw_skip (aw_seq (aw_region ?_))
  iterate 6 refine s_mv ?_
  obtain ⟨x4, hx4, h⟩ := Md.bind_s h
  refine aops_step1 rfl (ev_call_v (actorgridlaw41_command_fn k a1 a2 a3 a4 a5 a6 x4 hx4) rfl [] ai rfl rfl rfl (.inl rfl) rfl) ?_
  obtain ⟨x5, hx5, h⟩ := Md.bind_s h
  refine aops_step1 rfl (ev_call_v (console_Format_fn k x4 x5 hx5) rfl [] ai rfl rfl rfl (.inl rfl) rfl) (s_sa ?_)
  refine aops_nil (aw_seq (aw_seq (aw_region (s_mv ?_))))
  refine aops_step1 rfl (st_len_str rfl rfl) (s_cm ?_)
  refine aops_nil ?_
  refine aw_cond rfl (fun c6 => ?_) (fun c6 => ?_)
  · replace h := Md.cond_t h c6
    refine aw_seq (aw_region (s_sa ?_))
    refine aops_nil ?_
    cases Option.some.inj h
    exact aw_ret ⟨rfl, rv r1⟩
  replace h := Md.cond_f h c6
  refine aw_skip (aw_seq (aw_region (s_mv ?_)))
  refine aops_step1 rfl (st_conv_int rfl rfl Tryd.underlying3 Tryd.underlying37 (Md.ofInt_u64 a7)) (s_mv ?_)
  refine aops_step1 rfl (st_len_str rfl rfl) (aops_step1 rfl (st_conv_int rfl rfl Tryd.underlying3 Tryd.underlying37 (Md.ofNat_u64 x5.length)) ?_)
  obtain ⟨g7, h⟩ := Md.ifp_s h
  refine aops_step1 rfl (ev_rem rfl rfl rfl (Md.nz_u64 g7) (Md.rem_u64 (UInt64.ofInt a7) (UInt64.ofNat x5.length))) ?_
  refine aops_step1 rfl (st_conv_int rfl rfl Tryd.underlying37 Tryd.underlying3 (Md.wrap_W _)) (s_sa ?_)
  refine aops_nil (aw_seq ?_)
  obtain ⟨g8, h⟩ := Md.ifp_s h
  obtain ⟨g9, h⟩ := Md.ifp_s h
  obtain ⟨g10, h⟩ := Md.ifp_s h
  obtain ⟨g11, h⟩ := Md.ifp_s h
  obtain ⟨g12, h⟩ := Md.ifp_s h
  obtain ⟨g13, h⟩ := Md.ifp_s h
  obtain ⟨g14, h⟩ := Md.ifp_s h
  obtain ⟨g15, h⟩ := Md.ifp_s h
  obtain ⟨g16, h⟩ := Md.ifp_s h
  obtain ⟨g17, h⟩ := Md.ifp_s h
  obtain ⟨g18, h⟩ := Md.ifp_s h
  obtain ⟨g19, h⟩ := Md.ifp_s h
  refine aw_seq ?_
  apply aw_draw 27 ((⟨[], .one (.val (Sv a0))⟩ : Add) :: ⟨[], .one (.val (Sv x5))⟩ :: ⟨[], vI (Md.W (((UInt64.ofInt a7) % (UInt64.ofNat x5.length)).toNat : Int))⟩ :: ⟨[], .one (.val (Sv (x5.take (((Md.W (((UInt64.ofInt a7) % (UInt64.ofNat x5.length)).toNat : Int))).toNat))))⟩ :: ⟨[], .one (.val (.int .u8 (a8.toNat : Int)))⟩ :: ⟨[], .one (CV.ls byC [a8])⟩ :: ⟨[], .one (.val (Sv [a8]))⟩ :: ⟨[], .one (.val (Sv ((x5.take (((Md.W (((UInt64.ofInt a7) % (UInt64.ofNat x5.length)).toNat : Int))).toNat)) ++ [a8])))⟩ :: ⟨[], .one (.val (Sv x5))⟩ :: ⟨[], vI (Md.W (((UInt64.ofInt a7) % (UInt64.ofNat x5.length)).toNat : Int))⟩ :: ⟨[], vI (Md.W ((Md.W (((UInt64.ofInt a7) % (UInt64.ofNat x5.length)).toNat : Int)) + 1))⟩ :: ⟨[], .one (.val (Sv (x5.drop (((Md.W ((Md.W (((UInt64.ofInt a7) % (UInt64.ofNat x5.length)).toNat : Int)) + 1))).toNat))))⟩ :: ⟨[], .one (.val (Sv (((x5.take (((Md.W (((UInt64.ofInt a7) % (UInt64.ofNat x5.length)).toNat : Int))).toNat)) ++ [a8]) ++ (x5.drop (((Md.W ((Md.W (((UInt64.ofInt a7) % (UInt64.ofNat x5.length)).toNat : Int)) + 1))).toNat)))))⟩ :: ⟨[], .one (.val (Sv x5))⟩ :: ⟨[], vI (Md.W (((UInt64.ofInt a7) % (UInt64.ofNat x5.length)).toNat : Int))⟩ :: ⟨[], .one (.val (Sv (x5.take (((Md.W (((UInt64.ofInt a7) % (UInt64.ofNat x5.length)).toNat : Int))).toNat))))⟩ :: ⟨[], .one (.val (Sv x5))⟩ :: ⟨[], vI (Md.W (((UInt64.ofInt a7) % (UInt64.ofNat x5.length)).toNat : Int))⟩ :: ⟨[], vI (Md.W ((Md.W (((UInt64.ofInt a7) % (UInt64.ofNat x5.length)).toNat : Int)) + 1))⟩ :: ⟨[], .one (.val (Sv (x5.drop (((Md.W ((Md.W (((UInt64.ofInt a7) % (UInt64.ofNat x5.length)).toNat : Int)) + 1))).toNat))))⟩ :: ⟨[], .one (.val (Sv ((x5.take (((Md.W (((UInt64.ofInt a7) % (UInt64.ofNat x5.length)).toNat : Int))).toNat)) ++ (x5.drop (((Md.W ((Md.W (((UInt64.ofInt a7) % (UInt64.ofNat x5.length)).toNat : Int)) + 1))).toNat)))))⟩ :: ⟨[], .one (.val (Sv x5))⟩ :: ⟨[], .one (.val (Sv a0))⟩ :: ⟨[], .one (.val (Sv (x5 ++ a0)))⟩ :: ⟨[], .one (CV.ls c_Str [a0, (((x5.take (((Md.W (((UInt64.ofInt a7) % (UInt64.ofNat x5.length)).toNat : Int))).toNat)) ++ [a8]) ++ (x5.drop (((Md.W ((Md.W (((UInt64.ofInt a7) % (UInt64.ofNat x5.length)).toNat : Int)) + 1))).toNat))), ((x5.take (((Md.W (((UInt64.ofInt a7) % (UInt64.ofNat x5.length)).toNat : Int))).toNat)) ++ (x5.drop (((Md.W ((Md.W (((UInt64.ofInt a7) % (UInt64.ofNat x5.length)).toNat : Int)) + 1))).toNat))), (x5 ++ a0)])⟩ :: ⟨[], vI (([a0, (((x5.take (((Md.W (((UInt64.ofInt a7) % (UInt64.ofNat x5.length)).toNat : Int))).toNat)) ++ [a8]) ++ (x5.drop (((Md.W ((Md.W (((UInt64.ofInt a7) % (UInt64.ofNat x5.length)).toNat : Int)) + 1))).toNat))), ((x5.take (((Md.W (((UInt64.ofInt a7) % (UInt64.ofNat x5.length)).toNat : Int))).toNat)) ++ (x5.drop (((Md.W ((Md.W (((UInt64.ofInt a7) % (UInt64.ofNat x5.length)).toNat : Int)) + 1))).toNat))), (x5 ++ a0)].length : Nat) : Int)⟩ :: ⟨[], vI 0⟩ :: []) (by decide) rfl ?hk1x ?hf1x ?ho1x ?hr1x
  case ho1x =>
   iterate 3 refine ob [] (fun S hle hfr => .inl ⟨w0, st_move (hle.e rfl) (hle.d rfl)⟩) ?_
   refine ob [1, 2] (fun S hle hfr => .inl ⟨w0, st_cut_hi_s (hle.e rfl) ⟨_, _, (hle.e rfl), (Md.nn_eq g8)⟩ g9 (hle.d rfl)⟩) ?_
   refine ob [] (fun S hle hfr => .inl ⟨w0, st_move (hle.e rfl) (hle.d rfl)⟩) ?_
   refine ob [4] (fun S hle hfr => .inl ⟨w0, st_slice_lit_z (el := lsEl byC [a8]) (map_ev2 (.cons (hle.e rfl) (.nil))) rfl rfl rfl rfl rfl rfl (lit_el byC 1 [a8] (fun _ => rfl)) (hle.d rfl)⟩) ?_
   refine ob [5, 4] (fun S hle hfr => .inl ⟨w0, ev_str_bytes (.inl (hle.e rfl)) Tryd.underlying42 Tryd.underlying5 Tryd.underlying9 (hle.d rfl)⟩) ?_
   refine ob [3, 6, 1, 2, 5, 4] (fun S hle hfr => .inl ⟨w0, st_str_add (hle.e rfl) (hle.e rfl) (hle.d rfl) g10⟩) ?_
   refine ob [] (fun S hle hfr => .inl ⟨w0, st_move (hle.e rfl) (hle.d rfl)⟩) (ob [] (fun S hle hfr => .inl ⟨w0, st_move (hle.e rfl) (hle.d rfl)⟩) ?_)
   refine ob [9] (fun S hle hfr => .inl ⟨w0, ev_add (hle.e rfl) (hle.e rfl) (hle.d rfl) (Md.wrap_W _)⟩) ?_
   refine ob [8, 10, 9] (fun S hle hfr => .inl ⟨w0, st_cut_lo_s (hle.e rfl) ⟨_, _, (hle.e rfl), (Md.nn_eq g11)⟩ g12 (hle.d rfl)⟩) ?_
   refine ob [7, 11, 3, 6, 8, 10, 1, 2, 5, 9, 4] (fun S hle hfr => .inl ⟨w0, st_str_add (hle.e rfl) (hle.e rfl) (hle.d rfl) g13⟩) ?_
   refine ob [] (fun S hle hfr => .inl ⟨w0, st_move (hle.e rfl) (hle.d rfl)⟩) (ob [] (fun S hle hfr => .inl ⟨w0, st_move (hle.e rfl) (hle.d rfl)⟩) ?_)
   refine ob [13, 14] (fun S hle hfr => .inl ⟨w0, st_cut_hi_s (hle.e rfl) ⟨_, _, (hle.e rfl), (Md.nn_eq g14)⟩ g15 (hle.d rfl)⟩) ?_
   refine ob [] (fun S hle hfr => .inl ⟨w0, st_move (hle.e rfl) (hle.d rfl)⟩) (ob [] (fun S hle hfr => .inl ⟨w0, st_move (hle.e rfl) (hle.d rfl)⟩) ?_)
   refine ob [17] (fun S hle hfr => .inl ⟨w0, ev_add (hle.e rfl) (hle.e rfl) (hle.d rfl) (Md.wrap_W _)⟩) ?_
   refine ob [16, 18, 17] (fun S hle hfr => .inl ⟨w0, st_cut_lo_s (hle.e rfl) ⟨_, _, (hle.e rfl), (Md.nn_eq g16)⟩ g17 (hle.d rfl)⟩) ?_
   refine ob [15, 19, 13, 14, 16, 18, 17] (fun S hle hfr => .inl ⟨w0, st_str_add (hle.e rfl) (hle.e rfl) (hle.d rfl) g18⟩) ?_
   refine ob [] (fun S hle hfr => .inl ⟨w0, st_move (hle.e rfl) (hle.d rfl)⟩) (ob [] (fun S hle hfr => .inl ⟨w0, st_move (hle.e rfl) (hle.d rfl)⟩) ?_)
   refine ob [21, 22] (fun S hle hfr => .inl ⟨w0, st_str_add (hle.e rfl) (hle.e rfl) (hle.d rfl) g19⟩) ?_
   refine ob [0, 12, 20, 23, 7, 11, 15, 19, 21, 22, 3, 6, 8, 10, 13, 14, 16, 18, 1, 2, 5, 9, 17, 4] (fun S hle hfr => .inl ⟨w0, st_slice_lit_z (el := lsEl c_Str [a0, (((x5.take (((Md.W (((UInt64.ofInt a7) % (UInt64.ofNat x5.length)).toNat : Int))).toNat)) ++ [a8]) ++ (x5.drop (((Md.W ((Md.W (((UInt64.ofInt a7) % (UInt64.ofNat x5.length)).toNat : Int)) + 1))).toNat))), ((x5.take (((Md.W (((UInt64.ofInt a7) % (UInt64.ofNat x5.length)).toNat : Int))).toNat)) ++ (x5.drop (((Md.W ((Md.W (((UInt64.ofInt a7) % (UInt64.ofNat x5.length)).toNat : Int)) + 1))).toNat))), (x5 ++ a0)]) (map_ev2 (.cons (hle.e rfl) (.cons (hle.e rfl) (.cons (hle.e rfl) (.cons (hle.e rfl) (.nil)))))) rfl rfl rfl rfl rfl rfl (lit_el c_Str 1 [a0, (((x5.take (((Md.W (((UInt64.ofInt a7) % (UInt64.ofNat x5.length)).toNat : Int))).toNat)) ++ [a8]) ++ (x5.drop (((Md.W ((Md.W (((UInt64.ofInt a7) % (UInt64.ofNat x5.length)).toNat : Int)) + 1))).toNat))), ((x5.take (((Md.W (((UInt64.ofInt a7) % (UInt64.ofNat x5.length)).toNat : Int))).toNat)) ++ (x5.drop (((Md.W ((Md.W (((UInt64.ofInt a7) % (UInt64.ofNat x5.length)).toNat : Int)) + 1))).toNat))), (x5 ++ a0)] (fun _ => rfl)) (hle.d rfl)⟩) ?_
   refine ob [24, 0, 12, 20, 23, 7, 11, 15, 19, 21, 22, 3, 6, 8, 10, 13, 14, 16, 18, 1, 2, 5, 9, 17, 4] (fun S hle hfr => .inl ⟨w0, ev_len_slc (hle.e rfl) (hle.d rfl)⟩) ?_
   refine ob [] (fun S hle hfr => .inl ⟨w0, st_move (hle.e rfl) (hle.d rfl)⟩) ?_
   exact trivial
  case hk1x => rfl
  case hf1x => rfl
  refine aops_nil (aw_block ?_)
  obtain ⟨o20, ho20, h⟩ := Md.bind_s h
  refine aw_loop_x (ι := {p : Nat × Nat // actorgridlaw41_ConsoleStrict_loop1 k a0 a7 a8 x5 p.1 p.2 = some o20}) (fun p => (⟨124, [], [(73, .one (CV.ls c_Str [a0, (((x5.take (((Md.W (((UInt64.ofInt a7) % (UInt64.ofNat x5.length)).toNat : Int))).toNat)) ++ [a8]) ++ (x5.drop (((Md.W ((Md.W (((UInt64.ofInt a7) % (UInt64.ofNat x5.length)).toNat : Int)) + 1))).toNat))), ((x5.take (((Md.W (((UInt64.ofInt a7) % (UInt64.ofNat x5.length)).toNat : Int))).toNat)) ++ (x5.drop (((Md.W ((Md.W (((UInt64.ofInt a7) % (UInt64.ofNat x5.length)).toNat : Int)) + 1))).toNat))), (x5 ++ a0)])), (74, vI (([a0, (((x5.take (((Md.W (((UInt64.ofInt a7) % (UInt64.ofNat x5.length)).toNat : Int))).toNat)) ++ [a8]) ++ (x5.drop (((Md.W ((Md.W (((UInt64.ofInt a7) % (UInt64.ofNat x5.length)).toNat : Int)) + 1))).toNat))), ((x5.take (((Md.W (((UInt64.ofInt a7) % (UInt64.ofNat x5.length)).toNat : Int))).toNat)) ++ (x5.drop (((Md.W ((Md.W (((UInt64.ofInt a7) % (UInt64.ofNat x5.length)).toNat : Int)) + 1))).toNat))), (x5 ++ a0)].length : Nat) : Int)), (75, vI ((p.1.2 : Nat) : Int))], []⟩ : ASt)) (fun p => p.1.1) ⟨(k, 0), ho20⟩ wk 0 (ε := Unit) (fun x => (⟨124, [], [], []⟩ : ASt)) (fun x => Sum.inl x = o20) (fun _ _ w h => aw_weak w h) ?_ ?_
  · intro x20_0 hI20
    subst hI20
    replace h := Md.onS_l h
    change AW _ _ (⟨124, [], [], []⟩ : ASt) _
    refine aw_seq (aw_region (s_sa ?_))
    refine aops_nil ?_
    cases Option.some.inj h
    exact aw_ret ⟨rfl, rv r1⟩
  intro p20
  obtain ⟨⟨n20, s20_0⟩, l20⟩ := p20
  change AW _ _ (⟨124, [], [(73, .one (CV.ls c_Str [a0, (((x5.take (((Md.W (((UInt64.ofInt a7) % (UInt64.ofNat x5.length)).toNat : Int))).toNat)) ++ [a8]) ++ (x5.drop (((Md.W ((Md.W (((UInt64.ofInt a7) % (UInt64.ofNat x5.length)).toNat : Int)) + 1))).toNat))), ((x5.take (((Md.W (((UInt64.ofInt a7) % (UInt64.ofNat x5.length)).toNat : Int))).toNat)) ++ (x5.drop (((Md.W ((Md.W (((UInt64.ofInt a7) % (UInt64.ofNat x5.length)).toNat : Int)) + 1))).toNat))), (x5 ++ a0)])), (74, vI (([a0, (((x5.take (((Md.W (((UInt64.ofInt a7) % (UInt64.ofNat x5.length)).toNat : Int))).toNat)) ++ [a8]) ++ (x5.drop (((Md.W ((Md.W (((UInt64.ofInt a7) % (UInt64.ofNat x5.length)).toNat : Int)) + 1))).toNat))), ((x5.take (((Md.W (((UInt64.ofInt a7) % (UInt64.ofNat x5.length)).toNat : Int))).toNat)) ++ (x5.drop (((Md.W ((Md.W (((UInt64.ofInt a7) % (UInt64.ofNat x5.length)).toNat : Int)) + 1))).toNat))), (x5 ++ a0)].length : Nat) : Int)), (75, vI ((s20_0 : Nat) : Int))], []⟩ : ASt) _
  replace l20 : actorgridlaw41_ConsoleStrict_loop1 k a0 a7 a8 x5 n20 s20_0 = some o20 := l20
  rcases n20 with _ | n20
  · exact absurd (show none = some o20 from l20) nofun
  rw [actorgridlaw41_ConsoleStrict_loop1] at l20
  refine aw_seq (aw_region (s_cm ?_))
  refine aops_nil (aw_seq ?_)
  refine aw_cond rfl (fun c21 => ?_) (fun c21 => ?_)
  · replace l20 := Md.cond_t l20 c21
    refine aw_skip (aw_seq (aw_block (aw_seq (aw_region ?_))))
    obtain ⟨g22, l20⟩ := Md.ifp_s l20
    refine aops_step1 rfl (ev_index_in rfl rfl rfl g22 rfl rfl) (aops_step1 rfl (ev_load_in rfl rfl rfl) (s_sa ?_))
    refine aops_nil (aw_seq (aw_region (s_mv ?_)))
    obtain ⟨x23, hx23, l20⟩ := Md.bind_s l20
    refine aops_step1 rfl (ev_call_v (console_Parse_fn k ([a0, (((x5.take (((Md.W (((UInt64.ofInt a7) % (UInt64.ofNat x5.length)).toNat : Int))).toNat)) ++ [a8]) ++ (x5.drop (((Md.W ((Md.W (((UInt64.ofInt a7) % (UInt64.ofNat x5.length)).toNat : Int)) + 1))).toNat))), ((x5.take (((Md.W (((UInt64.ofInt a7) % (UInt64.ofNat x5.length)).toNat : Int))).toNat)) ++ (x5.drop (((Md.W ((Md.W (((UInt64.ofInt a7) % (UInt64.ofNat x5.length)).toNat : Int)) + 1))).toNat))), (x5 ++ a0)].getD s20_0 default) x23 hx23) rfl [] ai rfl rfl rfl (.inl rfl) rfl) (s_mt ?_)
    iterate 3 refine s_ex ?_
    refine aops_step1 rfl (st_alloc (cs := [cI 0, .val (Sv []), .val (Sv []), .val (Sv []), .val (Sv []), cI 0]) 0 rfl rfl rfl rfl rfl) (s_st [_, _, _, _, _, _] ?_)
    iterate 2 refine s_sa ?_
    refine aops_nil (aw_seq (aw_region (s_mv ?_)))
    refine s_cm ?_
    refine s_mv ?_
    obtain ⟨o24, j24, l20⟩ := Md.bind_s l20
    refine aops_cut 16 (ε := Bool) (fun x24 => (⟨124, [], [(22, .one (.val (Sv ([a0, (((x5.take (((Md.W (((UInt64.ofInt a7) % (UInt64.ofNat x5.length)).toNat : Int))).toNat)) ++ [a8]) ++ (x5.drop (((Md.W ((Md.W (((UInt64.ofInt a7) % (UInt64.ofNat x5.length)).toNat : Int)) + 1))).toNat))), ((x5.take (((Md.W (((UInt64.ofInt a7) % (UInt64.ofNat x5.length)).toNat : Int))).toNat)) ++ (x5.drop (((Md.W ((Md.W (((UInt64.ofInt a7) % (UInt64.ofNat x5.length)).toNat : Int)) + 1))).toNat))), (x5 ++ a0)].getD s20_0 default)))), (23, .one (.ptr 0 0)), (24, vI x23.2.1), (25, vI x23.2.2), (73, .one (CV.ls c_Str [a0, (((x5.take (((Md.W (((UInt64.ofInt a7) % (UInt64.ofNat x5.length)).toNat : Int))).toNat)) ++ [a8]) ++ (x5.drop (((Md.W ((Md.W (((UInt64.ofInt a7) % (UInt64.ofNat x5.length)).toNat : Int)) + 1))).toNat))), ((x5.take (((Md.W (((UInt64.ofInt a7) % (UInt64.ofNat x5.length)).toNat : Int))).toNat)) ++ (x5.drop (((Md.W ((Md.W (((UInt64.ofInt a7) % (UInt64.ofNat x5.length)).toNat : Int)) + 1))).toNat))), (x5 ++ a0)])), (74, vI (([a0, (((x5.take (((Md.W (((UInt64.ofInt a7) % (UInt64.ofNat x5.length)).toNat : Int))).toNat)) ++ [a8]) ++ (x5.drop (((Md.W ((Md.W (((UInt64.ofInt a7) % (UInt64.ofNat x5.length)).toNat : Int)) + 1))).toNat))), ((x5.take (((Md.W (((UInt64.ofInt a7) % (UInt64.ofNat x5.length)).toNat : Int))).toNat)) ++ (x5.drop (((Md.W ((Md.W (((UInt64.ofInt a7) % (UInt64.ofNat x5.length)).toNat : Int)) + 1))).toNat))), (x5 ++ a0)].length : Nat) : Int)), (75, vI ((s20_0 : Nat) : Int)), (103, vB x24)], [(0, some (.box (c_ConsoleCommand x23.1)))]⟩ : ASt)) (fun x24 => x24 = o24) ?_ ?_
    · intro x24 hI24
      subst hI24
      change AOps _ _ _ (⟨124, [], [(22, .one (.val (Sv ([a0, (((x5.take (((Md.W (((UInt64.ofInt a7) % (UInt64.ofNat x5.length)).toNat : Int))).toNat)) ++ [a8]) ++ (x5.drop (((Md.W ((Md.W (((UInt64.ofInt a7) % (UInt64.ofNat x5.length)).toNat : Int)) + 1))).toNat))), ((x5.take (((Md.W (((UInt64.ofInt a7) % (UInt64.ofNat x5.length)).toNat : Int))).toNat)) ++ (x5.drop (((Md.W ((Md.W (((UInt64.ofInt a7) % (UInt64.ofNat x5.length)).toNat : Int)) + 1))).toNat))), (x5 ++ a0)].getD s20_0 default)))), (23, .one (.ptr 0 0)), (24, vI x23.2.1), (25, vI x23.2.2), (73, .one (CV.ls c_Str [a0, (((x5.take (((Md.W (((UInt64.ofInt a7) % (UInt64.ofNat x5.length)).toNat : Int))).toNat)) ++ [a8]) ++ (x5.drop (((Md.W ((Md.W (((UInt64.ofInt a7) % (UInt64.ofNat x5.length)).toNat : Int)) + 1))).toNat))), ((x5.take (((Md.W (((UInt64.ofInt a7) % (UInt64.ofNat x5.length)).toNat : Int))).toNat)) ++ (x5.drop (((Md.W ((Md.W (((UInt64.ofInt a7) % (UInt64.ofNat x5.length)).toNat : Int)) + 1))).toNat))), (x5 ++ a0)])), (74, vI (([a0, (((x5.take (((Md.W (((UInt64.ofInt a7) % (UInt64.ofNat x5.length)).toNat : Int))).toNat)) ++ [a8]) ++ (x5.drop (((Md.W ((Md.W (((UInt64.ofInt a7) % (UInt64.ofNat x5.length)).toNat : Int)) + 1))).toNat))), ((x5.take (((Md.W (((UInt64.ofInt a7) % (UInt64.ofNat x5.length)).toNat : Int))).toNat)) ++ (x5.drop (((Md.W ((Md.W (((UInt64.ofInt a7) % (UInt64.ofNat x5.length)).toNat : Int)) + 1))).toNat))), (x5 ++ a0)].length : Nat) : Int)), (75, vI ((s20_0 : Nat) : Int)), (103, vB x24)], [(0, some (.box (c_ConsoleCommand x23.1)))]⟩ : ASt) _
      refine s_mv ?_
      refine aops_mid 18 (⟨124, [], [(73, .one (CV.ls c_Str [a0, (((x5.take (((Md.W (((UInt64.ofInt a7) % (UInt64.ofNat x5.length)).toNat : Int))).toNat)) ++ [a8]) ++ (x5.drop (((Md.W ((Md.W (((UInt64.ofInt a7) % (UInt64.ofNat x5.length)).toNat : Int)) + 1))).toNat))), ((x5.take (((Md.W (((UInt64.ofInt a7) % (UInt64.ofNat x5.length)).toNat : Int))).toNat)) ++ (x5.drop (((Md.W ((Md.W (((UInt64.ofInt a7) % (UInt64.ofNat x5.length)).toNat : Int)) + 1))).toNat))), (x5 ++ a0)])), (74, vI (([a0, (((x5.take (((Md.W (((UInt64.ofInt a7) % (UInt64.ofNat x5.length)).toNat : Int))).toNat)) ++ [a8]) ++ (x5.drop (((Md.W ((Md.W (((UInt64.ofInt a7) % (UInt64.ofNat x5.length)).toNat : Int)) + 1))).toNat))), ((x5.take (((Md.W (((UInt64.ofInt a7) % (UInt64.ofNat x5.length)).toNat : Int))).toNat)) ++ (x5.drop (((Md.W ((Md.W (((UInt64.ofInt a7) % (UInt64.ofNat x5.length)).toNat : Int)) + 1))).toNat))), (x5 ++ a0)].length : Nat) : Int)), (75, vI ((s20_0 : Nat) : Int)), (122, vB (x24 || ((x23.2.2 != 0) && (((!(decide (x23.1 = (⟨0, ([] : List UInt8), (⟨([] : List UInt8), ([] : List UInt8)⟩ : Ref), ([] : List UInt8), 0⟩ : ConsoleCommand)))) || (decide (x23.2.1 < 0))) || (decide (x23.2.1 > ((([a0, (((x5.take (((Md.W (((UInt64.ofInt a7) % (UInt64.ofNat x5.length)).toNat : Int))).toNat)) ++ [a8]) ++ (x5.drop (((Md.W ((Md.W (((UInt64.ofInt a7) % (UInt64.ofNat x5.length)).toNat : Int)) + 1))).toNat))), ((x5.take (((Md.W (((UInt64.ofInt a7) % (UInt64.ofNat x5.length)).toNat : Int))).toNat)) ++ (x5.drop (((Md.W ((Md.W (((UInt64.ofInt a7) % (UInt64.ofNat x5.length)).toNat : Int)) + 1))).toNat))), (x5 ++ a0)].getD s20_0 default).length : Nat) : Int)))))))], []⟩ : ASt) ?_ ?_
      · rcases Md.bool_or (x24) with q25 | q25
        · skip
          iterate 3 refine np q25 ?_
          iterate 13 refine aops_und rfl rfl rfl rfl rfl ?_
          refine np q25 ?_
          refine s_py q25 ?_
          refine aops_nil ?_
          exact wq q25
        refine y_mv q25 ?_
        refine y_cm q25 ?_
        refine y_mv q25 ?_
        refine aops_mid 14 (⟨124, [], [(73, .one (CV.ls c_Str [a0, (((x5.take (((Md.W (((UInt64.ofInt a7) % (UInt64.ofNat x5.length)).toNat : Int))).toNat)) ++ [a8]) ++ (x5.drop (((Md.W ((Md.W (((UInt64.ofInt a7) % (UInt64.ofNat x5.length)).toNat : Int)) + 1))).toNat))), ((x5.take (((Md.W (((UInt64.ofInt a7) % (UInt64.ofNat x5.length)).toNat : Int))).toNat)) ++ (x5.drop (((Md.W ((Md.W (((UInt64.ofInt a7) % (UInt64.ofNat x5.length)).toNat : Int)) + 1))).toNat))), (x5 ++ a0)])), (74, vI (([a0, (((x5.take (((Md.W (((UInt64.ofInt a7) % (UInt64.ofNat x5.length)).toNat : Int))).toNat)) ++ [a8]) ++ (x5.drop (((Md.W ((Md.W (((UInt64.ofInt a7) % (UInt64.ofNat x5.length)).toNat : Int)) + 1))).toNat))), ((x5.take (((Md.W (((UInt64.ofInt a7) % (UInt64.ofNat x5.length)).toNat : Int))).toNat)) ++ (x5.drop (((Md.W ((Md.W (((UInt64.ofInt a7) % (UInt64.ofNat x5.length)).toNat : Int)) + 1))).toNat))), (x5 ++ a0)].length : Nat) : Int)), (75, vI ((s20_0 : Nat) : Int)), (104, vB x24), (121, vB ((x23.2.2 != 0) && (((!(decide (x23.1 = (⟨0, ([] : List UInt8), (⟨([] : List UInt8), ([] : List UInt8)⟩ : Ref), ([] : List UInt8), 0⟩ : ConsoleCommand)))) || (decide (x23.2.1 < 0))) || (decide (x23.2.1 > ((([a0, (((x5.take (((Md.W (((UInt64.ofInt a7) % (UInt64.ofNat x5.length)).toNat : Int))).toNat)) ++ [a8]) ++ (x5.drop (((Md.W ((Md.W (((UInt64.ofInt a7) % (UInt64.ofNat x5.length)).toNat : Int)) + 1))).toNat))), ((x5.take (((Md.W (((UInt64.ofInt a7) % (UInt64.ofNat x5.length)).toNat : Int))).toNat)) ++ (x5.drop (((Md.W ((Md.W (((UInt64.ofInt a7) % (UInt64.ofNat x5.length)).toNat : Int)) + 1))).toNat))), (x5 ++ a0)].getD s20_0 default).length : Nat) : Int))))))], []⟩ : ASt) ?_ ?_
        · rcases Md.bool_or ((x23.2.2 != 0)) with q26 | q26
          · skip
            refine aops_yes rfl rfl rfl rfl q26 (ev_loads (ds := [_, _, _, _, _, _]) rfl rfl rfl rfl rfl) ?_
            refine aops_yes rfl rfl rfl rfl q26 (ev_build' (out := [_, _, _, _, _, _]) rfl rfl rfl rfl rfl) ?_
            refine aops_yes rfl rfl rfl rfl q26 (ev_agg_ne (vs := [.int .i64 x23.1.Kind, Sv x23.1.Topic, Sv x23.1.Actor.fType, Sv x23.1.Actor.Key, Sv x23.1.Method, .int .i64 x23.1.Number]) (us := [.int .i64 0, Sv [], Sv [], Sv [], Sv [], .int .i64 0]) (by kernel_rfl) rfl rfl (fun w => sq_ConsoleCommand x23.1 (⟨0, ([] : List UInt8), (⟨([] : List UInt8), ([] : List UInt8)⟩ : Ref), ([] : List UInt8), 0⟩ : ConsoleCommand) w) rfl) (y_mv q26 ?_)
            refine aops_mid 3 (⟨124, [], [(22, .one (.val (Sv ([a0, (((x5.take (((Md.W (((UInt64.ofInt a7) % (UInt64.ofNat x5.length)).toNat : Int))).toNat)) ++ [a8]) ++ (x5.drop (((Md.W ((Md.W (((UInt64.ofInt a7) % (UInt64.ofNat x5.length)).toNat : Int)) + 1))).toNat))), ((x5.take (((Md.W (((UInt64.ofInt a7) % (UInt64.ofNat x5.length)).toNat : Int))).toNat)) ++ (x5.drop (((Md.W ((Md.W (((UInt64.ofInt a7) % (UInt64.ofNat x5.length)).toNat : Int)) + 1))).toNat))), (x5 ++ a0)].getD s20_0 default)))), (24, vI x23.2.1), (73, .one (CV.ls c_Str [a0, (((x5.take (((Md.W (((UInt64.ofInt a7) % (UInt64.ofNat x5.length)).toNat : Int))).toNat)) ++ [a8]) ++ (x5.drop (((Md.W ((Md.W (((UInt64.ofInt a7) % (UInt64.ofNat x5.length)).toNat : Int)) + 1))).toNat))), ((x5.take (((Md.W (((UInt64.ofInt a7) % (UInt64.ofNat x5.length)).toNat : Int))).toNat)) ++ (x5.drop (((Md.W ((Md.W (((UInt64.ofInt a7) % (UInt64.ofNat x5.length)).toNat : Int)) + 1))).toNat))), (x5 ++ a0)])), (74, vI (([a0, (((x5.take (((Md.W (((UInt64.ofInt a7) % (UInt64.ofNat x5.length)).toNat : Int))).toNat)) ++ [a8]) ++ (x5.drop (((Md.W ((Md.W (((UInt64.ofInt a7) % (UInt64.ofNat x5.length)).toNat : Int)) + 1))).toNat))), ((x5.take (((Md.W (((UInt64.ofInt a7) % (UInt64.ofNat x5.length)).toNat : Int))).toNat)) ++ (x5.drop (((Md.W ((Md.W (((UInt64.ofInt a7) % (UInt64.ofNat x5.length)).toNat : Int)) + 1))).toNat))), (x5 ++ a0)].length : Nat) : Int)), (75, vI ((s20_0 : Nat) : Int)), (104, vB x24), (107, vB (x23.2.2 != 0)), (114, vB ((!(decide (x23.1 = (⟨0, ([] : List UInt8), (⟨([] : List UInt8), ([] : List UInt8)⟩ : Ref), ([] : List UInt8), 0⟩ : ConsoleCommand)))) || (decide (x23.2.1 < 0))))], []⟩ : ASt) ?_ ?_
            · rcases Md.bool_or ((!(decide (x23.1 = (⟨0, ([] : List UInt8), (⟨([] : List UInt8), ([] : List UInt8)⟩ : Ref), ([] : List UInt8), 0⟩ : ConsoleCommand))))) with q27 | q27
              · skip
                iterate 2 refine np q27 ?_
                refine aops_yes rfl rfl rfl rfl q26 (st_pick_yes rfl (by first | rfl | exact q27) rfl rfl) (aops_nil ?_)
                exact wq q27
              refine y_mv q27 ?_
              refine y_cm q27 ?_
              refine aops_yes rfl rfl rfl rfl q26 (st_pick_no rfl (by first | rfl | exact q27) rfl rfl) (aops_nil ?_)
              exact wq q27
            change AOps _ _ _ (⟨124, [], [(22, .one (.val (Sv ([a0, (((x5.take (((Md.W (((UInt64.ofInt a7) % (UInt64.ofNat x5.length)).toNat : Int))).toNat)) ++ [a8]) ++ (x5.drop (((Md.W ((Md.W (((UInt64.ofInt a7) % (UInt64.ofNat x5.length)).toNat : Int)) + 1))).toNat))), ((x5.take (((Md.W (((UInt64.ofInt a7) % (UInt64.ofNat x5.length)).toNat : Int))).toNat)) ++ (x5.drop (((Md.W ((Md.W (((UInt64.ofInt a7) % (UInt64.ofNat x5.length)).toNat : Int)) + 1))).toNat))), (x5 ++ a0)].getD s20_0 default)))), (24, vI x23.2.1), (73, .one (CV.ls c_Str [a0, (((x5.take (((Md.W (((UInt64.ofInt a7) % (UInt64.ofNat x5.length)).toNat : Int))).toNat)) ++ [a8]) ++ (x5.drop (((Md.W ((Md.W (((UInt64.ofInt a7) % (UInt64.ofNat x5.length)).toNat : Int)) + 1))).toNat))), ((x5.take (((Md.W (((UInt64.ofInt a7) % (UInt64.ofNat x5.length)).toNat : Int))).toNat)) ++ (x5.drop (((Md.W ((Md.W (((UInt64.ofInt a7) % (UInt64.ofNat x5.length)).toNat : Int)) + 1))).toNat))), (x5 ++ a0)])), (74, vI (([a0, (((x5.take (((Md.W (((UInt64.ofInt a7) % (UInt64.ofNat x5.length)).toNat : Int))).toNat)) ++ [a8]) ++ (x5.drop (((Md.W ((Md.W (((UInt64.ofInt a7) % (UInt64.ofNat x5.length)).toNat : Int)) + 1))).toNat))), ((x5.take (((Md.W (((UInt64.ofInt a7) % (UInt64.ofNat x5.length)).toNat : Int))).toNat)) ++ (x5.drop (((Md.W ((Md.W (((UInt64.ofInt a7) % (UInt64.ofNat x5.length)).toNat : Int)) + 1))).toNat))), (x5 ++ a0)].length : Nat) : Int)), (75, vI ((s20_0 : Nat) : Int)), (104, vB x24), (107, vB (x23.2.2 != 0)), (114, vB ((!(decide (x23.1 = (⟨0, ([] : List UInt8), (⟨([] : List UInt8), ([] : List UInt8)⟩ : Ref), ([] : List UInt8), 0⟩ : ConsoleCommand)))) || (decide (x23.2.1 < 0))))], []⟩ : ASt) _
            refine y_mv q26 ?_
            refine aops_mid 5 (⟨124, [], [(73, .one (CV.ls c_Str [a0, (((x5.take (((Md.W (((UInt64.ofInt a7) % (UInt64.ofNat x5.length)).toNat : Int))).toNat)) ++ [a8]) ++ (x5.drop (((Md.W ((Md.W (((UInt64.ofInt a7) % (UInt64.ofNat x5.length)).toNat : Int)) + 1))).toNat))), ((x5.take (((Md.W (((UInt64.ofInt a7) % (UInt64.ofNat x5.length)).toNat : Int))).toNat)) ++ (x5.drop (((Md.W ((Md.W (((UInt64.ofInt a7) % (UInt64.ofNat x5.length)).toNat : Int)) + 1))).toNat))), (x5 ++ a0)])), (74, vI (([a0, (((x5.take (((Md.W (((UInt64.ofInt a7) % (UInt64.ofNat x5.length)).toNat : Int))).toNat)) ++ [a8]) ++ (x5.drop (((Md.W ((Md.W (((UInt64.ofInt a7) % (UInt64.ofNat x5.length)).toNat : Int)) + 1))).toNat))), ((x5.take (((Md.W (((UInt64.ofInt a7) % (UInt64.ofNat x5.length)).toNat : Int))).toNat)) ++ (x5.drop (((Md.W ((Md.W (((UInt64.ofInt a7) % (UInt64.ofNat x5.length)).toNat : Int)) + 1))).toNat))), (x5 ++ a0)].length : Nat) : Int)), (75, vI ((s20_0 : Nat) : Int)), (104, vB x24), (107, vB (x23.2.2 != 0)), (120, vB (((!(decide (x23.1 = (⟨0, ([] : List UInt8), (⟨([] : List UInt8), ([] : List UInt8)⟩ : Ref), ([] : List UInt8), 0⟩ : ConsoleCommand)))) || (decide (x23.2.1 < 0))) || (decide (x23.2.1 > ((([a0, (((x5.take (((Md.W (((UInt64.ofInt a7) % (UInt64.ofNat x5.length)).toNat : Int))).toNat)) ++ [a8]) ++ (x5.drop (((Md.W ((Md.W (((UInt64.ofInt a7) % (UInt64.ofNat x5.length)).toNat : Int)) + 1))).toNat))), ((x5.take (((Md.W (((UInt64.ofInt a7) % (UInt64.ofNat x5.length)).toNat : Int))).toNat)) ++ (x5.drop (((Md.W ((Md.W (((UInt64.ofInt a7) % (UInt64.ofNat x5.length)).toNat : Int)) + 1))).toNat))), (x5 ++ a0)].getD s20_0 default).length : Nat) : Int)))))], []⟩ : ASt) ?_ ?_
            · rcases Md.bool_or (((!(decide (x23.1 = (⟨0, ([] : List UInt8), (⟨([] : List UInt8), ([] : List UInt8)⟩ : Ref), ([] : List UInt8), 0⟩ : ConsoleCommand)))) || (decide (x23.2.1 < 0)))) with q28 | q28
              · skip
                iterate 4 refine np q28 ?_
                refine aops_yes rfl rfl rfl rfl q26 (st_pick_yes rfl (by first | rfl | exact q28) rfl rfl) (aops_nil ?_)
                exact wq q28
              iterate 2 refine y_mv q28 ?_
              refine aops_yes rfl rfl rfl rfl q28 (st_len_str rfl rfl) (y_cm q28 ?_)
              refine aops_yes rfl rfl rfl rfl q26 (st_pick_no rfl (by first | rfl | exact q28) rfl rfl) (aops_nil ?_)
              exact wq q28
            change AOps _ _ _ (⟨124, [], [(73, .one (CV.ls c_Str [a0, (((x5.take (((Md.W (((UInt64.ofInt a7) % (UInt64.ofNat x5.length)).toNat : Int))).toNat)) ++ [a8]) ++ (x5.drop (((Md.W ((Md.W (((UInt64.ofInt a7) % (UInt64.ofNat x5.length)).toNat : Int)) + 1))).toNat))), ((x5.take (((Md.W (((UInt64.ofInt a7) % (UInt64.ofNat x5.length)).toNat : Int))).toNat)) ++ (x5.drop (((Md.W ((Md.W (((UInt64.ofInt a7) % (UInt64.ofNat x5.length)).toNat : Int)) + 1))).toNat))), (x5 ++ a0)])), (74, vI (([a0, (((x5.take (((Md.W (((UInt64.ofInt a7) % (UInt64.ofNat x5.length)).toNat : Int))).toNat)) ++ [a8]) ++ (x5.drop (((Md.W ((Md.W (((UInt64.ofInt a7) % (UInt64.ofNat x5.length)).toNat : Int)) + 1))).toNat))), ((x5.take (((Md.W (((UInt64.ofInt a7) % (UInt64.ofNat x5.length)).toNat : Int))).toNat)) ++ (x5.drop (((Md.W ((Md.W (((UInt64.ofInt a7) % (UInt64.ofNat x5.length)).toNat : Int)) + 1))).toNat))), (x5 ++ a0)].length : Nat) : Int)), (75, vI ((s20_0 : Nat) : Int)), (104, vB x24), (107, vB (x23.2.2 != 0)), (120, vB (((!(decide (x23.1 = (⟨0, ([] : List UInt8), (⟨([] : List UInt8), ([] : List UInt8)⟩ : Ref), ([] : List UInt8), 0⟩ : ConsoleCommand)))) || (decide (x23.2.1 < 0))) || (decide (x23.2.1 > ((([a0, (((x5.take (((Md.W (((UInt64.ofInt a7) % (UInt64.ofNat x5.length)).toNat : Int))).toNat)) ++ [a8]) ++ (x5.drop (((Md.W ((Md.W (((UInt64.ofInt a7) % (UInt64.ofNat x5.length)).toNat : Int)) + 1))).toNat))), ((x5.take (((Md.W (((UInt64.ofInt a7) % (UInt64.ofNat x5.length)).toNat : Int))).toNat)) ++ (x5.drop (((Md.W ((Md.W (((UInt64.ofInt a7) % (UInt64.ofNat x5.length)).toNat : Int)) + 1))).toNat))), (x5 ++ a0)].getD s20_0 default).length : Nat) : Int)))))], []⟩ : ASt) _
            refine aops_yes rfl rfl rfl rfl q25 (st_pick_yes rfl (by first | rfl | exact q26) rfl rfl) (aops_nil ?_)
            exact wq q26
          iterate 4 refine np q26 ?_
          refine aops_und rfl rfl rfl rfl rfl (aops_und rfl rfl rfl rfl rfl ?_)
          iterate 2 refine np q26 ?_
          iterate 4 refine aops_und rfl rfl rfl rfl rfl ?_
          refine np q26 ?_
          refine aops_yes rfl rfl rfl rfl q25 (st_pick_no rfl (by first | rfl | exact q26) rfl rfl) (aops_nil ?_)
          exact wq q26
        change AOps _ _ _ (⟨124, [], [(73, .one (CV.ls c_Str [a0, (((x5.take (((Md.W (((UInt64.ofInt a7) % (UInt64.ofNat x5.length)).toNat : Int))).toNat)) ++ [a8]) ++ (x5.drop (((Md.W ((Md.W (((UInt64.ofInt a7) % (UInt64.ofNat x5.length)).toNat : Int)) + 1))).toNat))), ((x5.take (((Md.W (((UInt64.ofInt a7) % (UInt64.ofNat x5.length)).toNat : Int))).toNat)) ++ (x5.drop (((Md.W ((Md.W (((UInt64.ofInt a7) % (UInt64.ofNat x5.length)).toNat : Int)) + 1))).toNat))), (x5 ++ a0)])), (74, vI (([a0, (((x5.take (((Md.W (((UInt64.ofInt a7) % (UInt64.ofNat x5.length)).toNat : Int))).toNat)) ++ [a8]) ++ (x5.drop (((Md.W ((Md.W (((UInt64.ofInt a7) % (UInt64.ofNat x5.length)).toNat : Int)) + 1))).toNat))), ((x5.take (((Md.W (((UInt64.ofInt a7) % (UInt64.ofNat x5.length)).toNat : Int))).toNat)) ++ (x5.drop (((Md.W ((Md.W (((UInt64.ofInt a7) % (UInt64.ofNat x5.length)).toNat : Int)) + 1))).toNat))), (x5 ++ a0)].length : Nat) : Int)), (75, vI ((s20_0 : Nat) : Int)), (104, vB x24), (121, vB ((x23.2.2 != 0) && (((!(decide (x23.1 = (⟨0, ([] : List UInt8), (⟨([] : List UInt8), ([] : List UInt8)⟩ : Ref), ([] : List UInt8), 0⟩ : ConsoleCommand)))) || (decide (x23.2.1 < 0))) || (decide (x23.2.1 > ((([a0, (((x5.take (((Md.W (((UInt64.ofInt a7) % (UInt64.ofNat x5.length)).toNat : Int))).toNat)) ++ [a8]) ++ (x5.drop (((Md.W ((Md.W (((UInt64.ofInt a7) % (UInt64.ofNat x5.length)).toNat : Int)) + 1))).toNat))), ((x5.take (((Md.W (((UInt64.ofInt a7) % (UInt64.ofNat x5.length)).toNat : Int))).toNat)) ++ (x5.drop (((Md.W ((Md.W (((UInt64.ofInt a7) % (UInt64.ofNat x5.length)).toNat : Int)) + 1))).toNat))), (x5 ++ a0)].getD s20_0 default).length : Nat) : Int))))))], []⟩ : ASt) _
        refine s_pn q25 ?_
        refine aops_nil ?_
        exact wq q25
      refine aops_nil ?_
      refine aw_cond rfl (fun c29 => ?_) (fun c29 => ?_)
      · replace l20 := Md.cond_t l20 c29
        refine aw_seq (aw_region (s_sa ?_))
        refine aops_nil ?_
        cases Option.some.inj l20
        replace h := Md.onS_r h
        cases Option.some.inj h
        exact aw_ret ⟨rfl, rv r1⟩
      replace l20 := Md.cond_f l20 c29
      refine aw_skip (aw_region ?_)
      obtain ⟨g30, l20⟩ := Md.ifp_s l20
      refine aops_step1 rfl (ev_add rfl rfl rfl (Md.nat_add g30)) (s_mv ?_)
      refine aops_nil ?_
      exact ⟨⟨(n20, (s20_0 + 1)), l20⟩, Nat.lt_succ_self _, wk⟩
    rcases Md.bool_or ((x23.2.2 == 0)) with q24 | q24
    · replace j24 := Md.cond_t j24 q24
      refine aops_yes rfl rfl rfl rfl q24 (ev_loads (ds := [_, _, _, _, _, _]) rfl rfl rfl rfl rfl) ?_
      obtain ⟨x31, hx31, j24⟩ := Md.bind_s j24
      refine aops_yes rfl rfl rfl rfl q24 (ev_call_v (console_Valid_fn k x23.1 x31 hx31) rfl [] ai rfl rfl rfl (.inl rfl) rfl) (y_nt q24 ?_)
      refine y_mv q24 ?_
      obtain ⟨o32, j32, j24⟩ := Md.bind_s j24
      refine aops_cut 5 (ε := Bool) (fun x32 => (⟨124, [], [(22, .one (.val (Sv ([a0, (((x5.take (((Md.W (((UInt64.ofInt a7) % (UInt64.ofNat x5.length)).toNat : Int))).toNat)) ++ [a8]) ++ (x5.drop (((Md.W ((Md.W (((UInt64.ofInt a7) % (UInt64.ofNat x5.length)).toNat : Int)) + 1))).toNat))), ((x5.take (((Md.W (((UInt64.ofInt a7) % (UInt64.ofNat x5.length)).toNat : Int))).toNat)) ++ (x5.drop (((Md.W ((Md.W (((UInt64.ofInt a7) % (UInt64.ofNat x5.length)).toNat : Int)) + 1))).toNat))), (x5 ++ a0)].getD s20_0 default)))), (23, .one (.ptr 0 0)), (24, vI x23.2.1), (25, vI x23.2.2), (73, .one (CV.ls c_Str [a0, (((x5.take (((Md.W (((UInt64.ofInt a7) % (UInt64.ofNat x5.length)).toNat : Int))).toNat)) ++ [a8]) ++ (x5.drop (((Md.W ((Md.W (((UInt64.ofInt a7) % (UInt64.ofNat x5.length)).toNat : Int)) + 1))).toNat))), ((x5.take (((Md.W (((UInt64.ofInt a7) % (UInt64.ofNat x5.length)).toNat : Int))).toNat)) ++ (x5.drop (((Md.W ((Md.W (((UInt64.ofInt a7) % (UInt64.ofNat x5.length)).toNat : Int)) + 1))).toNat))), (x5 ++ a0)])), (74, vI (([a0, (((x5.take (((Md.W (((UInt64.ofInt a7) % (UInt64.ofNat x5.length)).toNat : Int))).toNat)) ++ [a8]) ++ (x5.drop (((Md.W ((Md.W (((UInt64.ofInt a7) % (UInt64.ofNat x5.length)).toNat : Int)) + 1))).toNat))), ((x5.take (((Md.W (((UInt64.ofInt a7) % (UInt64.ofNat x5.length)).toNat : Int))).toNat)) ++ (x5.drop (((Md.W ((Md.W (((UInt64.ofInt a7) % (UInt64.ofNat x5.length)).toNat : Int)) + 1))).toNat))), (x5 ++ a0)].length : Nat) : Int)), (75, vI ((s20_0 : Nat) : Int)), (87, vB (x23.2.2 == 0)), (96, vB x32)], [(0, some (.box (c_ConsoleCommand x23.1)))]⟩ : ASt)) (fun x32 => x32 = o32) ?_ ?_
      · intro x32 hI32
        subst hI32
        change AOps _ _ _ (⟨124, [], [(22, .one (.val (Sv ([a0, (((x5.take (((Md.W (((UInt64.ofInt a7) % (UInt64.ofNat x5.length)).toNat : Int))).toNat)) ++ [a8]) ++ (x5.drop (((Md.W ((Md.W (((UInt64.ofInt a7) % (UInt64.ofNat x5.length)).toNat : Int)) + 1))).toNat))), ((x5.take (((Md.W (((UInt64.ofInt a7) % (UInt64.ofNat x5.length)).toNat : Int))).toNat)) ++ (x5.drop (((Md.W ((Md.W (((UInt64.ofInt a7) % (UInt64.ofNat x5.length)).toNat : Int)) + 1))).toNat))), (x5 ++ a0)].getD s20_0 default)))), (23, .one (.ptr 0 0)), (24, vI x23.2.1), (25, vI x23.2.2), (73, .one (CV.ls c_Str [a0, (((x5.take (((Md.W (((UInt64.ofInt a7) % (UInt64.ofNat x5.length)).toNat : Int))).toNat)) ++ [a8]) ++ (x5.drop (((Md.W ((Md.W (((UInt64.ofInt a7) % (UInt64.ofNat x5.length)).toNat : Int)) + 1))).toNat))), ((x5.take (((Md.W (((UInt64.ofInt a7) % (UInt64.ofNat x5.length)).toNat : Int))).toNat)) ++ (x5.drop (((Md.W ((Md.W (((UInt64.ofInt a7) % (UInt64.ofNat x5.length)).toNat : Int)) + 1))).toNat))), (x5 ++ a0)])), (74, vI (([a0, (((x5.take (((Md.W (((UInt64.ofInt a7) % (UInt64.ofNat x5.length)).toNat : Int))).toNat)) ++ [a8]) ++ (x5.drop (((Md.W ((Md.W (((UInt64.ofInt a7) % (UInt64.ofNat x5.length)).toNat : Int)) + 1))).toNat))), ((x5.take (((Md.W (((UInt64.ofInt a7) % (UInt64.ofNat x5.length)).toNat : Int))).toNat)) ++ (x5.drop (((Md.W ((Md.W (((UInt64.ofInt a7) % (UInt64.ofNat x5.length)).toNat : Int)) + 1))).toNat))), (x5 ++ a0)].length : Nat) : Int)), (75, vI ((s20_0 : Nat) : Int)), (87, vB (x23.2.2 == 0)), (96, vB x32)], [(0, some (.box (c_ConsoleCommand x23.1)))]⟩ : ASt) _
        refine y_mv q24 ?_
        refine aops_mid 5 (⟨124, [], [(22, .one (.val (Sv ([a0, (((x5.take (((Md.W (((UInt64.ofInt a7) % (UInt64.ofNat x5.length)).toNat : Int))).toNat)) ++ [a8]) ++ (x5.drop (((Md.W ((Md.W (((UInt64.ofInt a7) % (UInt64.ofNat x5.length)).toNat : Int)) + 1))).toNat))), ((x5.take (((Md.W (((UInt64.ofInt a7) % (UInt64.ofNat x5.length)).toNat : Int))).toNat)) ++ (x5.drop (((Md.W ((Md.W (((UInt64.ofInt a7) % (UInt64.ofNat x5.length)).toNat : Int)) + 1))).toNat))), (x5 ++ a0)].getD s20_0 default)))), (23, .one (.ptr 0 0)), (24, vI x23.2.1), (25, vI x23.2.2), (73, .one (CV.ls c_Str [a0, (((x5.take (((Md.W (((UInt64.ofInt a7) % (UInt64.ofNat x5.length)).toNat : Int))).toNat)) ++ [a8]) ++ (x5.drop (((Md.W ((Md.W (((UInt64.ofInt a7) % (UInt64.ofNat x5.length)).toNat : Int)) + 1))).toNat))), ((x5.take (((Md.W (((UInt64.ofInt a7) % (UInt64.ofNat x5.length)).toNat : Int))).toNat)) ++ (x5.drop (((Md.W ((Md.W (((UInt64.ofInt a7) % (UInt64.ofNat x5.length)).toNat : Int)) + 1))).toNat))), (x5 ++ a0)])), (74, vI (([a0, (((x5.take (((Md.W (((UInt64.ofInt a7) % (UInt64.ofNat x5.length)).toNat : Int))).toNat)) ++ [a8]) ++ (x5.drop (((Md.W ((Md.W (((UInt64.ofInt a7) % (UInt64.ofNat x5.length)).toNat : Int)) + 1))).toNat))), ((x5.take (((Md.W (((UInt64.ofInt a7) % (UInt64.ofNat x5.length)).toNat : Int))).toNat)) ++ (x5.drop (((Md.W ((Md.W (((UInt64.ofInt a7) % (UInt64.ofNat x5.length)).toNat : Int)) + 1))).toNat))), (x5 ++ a0)].length : Nat) : Int)), (75, vI ((s20_0 : Nat) : Int)), (87, vB (x23.2.2 == 0)), (102, vB (x32 || (x23.2.1 != ((([a0, (((x5.take (((Md.W (((UInt64.ofInt a7) % (UInt64.ofNat x5.length)).toNat : Int))).toNat)) ++ [a8]) ++ (x5.drop (((Md.W ((Md.W (((UInt64.ofInt a7) % (UInt64.ofNat x5.length)).toNat : Int)) + 1))).toNat))), ((x5.take (((Md.W (((UInt64.ofInt a7) % (UInt64.ofNat x5.length)).toNat : Int))).toNat)) ++ (x5.drop (((Md.W ((Md.W (((UInt64.ofInt a7) % (UInt64.ofNat x5.length)).toNat : Int)) + 1))).toNat))), (x5 ++ a0)].getD s20_0 default).length : Nat) : Int))))], [(0, some (.box (c_ConsoleCommand x23.1)))]⟩ : ASt) ?_ ?_
        · rcases Md.bool_or (x32) with q33 | q33
          · skip
            iterate 4 refine np q33 ?_
            refine aops_yes rfl rfl rfl rfl q24 (st_pick_yes rfl (by first | rfl | exact q33) rfl rfl) (aops_nil ?_)
            exact wq q33
          iterate 2 refine y_mv q33 ?_
          refine aops_yes rfl rfl rfl rfl q33 (st_len_str rfl rfl) (y_cm q33 ?_)
          refine aops_yes rfl rfl rfl rfl q24 (st_pick_no rfl (by first | rfl | exact q33) rfl rfl) (aops_nil ?_)
          exact wq q33
        refine s_py q24 ?_
        refine aops_nil ?_
        show ∃ _x : Bool, _ = _ ∧ Weak _ _
        exact ⟨(x32 || (x23.2.1 != ((([a0, (((x5.take (((Md.W (((UInt64.ofInt a7) % (UInt64.ofNat x5.length)).toNat : Int))).toNat)) ++ [a8]) ++ (x5.drop (((Md.W ((Md.W (((UInt64.ofInt a7) % (UInt64.ofNat x5.length)).toNat : Int)) + 1))).toNat))), ((x5.take (((Md.W (((UInt64.ofInt a7) % (UInt64.ofNat x5.length)).toNat : Int))).toNat)) ++ (x5.drop (((Md.W ((Md.W (((UInt64.ofInt a7) % (UInt64.ofNat x5.length)).toNat : Int)) + 1))).toNat))), (x5 ++ a0)].getD s20_0 default).length : Nat) : Int))), Option.some.inj j24, wk⟩
      rcases Md.bool_or ((!x31)) with q32 | q32
      · replace j32 := Md.cond_t j32 q32
        iterate 4 refine np q32 ?_
        refine aops_yes rfl rfl rfl rfl q24 (st_pick_yes rfl (by first | rfl | exact q32) rfl rfl) (aops_nil ?_)
        show ∃ _x : Bool, _ = _ ∧ Weak _ _
        exact ⟨true, Option.some.inj j32, wk⟩
      replace j32 := Md.cond_f j32 q32
      refine aops_yes rfl rfl rfl rfl q32 (ev_loads (ds := [_, _, _, _, _, _]) rfl rfl rfl rfl rfl) ?_
      obtain ⟨x34, hx34, j32⟩ := Md.bind_s j32
      refine aops_yes rfl rfl rfl rfl q32 (ev_call_v (console_Format_fn k x23.1 x34 hx34) rfl [] ai rfl rfl rfl (.inl rfl) rfl) (y_mv q32 ?_)
      refine aops_yes rfl rfl rfl rfl q32 (st_str_ne rfl rfl rfl) (aops_yes rfl rfl rfl rfl q24 (st_pick_no rfl (by first | rfl | exact q32) rfl rfl) (aops_nil ?_))
      show ∃ _x : Bool, _ = _ ∧ Weak _ _
      exact ⟨(!(decide (x34 = ([a0, (((x5.take (((Md.W (((UInt64.ofInt a7) % (UInt64.ofNat x5.length)).toNat : Int))).toNat)) ++ [a8]) ++ (x5.drop (((Md.W ((Md.W (((UInt64.ofInt a7) % (UInt64.ofNat x5.length)).toNat : Int)) + 1))).toNat))), ((x5.take (((Md.W (((UInt64.ofInt a7) % (UInt64.ofNat x5.length)).toNat : Int))).toNat)) ++ (x5.drop (((Md.W ((Md.W (((UInt64.ofInt a7) % (UInt64.ofNat x5.length)).toNat : Int)) + 1))).toNat))), (x5 ++ a0)].getD s20_0 default)))), Option.some.inj j32, wk⟩
    replace j24 := Md.cond_f j24 q24
    iterate 4 refine np q24 ?_
    iterate 4 refine aops_und rfl rfl rfl rfl rfl ?_
    iterate 2 refine np q24 ?_
    iterate 4 refine aops_und rfl rfl rfl rfl rfl ?_
    refine np q24 ?_
    refine s_pn q24 ?_
    refine aops_nil ?_
    show ∃ _x : Bool, _ = _ ∧ Weak _ _
    exact ⟨false, Option.some.inj j24, wk⟩
  replace l20 := Md.cond_f l20 c21
  refine aw_exit ?_
  show ∃ _x : Unit, _ = _ ∧ Weak _ _
  exact ⟨(), Option.some.inj l20, wk⟩
end Md
end Go.Proofs.YtjpiiejdaiaocaaDoor
