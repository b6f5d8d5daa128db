/-
  StorA: where a function's model gives a value, the function returns what reads as it (printed by wip/tools/auto.py). Condition of each: the model gives a value.
-/
import Derived.Test.YtkcfkcgclljncaaStorAM
import Derived.Test.YtkcfkcgclljncaaTy
import Derived.Test.YtkcfkcgclljncaaAbsS
import Derived.Test.YtkcfkcgclljncaaJourB
namespace Go.Proofs.Ytkcfkcgclljncaa
open Go.ChangeShapes Go.WideShapes Go.RowKit
open Abs
set_option linter.unusedVariables false
set_option linter.unusedSimpArgs false
set_option maxRecDepth 10000
namespace Md
def c_Store (x : Store) : List CV := [CV.ls byC x.Disks.x0.Data, cI x.Disks.x0.Capacity, cB x.Disks.x0.Armed, cI x.Disks.x0.Writes, cI x.Disks.x0.Keep, cB x.Disks.x0.Down, CV.ls byC x.Disks.x1.Data, cI x.Disks.x1.Capacity, cB x.Disks.x1.Armed, cI x.Disks.x1.Writes, cI x.Disks.x1.Keep, cB x.Disks.x1.Down, cI x.Current, cI x.Number, cI x.Base, cI x.Count]
def c_StoreContents (x : StoreContents) : List CV := [cI x.Base, CV.ls byC x.State, CV.ls c_LU8 x.Entries]
set_option maxHeartbeats 2000000 in
theorem store_header_fn (k : Nat) (a0 : Int) (a1 : Int) (a2 : List UInt8) (r : (List UInt8)) (h : store_header k a0 a1 a2 = some r) : FnC Try.prog 71 [vI a0, vI a1, .one (CV.ls byC a2)] [] (Det (.one (.own 0)) [(0, some (.row 5 1 r.length (lsEl byC r)))]) := by
  unfold store_header at h
  refine fn_intro' 23 Try.func71 rfl rfl rfl (aw_seq (aw_region (s_sa ?_)))
  refine aops_nil (aw_seq (aw_region (s_mv ?_)))
  refine aops_step1 rfl (st_conv_int rfl rfl Try.underlying3 Try.underlying109 (Md.ofInt_u64 a0)) ?_
  obtain ⟨x1, hx1, h⟩ := Md.bind_s h
  refine aops_step1 rfl (st_call_r (r' := .one (.own 0)) 0 rfl (wire_AppendUint_fn k ([] : List UInt8) (UInt64.ofInt a0) x1 hx1) rfl [] ai rfl rfl rfl (.inl rfl) rfl rfl) (s_sa ?_)
  refine aops_nil (aw_seq (aw_region ?_))
  iterate 2 refine s_mv ?_
  refine aops_step1 rfl (st_conv_int rfl rfl Try.underlying3 Try.underlying109 (Md.ofInt_u64 a1)) ?_
  obtain ⟨x2, hx2, h⟩ := Md.bind_s h
  refine aops_step1 rfl (st_call_r (r' := .one (.own 1)) 1 rfl (wire_AppendUint_fn k x1 (UInt64.ofInt a1) x2 hx2) rfl [0] ai rfl rfl rfl (.inr ⟨rfl, fun _ _ => rfl⟩) rfl rfl) (s_sa ?_)
  refine aops_nil (aw_seq (aw_region ?_))
  iterate 2 refine s_mv ?_
  refine s_ln ?_
  refine aops_step1 rfl (st_conv_int rfl rfl Try.underlying3 Try.underlying109 (Md.ofNat_u64 a2.length)) ?_
  obtain ⟨x3, hx3, h⟩ := Md.bind_s h
  refine aops_step1 rfl (st_call_r (r' := .one (.own 2)) 2 rfl (wire_AppendUint_fn k x2 (UInt64.ofNat a2.length) x3 hx3) rfl [1] ai rfl rfl rfl (.inr ⟨rfl, fun _ _ => rfl⟩) rfl rfl) (s_sa ?_)
  refine aops_nil (aw_seq (aw_region ?_))
  iterate 2 refine s_mv ?_
  obtain ⟨g4, h⟩ := Md.ifp_s h
  refine aops_step1 rfl (st_app_ls (f := byC) x3 a2 (fun _ => rfl) rfl rfl (.inl rfl) (by omega) (by omega) rfl) (s_sa ?_)
  refine aops_nil ?_
  cases Option.some.inj h
  refine aw_ret ⟨rfl, ret_r 2 r1 rfl rfl rfl ?_ ?_ ?_⟩
  · first | exact TLe.refl _ | (repeat' (first | exact .refl _ | exact .nil | refine .tup ?_ | refine .v ?_ | refine .cons ?_ ?_ | refine .agg ?_ | refine .one ?_ | exact .nil _ | exact .emp _ | refine .val ?_ | refine .slc ?_ ?_ | fail))
  · rfl
  · rfl
set_option maxHeartbeats 2000000 in
theorem store_New_fn (k : Nat) (a0 : Int) (r : Store × Int) (h : store_New k a0 = some r) : FnC Try.prog 51 [vI a0] [] (Det (.tup [.agg (c_Store r.1), vI r.2]) []) := by
  unfold store_New at h
  refine fn_intro' 44 Try.func51 rfl rfl rfl (aw_seq (aw_region ?_))
  refine aops_step1 rfl (st_alloc (cs := [.val (.slice none 0 0), cI 0, cB false, cI 0, cI 0, cB false, .val (.slice none 0 0), cI 0, cB false, cI 0, cI 0, cB false, cI 0, cI 0, cI 0, cI 0]) 0 rfl rfl rfl rfl rfl) (s_sa ?_)
  refine aops_nil (aw_seq (aw_region ?_))
  refine aops_step1 rfl (st_alloc (cs := [.val (.slice none 0 0), cI 0, cB false, cI 0, cI 0, cB false, .val (.slice none 0 0), cI 0, cB false, cI 0, cI 0, cB false, cI 0, cI 0, cI 0, cI 0]) 1 rfl rfl rfl rfl rfl) ?_
  refine aops_nil (aw_seq (aw_seq (aw_region (s_mv ?_))))
  refine aops_nil (aw_block (aw_loop_start (awl_round (aw_seq (aw_region (aops_step1 rfl (ev_cmp (b := true) rfl rfl rfl rfl) (aops_nil (aw_seq (aw_yes rfl (rfl) (aw_skip (aw_seq ?_)))))))))))
  refine aw_block (aw_seq (aw_region (s_mv ?_)))
  refine s_sa ?_
  refine aops_nil (aw_seq (aw_region (s_mv ?_)))
  obtain ⟨x1, hx1, h⟩ := Md.bind_s h
  refine aops_step1 rfl (ev_call_v (disk_New_fn k a0 x1 hx1) rfl [] ai rfl rfl rfl (.inl rfl) rfl) (s_mt ?_)
  iterate 2 refine s_ex ?_
  refine aops_step1 rfl (st_alloc (cs := [.val (.slice none 0 0), cI 0, cB false, cI 0, cI 0, cB false]) 2 rfl rfl rfl rfl rfl) (s_st [_, _, _, _, _, _] ?_)
  refine s_sa ?_
  refine aops_nil (aw_seq (aw_seq (aw_region (s_mv ?_))))
  refine s_cm ?_
  refine aops_nil ?_
  refine aw_cond rfl (fun c2 => ?_) (fun c2 => ?_)
  · replace h := Md.cond_t h c2
    refine aw_seq (aw_region (aops_step1 rfl (ev_build' (out := [_, _, _, _, _, _, _, _, _, _, _, _, _, _, _, _]) rfl rfl rfl rfl rfl) (s_mv ?_)))
    refine s_st [_, _, _, _, _, _, _, _, _, _, _, _, _, _, _, _] ?_
    refine s_sa ?_
    refine aops_nil ?_
    cases Option.some.inj h
    exact aw_ret ⟨rfl, rv (rn (.cons (va [_, _, _, _, _, _, _, _, _, _, _, _, _, _, _, _]) (.cons o1 .nil)))⟩
  replace h := Md.cond_f h c2
  refine aw_skip (aw_region (s_mv ?_))
  refine s_ls [_, _, _, _, _, _] ?_
  refine s_fd ?_
  refine aops_step1 rfl (ev_index_arr rfl rfl rfl rfl rfl) (s_st [_, _, _, _, _, _, _, _, _, _, _, _, _, _, _, _] ?_)
  refine aops_nil (aw_region (aops_step1 rfl (ev_add (q := 1) rfl rfl rfl (by decide)) (s_mv ?_)))
  refine aops_nil (awl_round (aw_seq (aw_region (aops_step1 rfl (ev_cmp (b := true) rfl rfl rfl rfl) (aops_nil (aw_seq (aw_yes rfl (rfl) (aw_skip (aw_seq (aw_block (aw_seq (aw_region (s_mv ?_)))))))))))))
  refine s_sa ?_
  refine aops_nil (aw_seq (aw_region (s_mv ?_)))
  obtain ⟨x3, hx3, h⟩ := Md.bind_s h
  refine aops_step1 rfl (ev_call_v (disk_New_fn k a0 x3 hx3) rfl [] ai rfl rfl rfl (.inl rfl) rfl) (s_mt ?_)
  iterate 2 refine s_ex ?_
  refine aops_step1 rfl (st_alloc (cs := [.val (.slice none 0 0), cI 0, cB false, cI 0, cI 0, cB false]) 3 rfl rfl rfl rfl rfl) (s_st [_, _, _, _, _, _] ?_)
  refine s_sa ?_
  refine aops_nil (aw_seq (aw_seq (aw_region (s_mv ?_))))
  refine s_cm ?_
  refine aops_nil ?_
  refine aw_cond rfl (fun c4 => ?_) (fun c4 => ?_)
  · replace h := Md.cond_t h c4
    refine aw_seq (aw_region (aops_step1 rfl (ev_build' (out := [_, _, _, _, _, _, _, _, _, _, _, _, _, _, _, _]) rfl rfl rfl rfl rfl) (s_mv ?_)))
    refine s_st [_, _, _, _, _, _, _, _, _, _, _, _, _, _, _, _] ?_
    refine s_sa ?_
    refine aops_nil ?_
    cases Option.some.inj h
    exact aw_ret ⟨rfl, rv (rn (.cons (va [_, _, _, _, _, _, _, _, _, _, _, _, _, _, _, _]) (.cons o1 .nil)))⟩
  replace h := Md.cond_f h c4
  refine aw_skip (aw_region (s_mv ?_))
  refine s_ls [_, _, _, _, _, _] ?_
  refine s_fd ?_
  refine aops_step1 rfl (ev_index_arr rfl rfl rfl rfl rfl) (s_st [_, _, _, _, _, _, _, _, _, _, _, _, _, _, _, _] ?_)
  refine aops_nil (aw_region (aops_step1 rfl (ev_add (q := 2) rfl rfl rfl (by decide)) (s_mv ?_)))
  refine aops_nil (awl_round (aw_seq (aw_region (aops_step1 rfl (ev_cmp (b := false) rfl rfl rfl rfl) (aops_nil (aw_seq (aw_no rfl (rfl) (aw_exit ?_))))))))
  obtain ⟨x5, hx5, h⟩ := Md.bind_s h
  obtain ⟨x6, hx6, h⟩ := Md.bind_s h
  refine aw_seq_mid (⟨44, [], [(2, .one (.ptr 0 0)), (4, .one (.ptr 1 0)), (8, .one (.ptr 4 0)), (9, vI x6.2)], [(0, some (.box [.val (.slice none 0 0), cI 0, cB false, cI 0, cI 0, cB false, .val (.slice none 0 0), cI 0, cB false, cI 0, cI 0, cB false, cI 0, cI 0, cI 0, cI 0])), (1, some (.box (c_Disk x1.1 ++ c_Disk x3.1 ++ [cI 0, cI 0, cI 0, cI 0]))), (4, some (.box (c_Disk x6.1)))]⟩ : ASt) ?_ ?_
  ·
    apply aw_late 10 8 ((⟨[], .one (.ptr 1 _)⟩ : Add) :: ⟨[], .one (.ptr 1 _)⟩ :: ⟨[], .agg (c_Disk x1.1)⟩ :: ⟨[], .one (CV.ls byC x5)⟩ :: ⟨[], .agg [cI 1, CV.ls byC x5]⟩ :: ⟨[], .tup [.agg (c_Disk x6.1), vI x6.2]⟩ :: ⟨[], .tup [.agg (c_Disk x6.1), vI x6.2]⟩ :: ⟨[], .agg (c_Disk x6.1)⟩ :: ⟨[], vI x6.2⟩ :: ⟨[(4, some (.box [.val (.slice none 0 0), cI 0, cB false, cI 0, cI 0, cB false]))], .one (.ptr 4 _)⟩ :: []) (by decide) (by decide) rfl rfl rfl ?hk1x ?hf1x ?ho1x ?hr1x ?hl1x
    case ho1x =>
     refine ob [] (fun S hle hfr => .inl ⟨w0, ev_field (hle.e rfl) rfl (hle.d rfl)⟩) ?_
     refine ob [0] (fun S hle hfr => .inl ⟨w0, ev_index_arr (hle.e rfl) (hle.e rfl) rfl rfl (hle.d rfl)⟩) ?_
     refine ob [1, 0] (fun S hle hfr => .inl ⟨w0, ev_loads (ds := [_, _, _, _, _, _]) (hle.e rfl) (hle.heap _ _ rfl) rfl rfl (hle.d rfl)⟩) ?_
     refine ob [] (fun S hle hfr => .inl ⟨w0, st_call_z (store_header_fn k 0 0 ([] : List UInt8) x5 hx5) (map_ev (.cons (hle.e rfl) (.cons (hle.e rfl) (.cons (hle.e rfl) (.nil))))) [] (fun _ => (by repeat' (first | exact .nil | refine .cons ?_ ?_ | refine .one ?_ | refine .agg ?_ | exact .mk rfl | exact .lend (hle.heap _ _ rfl) (by simp) | exact .le (.nil _) rfl | exact .le (.emp _) rfl | exact .le (.any _) rfl | fail))) rfl (.inl rfl) (hle.d rfl)⟩) ?_
     refine ob [3] (fun S hle hfr => .inl ⟨w0, ev_build' (out := [_, _]) (map_ev2 (.cons (hle.e rfl) (.cons (hle.e rfl) (.nil)))) rfl rfl rfl (hle.d rfl)⟩) ?_
     refine ob [2, 4, 3, 1, 0] (fun S hle hfr => .inl ⟨w0, ev_call_v (journal_Append_fn k x1.1 (⟨1, x5⟩ : JournalRecord) x6 hx6) (map_ev (.cons (hle.e rfl) (.cons (hle.e rfl) (.nil)))) [] (by repeat' (first | exact .nil | refine .cons ?_ ?_ | refine .one ?_ | refine .agg ?_ | exact .mk rfl | exact .lend (hle.heap _ _ rfl) (by simp) | exact .le (.nil _) rfl | exact .le (.emp _) rfl | exact .le (.any _) rfl | fail)) rfl rfl rfl (.inl rfl) (hle.d rfl)⟩) ?_
     refine ob [5, 2, 4, 3, 1, 0] (fun S hle hfr => .inl ⟨w0, st_movet (hle.e rfl) (hle.d rfl)⟩) ?_
     refine ob [6, 5, 2, 4, 3, 1, 0] (fun S hle hfr => .inl ⟨w0, ev_extract (hle.e rfl) rfl (hle.d rfl)⟩) ?_
     refine ob [6, 5, 2, 4, 3, 1, 0] (fun S hle hfr => .inl ⟨w0, ev_extract (hle.e rfl) rfl (hle.d rfl)⟩) ?_
     refine ob [] (fun S hle hfr => .inl ⟨w0, st_alloc (cs := [.val (.slice none 0 0), cI 0, cB false, cI 0, cI 0, cB false]) 4 (hfr _ (List.mem_singleton.2 rfl)) rfl rfl rfl (hle.d rfl)⟩) ?_
     exact trivial
    case hk1x => rfl
    case hf1x => rfl
    case hr1x =>
     refine s_st [_, _, _, _, _, _] ?_
     refine s_sa ?_
     refine aops_nil ?_
     exact wk
    case hl1x =>
     refine s_st [_, _, _, _, _, _] ?_
     refine s_ex ?_
     refine s_sa ?_
     refine aops_nil ?_
     exact wk
  refine aw_seq (aw_seq (aw_region (s_mv ?_)))
  refine s_cm ?_
  refine aops_nil ?_
  refine aw_cond rfl (fun c7 => ?_) (fun c7 => ?_)
  · replace h := Md.cond_t h c7
    refine aw_seq (aw_region (aops_step1 rfl (ev_build' (out := [_, _, _, _, _, _, _, _, _, _, _, _, _, _, _, _]) rfl rfl rfl rfl rfl) (s_mv ?_)))
    refine s_st [_, _, _, _, _, _, _, _, _, _, _, _, _, _, _, _] ?_
    refine s_sa ?_
    refine aops_nil ?_
    cases Option.some.inj h
    exact aw_ret ⟨rfl, rv (rn (.cons (va [_, _, _, _, _, _, _, _, _, _, _, _, _, _, _, _]) (.cons o1 .nil)))⟩
  replace h := Md.cond_f h c7
  refine aw_skip (aw_seq (aw_region (s_ls [_, _, _, _, _, _] ?_)))
  refine s_fd ?_
  refine aops_step1 rfl (ev_index_arr rfl rfl rfl rfl rfl) (s_st [_, _, _, _, _, _, _, _, _, _, _, _, _, _, _, _] ?_)
  refine aops_nil (aw_seq (aw_region (s_ls [_, _, _, _, _, _, _, _, _, _, _, _, _, _, _, _] ?_)))
  refine s_st [_, _, _, _, _, _, _, _, _, _, _, _, _, _, _, _] ?_
  refine s_sa ?_
  refine aops_nil ?_
  cases Option.some.inj h
  exact aw_ret ⟨rfl, rv (rn (.cons (va [_, _, _, _, _, _, _, _, _, _, _, _, _, _, _, _]) (.cons o1 .nil)))⟩
set_option maxHeartbeats 2000000 in
theorem store_number_fn (k : Nat) (a0 : Int) (r : Bool) (h : store_number k a0 = some r) : FnC Try.prog 76 [vI a0] [] (Det (vB r) []) := by
  unfold store_number at h
  refine fn_intro' 9 Try.func76 rfl rfl rfl (aw_seq (aw_region (s_sa ?_)))
  refine aops_nil (aw_seq (aw_region (s_mv ?_)))
  refine s_cm ?_
  refine s_mv ?_
  refine aops_mid 3 (⟨9, [], [(2, vB false), (8, vB ((decide (a0 ≥ 0)) && (decide (a0 ≤ 1099511627776))))], []⟩ : ASt) ?_ ?_
  · rcases Md.bool_or ((decide (a0 ≥ 0))) with q1 | q1
    · skip
      refine y_mv q1 ?_
      refine y_cm q1 ?_
      refine s_py q1 ?_
      refine aops_nil ?_
      exact wq q1
    iterate 2 refine np q1 ?_
    refine s_pn q1 ?_
    refine aops_nil ?_
    exact wq q1
  refine s_sa ?_
  refine aops_nil ?_
  cases Option.some.inj h
  exact aw_ret ⟨rfl, rv r1⟩
set_option maxHeartbeats 2000000 in
theorem store_parseHeader_fn (k : Nat) (a0 : List UInt8) (r : Int × Int × (List UInt8) × Bool) (h : store_parseHeader k a0 = some r) : FnC Try.prog 89 [.one (CV.ls byC a0)] [] (Det (.tup [vI r.1, vI r.2.1, .one (CV.ls byC r.2.2.1), vB r.2.2.2]) []) := by
  unfold store_parseHeader at h
  refine fn_intro' 51 Try.func89 rfl rfl rfl (aw_seq (aw_region ?_))
  iterate 4 refine s_sa ?_
  refine aops_nil (aw_seq (aw_region (aops_step1 rfl (st_alloc (cs := [.val (.int .u64 0), .val (.int .u64 0), .val (.int .u64 0)]) 0 rfl rfl rfl rfl rfl) (aops_nil ?_))))
  refine aw_seq (aw_seq (aw_region (s_mv ?_)))
  refine aops_nil (aw_block (aw_loop_start (awl_round (aw_seq (aw_region (aops_step1 rfl (ev_cmp (b := true) rfl rfl rfl rfl) (aops_nil (aw_seq (aw_yes rfl (rfl) (aw_skip (aw_seq ?_)))))))))))
  refine aw_block (aw_seq (aw_region (s_mv ?_)))
  refine s_sa ?_
  refine aops_nil (aw_seq (aw_region (s_mv ?_)))
  obtain ⟨x1, hx1, h⟩ := Md.bind_s h
  refine aops_step1 rfl (ev_call_v (wire_Uint_fn k a0 x1 hx1) rfl [] ai rfl rfl rfl (.inl rfl) rfl) (s_mt ?_)
  iterate 3 refine s_ex ?_
  iterate 3 refine s_sa ?_
  refine aops_nil (aw_seq (aw_seq (aw_region (s_mv ?_))))
  refine s_cm ?_
  refine s_mv ?_
  refine aops_mid 7 (⟨51, [], [(0, .one (CV.ls byC a0)), (6, .one (.ptr 0 0)), (7, vI 0), (8, .one (.val (.int .u64 (x1.1.toNat : Int)))), (9, vI x1.2.1), (11, vI 0), (29, vB ((x1.2.2 != 0) || (decide ((x1.1.toNat : Int) > 1099511627776))))], [(0, some (.box [.val (.int .u64 0), .val (.int .u64 0), .val (.int .u64 0)]))]⟩ : ASt) ?_ ?_
  · rcases Md.bool_or ((x1.2.2 != 0)) with q2 | q2
    · skip
      iterate 3 refine np q2 ?_
      refine aops_und rfl rfl rfl rfl rfl (aops_und rfl rfl rfl rfl rfl (np q2 ?_))
      refine s_py q2 ?_
      refine aops_nil ?_
      exact wq q2
    refine y_mv q2 ?_
    refine aops_yes rfl rfl rfl rfl q2 (ev_cmp (b := true) rfl rfl rfl rfl) (y_mv q2 ?_)
    refine aops_yes rfl rfl rfl rfl rfl (st_move rfl rfl) (aops_yes rfl rfl rfl rfl rfl (ev_cmp rfl rfl rfl rfl) ?_)
    refine aops_yes rfl rfl rfl rfl q2 (st_pick_yes rfl (by first | rfl | exact rfl) rfl rfl) (s_pn q2 ?_)
    refine aops_nil ?_
    exact wq q2
  refine aops_nil ?_
  refine aw_cond rfl (fun c3 => ?_) (fun c3 => ?_)
  · replace h := Md.cond_t h c3
    refine aw_seq (aw_region ?_)
    iterate 4 refine s_sa ?_
    refine aops_nil ?_
    cases Option.some.inj h
    exact aw_ret ⟨rfl, rv (rn (.cons o1 (.cons o1 (.cons o1 (.cons o1 .nil)))))⟩
  replace h := Md.cond_f h c3
  refine aw_skip ?_
  obtain ⟨g4, h⟩ := Md.ifp_s h
  obtain ⟨g5, h⟩ := Md.ifp_s h
  apply aw_draw_stores 7 [(6, [5, 1, 0], 0, [.val (.int .u64 (x1.1.toNat : Int)), .val (.int .u64 0), .val (.int .u64 0)])] ((⟨[], vI 0⟩ : Add) :: ⟨[], .one (.val (.int .u64 (x1.1.toNat : Int)))⟩ :: ⟨[], .one (CV.ls byC a0)⟩ :: ⟨[], vI x1.2.1⟩ :: ⟨[], .one (CV.ls byC (a0.drop ((x1.2.1).toNat)))⟩ :: ⟨[], .one (.ptr 0 _)⟩ :: ⟨[], .one .any⟩ :: []) (by decide) rfl ?hk2x ?hf2x ?ho2x ?hv2x ?hr2x
  case ho2x =>
   refine ⟨.inr ⟨[], [], (by decide +kernel), (by decide +kernel), ⟨?_, .inl rfl⟩⟩, ?_⟩
   · refine .inr (.inr fun S hle hfr => ?_)
     exact .inl ⟨w0, st_move (hle.e rfl) (hle.d rfl)⟩
   refine ⟨.inr ⟨[], [], (by decide +kernel), (by decide +kernel), ⟨?_, .inl rfl⟩⟩, ?_⟩
   · refine .inr (.inr fun S hle hfr => ?_)
     exact .inl ⟨w0, st_move (hle.e rfl) (hle.d rfl)⟩
   refine ⟨.inr ⟨[], [], (by decide +kernel), (by decide +kernel), ⟨?_, ?_⟩⟩, ?_⟩
   · refine .inr (.inr fun S hle hfr => ?_)
     exact .inl ⟨w0, st_move (hle.e rfl) (hle.d rfl)⟩
   · refine .inr fun S hle hfr => ?_
     exact .inl ⟨w0, st_move (hle.e rfl) (hle.d rfl)⟩
   refine ⟨.inr ⟨[], [], (by decide +kernel), (by decide +kernel), ⟨?_, ?_⟩⟩, ?_⟩
   · refine .inr (.inr fun S hle hfr => ?_)
     exact .inl ⟨w0, st_move (hle.e rfl) (hle.d rfl)⟩
   · refine .inr fun S hle hfr => ?_
     exact .inl ⟨w0, st_move (hle.e rfl) (hle.d rfl)⟩
   refine ⟨.inr ⟨2 :: 3 :: [], [], (by decide +kernel), (by decide +kernel), ⟨?_, ?_⟩⟩, ?_⟩
   · refine .inr (.inr fun S hle hfr => ?_)
     exact .inl ⟨w0, st_cut_lo (f := byC) (fun _ => rfl) (hle.e rfl) ⟨_, _, (hle.e rfl), (Md.nn_eq g4)⟩ g5 (hle.d rfl)⟩
   · refine .inr fun S hle hfr => ?_
     exact .inl ⟨w0, st_cut_lo (f := byC) (fun _ => rfl) (hle.e rfl) ⟨_, _, (hle.e rfl), (Md.nn_eq g4)⟩ g5 (hle.d rfl)⟩
   refine ⟨.inr ⟨0 :: 1 :: [], [], (by decide +kernel), (by decide +kernel), ⟨?_, .inl rfl⟩⟩, ?_⟩
   · refine .inr (.inr fun S hle hfr => ?_)
     exact .inl ⟨w0, ev_index_arr (hle.e rfl) (hle.e rfl) rfl rfl (hle.d rfl)⟩
   refine ⟨.inl rfl, ?_⟩
   exact trivial
  case hv2x =>
   refine ⟨⟨rfl, rfl, (by decide +kernel), rfl, rfl, _, _, rfl, rfl, rfl, fun S hle => st_store (cs' := [_, _, _]) (hle.e rfl) (hle.heap _ _ rfl) (hle.e rfl) rfl rfl rfl rfl (hle.d rfl) rfl⟩, ?_⟩
   exact trivial
  case hk2x => rfl
  case hf2x => rfl
  refine s_sa ?_
  refine aops_nil (aw_region (aops_step1 rfl (ev_add (q := 1) rfl rfl rfl (by decide)) (s_mv ?_)))
  refine aops_nil (awl_round (aw_seq (aw_region (aops_step1 rfl (ev_cmp (b := true) rfl rfl rfl rfl) (aops_nil (aw_seq (aw_yes rfl (rfl) (aw_skip (aw_seq (aw_block (aw_seq (aw_region (s_mv ?_)))))))))))))
  refine s_sa ?_
  refine aops_nil (aw_seq (aw_region (s_mv ?_)))
  obtain ⟨x6, hx6, h⟩ := Md.bind_s h
  refine aops_step1 rfl (ev_call_v (wire_Uint_fn k (a0.drop ((x1.2.1).toNat)) x6 hx6) rfl [] ai rfl rfl rfl (.inl rfl) rfl) (s_mt ?_)
  iterate 3 refine s_ex ?_
  iterate 3 refine s_sa ?_
  refine aops_nil (aw_seq (aw_seq (aw_region (s_mv ?_))))
  refine s_cm ?_
  refine s_mv ?_
  refine aops_mid 7 (⟨51, [], [(0, .one (CV.ls byC (a0.drop ((x1.2.1).toNat)))), (6, .one (.ptr 0 0)), (7, vI 1), (8, .one (.val (.int .u64 (x6.1.toNat : Int)))), (9, vI x6.2.1), (11, vI 1), (29, vB ((x6.2.2 != 0) || (decide ((x6.1.toNat : Int) > 1099511627776))))], [(0, some (.box [.val (.int .u64 (x1.1.toNat : Int)), .val (.int .u64 0), .val (.int .u64 0)]))]⟩ : ASt) ?_ ?_
  · rcases Md.bool_or ((x6.2.2 != 0)) with q7 | q7
    · skip
      iterate 3 refine np q7 ?_
      refine aops_und rfl rfl rfl rfl rfl (aops_und rfl rfl rfl rfl rfl (np q7 ?_))
      refine s_py q7 ?_
      refine aops_nil ?_
      exact wq q7
    refine y_mv q7 ?_
    refine aops_yes rfl rfl rfl rfl q7 (ev_cmp (b := true) rfl rfl rfl rfl) (y_mv q7 ?_)
    refine aops_yes rfl rfl rfl rfl rfl (st_move rfl rfl) (aops_yes rfl rfl rfl rfl rfl (ev_cmp rfl rfl rfl rfl) ?_)
    refine aops_yes rfl rfl rfl rfl q7 (st_pick_yes rfl (by first | rfl | exact rfl) rfl rfl) (s_pn q7 ?_)
    refine aops_nil ?_
    exact wq q7
  refine aops_nil ?_
  refine aw_cond rfl (fun c8 => ?_) (fun c8 => ?_)
  · replace h := Md.cond_t h c8
    refine aw_seq (aw_region ?_)
    iterate 4 refine s_sa ?_
    refine aops_nil ?_
    cases Option.some.inj h
    exact aw_ret ⟨rfl, rv (rn (.cons o1 (.cons o1 (.cons o1 (.cons o1 .nil)))))⟩
  replace h := Md.cond_f h c8
  refine aw_skip ?_
  obtain ⟨g9, h⟩ := Md.ifp_s h
  obtain ⟨g10, h⟩ := Md.ifp_s h
  apply aw_draw_stores 7 [(6, [5, 1, 0], 0, [.val (.int .u64 (x1.1.toNat : Int)), .val (.int .u64 (x6.1.toNat : Int)), .val (.int .u64 0)])] ((⟨[], vI 1⟩ : Add) :: ⟨[], .one (.val (.int .u64 (x6.1.toNat : Int)))⟩ :: ⟨[], .one (CV.ls byC (a0.drop ((x1.2.1).toNat)))⟩ :: ⟨[], vI x6.2.1⟩ :: ⟨[], .one (CV.ls byC ((a0.drop ((x1.2.1).toNat)).drop ((x6.2.1).toNat)))⟩ :: ⟨[], .one (.ptr 0 _)⟩ :: ⟨[], .one .any⟩ :: []) (by decide) rfl ?hk4x ?hf4x ?ho4x ?hv4x ?hr4x
  case ho4x =>
   refine ⟨.inr ⟨[], [], (by decide +kernel), (by decide +kernel), ⟨?_, .inl rfl⟩⟩, ?_⟩
   · refine .inr (.inr fun S hle hfr => ?_)
     exact .inl ⟨w0, st_move (hle.e rfl) (hle.d rfl)⟩
   refine ⟨.inr ⟨[], [], (by decide +kernel), (by decide +kernel), ⟨?_, .inl rfl⟩⟩, ?_⟩
   · refine .inr (.inr fun S hle hfr => ?_)
     exact .inl ⟨w0, st_move (hle.e rfl) (hle.d rfl)⟩
   refine ⟨.inr ⟨[], [], (by decide +kernel), (by decide +kernel), ⟨?_, ?_⟩⟩, ?_⟩
   · refine .inr (.inr fun S hle hfr => ?_)
     exact .inl ⟨w0, st_move (hle.e rfl) (hle.d rfl)⟩
   · refine .inr fun S hle hfr => ?_
     exact .inl ⟨w0, st_move (hle.e rfl) (hle.d rfl)⟩
   refine ⟨.inr ⟨[], [], (by decide +kernel), (by decide +kernel), ⟨?_, ?_⟩⟩, ?_⟩
   · refine .inr (.inr fun S hle hfr => ?_)
     exact .inl ⟨w0, st_move (hle.e rfl) (hle.d rfl)⟩
   · refine .inr fun S hle hfr => ?_
     exact .inl ⟨w0, st_move (hle.e rfl) (hle.d rfl)⟩
   refine ⟨.inr ⟨2 :: 3 :: [], [], (by decide +kernel), (by decide +kernel), ⟨?_, ?_⟩⟩, ?_⟩
   · refine .inr (.inr fun S hle hfr => ?_)
     exact .inl ⟨w0, st_cut_lo (f := byC) (fun _ => rfl) (hle.e rfl) ⟨_, _, (hle.e rfl), (Md.nn_eq g9)⟩ g10 (hle.d rfl)⟩
   · refine .inr fun S hle hfr => ?_
     exact .inl ⟨w0, st_cut_lo (f := byC) (fun _ => rfl) (hle.e rfl) ⟨_, _, (hle.e rfl), (Md.nn_eq g9)⟩ g10 (hle.d rfl)⟩
   refine ⟨.inr ⟨0 :: 1 :: [], [], (by decide +kernel), (by decide +kernel), ⟨?_, .inl rfl⟩⟩, ?_⟩
   · refine .inr (.inr fun S hle hfr => ?_)
     exact .inl ⟨w0, ev_index_arr (hle.e rfl) (hle.e rfl) rfl rfl (hle.d rfl)⟩
   refine ⟨.inl rfl, ?_⟩
   exact trivial
  case hv4x =>
   refine ⟨⟨rfl, rfl, (by decide +kernel), rfl, rfl, _, _, rfl, rfl, rfl, fun S hle => st_store (cs' := [_, _, _]) (hle.e rfl) (hle.heap _ _ rfl) (hle.e rfl) rfl rfl rfl rfl (hle.d rfl) rfl⟩, ?_⟩
   exact trivial
  case hk4x => rfl
  case hf4x => rfl
  refine s_sa ?_
  refine aops_nil (aw_region (aops_step1 rfl (ev_add (q := 2) rfl rfl rfl (by decide)) (s_mv ?_)))
  refine aops_nil (awl_round (aw_seq (aw_region (aops_step1 rfl (ev_cmp (b := true) rfl rfl rfl rfl) (aops_nil (aw_seq (aw_yes rfl (rfl) (aw_skip (aw_seq (aw_block (aw_seq (aw_region (s_mv ?_)))))))))))))
  refine s_sa ?_
  refine aops_nil (aw_seq (aw_region (s_mv ?_)))
  obtain ⟨x11, hx11, h⟩ := Md.bind_s h
  refine aops_step1 rfl (ev_call_v (wire_Uint_fn k ((a0.drop ((x1.2.1).toNat)).drop ((x6.2.1).toNat)) x11 hx11) rfl [] ai rfl rfl rfl (.inl rfl) rfl) (s_mt ?_)
  iterate 3 refine s_ex ?_
  iterate 3 refine s_sa ?_
  refine aops_nil (aw_seq (aw_seq (aw_region (s_mv ?_))))
  refine s_cm ?_
  refine s_mv ?_
  refine aops_mid 7 (⟨51, [], [(0, .one (CV.ls byC ((a0.drop ((x1.2.1).toNat)).drop ((x6.2.1).toNat)))), (6, .one (.ptr 0 0)), (7, vI 2), (8, .one (.val (.int .u64 (x11.1.toNat : Int)))), (9, vI x11.2.1), (11, vI 2), (29, vB ((x11.2.2 != 0) && true))], [(0, some (.box [.val (.int .u64 (x1.1.toNat : Int)), .val (.int .u64 (x6.1.toNat : Int)), .val (.int .u64 0)]))]⟩ : ASt) ?_ ?_
  · rcases Md.bool_or ((x11.2.2 != 0)) with q12 | q12
    · skip
      iterate 3 refine np q12 ?_
      refine aops_und rfl rfl rfl rfl rfl (aops_und rfl rfl rfl rfl rfl (np q12 ?_))
      refine s_py q12 ?_
      refine aops_nil ?_
      exact wq q12
    refine y_mv q12 ?_
    refine aops_yes rfl rfl rfl rfl q12 (ev_cmp (b := false) rfl rfl rfl rfl) (y_mv q12 ?_)
    refine aops_no rfl rfl rfl rfl rfl (by decide) (aops_no rfl rfl rfl rfl rfl (by decide) ?_)
    refine aops_yes rfl rfl rfl rfl q12 (st_pick_no rfl (by first | rfl | exact rfl) rfl rfl) (s_pn q12 ?_)
    refine aops_nil ?_
    exact wq q12
  refine aops_nil ?_
  refine aw_cond rfl (fun c13 => ?_) (fun c13 => ?_)
  · replace h := Md.cond_t h c13
    refine aw_seq (aw_region ?_)
    iterate 4 refine s_sa ?_
    refine aops_nil ?_
    cases Option.some.inj h
    exact aw_ret ⟨rfl, rv (rn (.cons o1 (.cons o1 (.cons o1 (.cons o1 .nil)))))⟩
  replace h := Md.cond_f h c13
  refine aw_skip ?_
  obtain ⟨g14, h⟩ := Md.ifp_s h
  obtain ⟨g15, h⟩ := Md.ifp_s h
  apply aw_draw_stores 7 [(6, [5, 1, 0], 0, [.val (.int .u64 (x1.1.toNat : Int)), .val (.int .u64 (x6.1.toNat : Int)), .val (.int .u64 (x11.1.toNat : Int))])] ((⟨[], vI 2⟩ : Add) :: ⟨[], .one (.val (.int .u64 (x11.1.toNat : Int)))⟩ :: ⟨[], .one (CV.ls byC ((a0.drop ((x1.2.1).toNat)).drop ((x6.2.1).toNat)))⟩ :: ⟨[], vI x11.2.1⟩ :: ⟨[], .one (CV.ls byC (((a0.drop ((x1.2.1).toNat)).drop ((x6.2.1).toNat)).drop ((x11.2.1).toNat)))⟩ :: ⟨[], .one (.ptr 0 _)⟩ :: ⟨[], .one .any⟩ :: []) (by decide) rfl ?hk6x ?hf6x ?ho6x ?hv6x ?hr6x
  case ho6x =>
   refine ⟨.inr ⟨[], [], (by decide +kernel), (by decide +kernel), ⟨?_, .inl rfl⟩⟩, ?_⟩
   · refine .inr (.inr fun S hle hfr => ?_)
     exact .inl ⟨w0, st_move (hle.e rfl) (hle.d rfl)⟩
   refine ⟨.inr ⟨[], [], (by decide +kernel), (by decide +kernel), ⟨?_, .inl rfl⟩⟩, ?_⟩
   · refine .inr (.inr fun S hle hfr => ?_)
     exact .inl ⟨w0, st_move (hle.e rfl) (hle.d rfl)⟩
   refine ⟨.inr ⟨[], [], (by decide +kernel), (by decide +kernel), ⟨?_, ?_⟩⟩, ?_⟩
   · refine .inr (.inr fun S hle hfr => ?_)
     exact .inl ⟨w0, st_move (hle.e rfl) (hle.d rfl)⟩
   · refine .inr fun S hle hfr => ?_
     exact .inl ⟨w0, st_move (hle.e rfl) (hle.d rfl)⟩
   refine ⟨.inr ⟨[], [], (by decide +kernel), (by decide +kernel), ⟨?_, ?_⟩⟩, ?_⟩
   · refine .inr (.inr fun S hle hfr => ?_)
     exact .inl ⟨w0, st_move (hle.e rfl) (hle.d rfl)⟩
   · refine .inr fun S hle hfr => ?_
     exact .inl ⟨w0, st_move (hle.e rfl) (hle.d rfl)⟩
   refine ⟨.inr ⟨2 :: 3 :: [], [], (by decide +kernel), (by decide +kernel), ⟨?_, ?_⟩⟩, ?_⟩
   · refine .inr (.inr fun S hle hfr => ?_)
     exact .inl ⟨w0, st_cut_lo (f := byC) (fun _ => rfl) (hle.e rfl) ⟨_, _, (hle.e rfl), (Md.nn_eq g14)⟩ g15 (hle.d rfl)⟩
   · refine .inr fun S hle hfr => ?_
     exact .inl ⟨w0, st_cut_lo (f := byC) (fun _ => rfl) (hle.e rfl) ⟨_, _, (hle.e rfl), (Md.nn_eq g14)⟩ g15 (hle.d rfl)⟩
   refine ⟨.inr ⟨0 :: 1 :: [], [], (by decide +kernel), (by decide +kernel), ⟨?_, .inl rfl⟩⟩, ?_⟩
   · refine .inr (.inr fun S hle hfr => ?_)
     exact .inl ⟨w0, ev_index_arr (hle.e rfl) (hle.e rfl) rfl rfl (hle.d rfl)⟩
   refine ⟨.inl rfl, ?_⟩
   exact trivial
  case hv6x =>
   refine ⟨⟨rfl, rfl, (by decide +kernel), rfl, rfl, _, _, rfl, rfl, rfl, fun S hle => st_store (cs' := [_, _, _]) (hle.e rfl) (hle.heap _ _ rfl) (hle.e rfl) rfl rfl rfl rfl (hle.d rfl) rfl⟩, ?_⟩
   exact trivial
  case hk6x => rfl
  case hf6x => rfl
  refine s_sa ?_
  refine aops_nil (aw_region (aops_step1 rfl (ev_add (q := 3) rfl rfl rfl (by decide)) (s_mv ?_)))
  refine aops_nil (awl_round (aw_seq (aw_region (aops_step1 rfl (ev_cmp (b := false) rfl rfl rfl rfl) (aops_nil (aw_seq (aw_no rfl (rfl) (aw_exit (aw_seq (aw_seq (aw_region ?_)))))))))))
  refine aops_step1 rfl (ev_index_arr rfl rfl rfl rfl rfl) (s_ld ?_)
  refine s_mv ?_
  refine s_ln ?_
  refine aops_step1 rfl (st_conv_int rfl rfl Try.underlying3 Try.underlying109 (Md.ofNat_u64 ((((a0.drop ((x1.2.1).toNat)).drop ((x6.2.1).toNat)).drop ((x11.2.1).toNat)).length))) (s_cm ?_)
  refine aops_nil ?_
  refine aw_cond rfl (fun c16 => ?_) (fun c16 => ?_)
  · replace h := Md.cond_t h c16
    refine aw_seq (aw_region ?_)
    iterate 4 refine s_sa ?_
    refine aops_nil ?_
    cases Option.some.inj h
    exact aw_ret ⟨rfl, rv (rn (.cons o1 (.cons o1 (.cons o1 (.cons o1 .nil)))))⟩
  replace h := Md.cond_f h c16
  refine aw_skip ?_
  obtain ⟨g17, h⟩ := Md.ifp_s h
  refine aw_seq ?_
  apply aw_draw 9 ((⟨[], .one (.ptr 0 _)⟩ : Add) :: ⟨[], .one (.val (.int .u64 (x1.1.toNat : Int)))⟩ :: ⟨[], vI (Md.W (x1.1.toNat : Int))⟩ :: ⟨[], .one (.ptr 0 _)⟩ :: ⟨[], .one (.val (.int .u64 (x6.1.toNat : Int)))⟩ :: ⟨[], vI (Md.W (x6.1.toNat : Int))⟩ :: ⟨[], .one (CV.ls byC (((a0.drop ((x1.2.1).toNat)).drop ((x6.2.1).toNat)).drop ((x11.2.1).toNat)))⟩ :: ⟨[], .one (CV.ls byC (((a0.drop ((x1.2.1).toNat)).drop ((x6.2.1).toNat)).drop ((x11.2.1).toNat)))⟩ :: ⟨[], vI (Md.W (x1.1.toNat : Int))⟩ :: []) (by decide) rfl ?hk7x ?hf7x ?ho7x ?hr7x
  case ho7x =>
   refine ob [] (fun S hle hfr => .inl ⟨w0, ev_index_arr (hle.e rfl) (hle.e rfl) rfl rfl (hle.d rfl)⟩) ?_
   refine ob [0] (fun S hle hfr => .inl ⟨w0, ev_load (hle.e rfl) (hle.heap _ _ rfl) rfl (hle.d rfl)⟩) ?_
   refine ob [1, 0] (fun S hle hfr => .inl ⟨w0, st_conv_int (hle.e rfl) (hle.d rfl) Try.underlying109 Try.underlying3 (Md.wrap_W _)⟩) ?_
   refine ob [] (fun S hle hfr => .inl ⟨w0, ev_index_arr (hle.e rfl) (hle.e rfl) rfl rfl (hle.d rfl)⟩) ?_
   refine ob [3] (fun S hle hfr => .inl ⟨w0, ev_load (hle.e rfl) (hle.heap _ _ rfl) rfl (hle.d rfl)⟩) ?_
   refine ob [4, 3] (fun S hle hfr => .inl ⟨w0, st_conv_int (hle.e rfl) (hle.d rfl) Try.underlying109 Try.underlying3 (Md.wrap_W _)⟩) ?_
   refine ob [] (fun S hle hfr => .inl ⟨w0, st_move (hle.e rfl) (hle.d rfl)⟩) ?_
   refine ob [6] (fun S hle hfr => .inl ⟨w0, st_app_nil_z (f := byC) (((a0.drop ((x1.2.1).toNat)).drop ((x6.2.1).toNat)).drop ((x11.2.1).toNat)) (fun _ => rfl) (hle.e rfl) (.inl (hle.e rfl)) (by omega) (by omega) (hle.d rfl)⟩) ?_
   refine ob [2, 7, 0, 1, 6] (fun S hle hfr => .inl ⟨w0, st_assign (hle.e rfl) (hle.d rfl)⟩) ?_
   exact trivial
  case hk7x => rfl
  case hf7x => rfl
  iterate 3 refine s_sa ?_
  refine aops_nil ?_
  cases Option.some.inj h
  exact aw_ret ⟨rfl, rv (rn (.cons o1 (.cons o1 (.cons o1 (.cons o1 .nil)))))⟩
set_option maxHeartbeats 2000000 in
theorem store_read_fn (k : Nat) (a0 : Disk) (r : Int × StoreContents × Int × Bool) (h : store_read k a0 = some r) : FnC Try.prog 73 [.agg (c_Disk a0)] [] (Det (.tup [vI r.1, .agg (c_StoreContents r.2.1), vI r.2.2.1, vB r.2.2.2]) []) := by
  unfold store_read at h
  refine fn_intro' 70 Try.func73 rfl rfl rfl (aw_seq (aw_region (aops_step1 rfl (st_box 0 rfl rfl rfl rfl) (s_sa ?_))))
  refine aops_step1 rfl (st_alloc (cs := [cI 0, .val (.slice none 0 0), .val (.slice none 0 0)]) 1 rfl rfl rfl rfl rfl) ?_
  iterate 2 refine s_sa ?_
  refine aops_nil (aw_seq (aw_region (s_fd ?_)))
  refine s_ld ?_
  obtain ⟨x1, hx1, h⟩ := Md.bind_s h
  refine aops_step1 rfl (st_call_r (r' := .tup [.one (.own 2), vI x1.2]) 2 rfl (journal_Scan_fn k a0.Data x1 hx1) rfl [] ai rfl rfl rfl (.inl rfl) rfl rfl) (s_mt ?_)
  iterate 2 refine s_ex ?_
  iterate 2 refine s_sa ?_
  refine aops_nil (aw_seq (aw_seq (aw_region (s_mv ?_))))
  refine aops_step1 rfl (ev_len_own rfl rfl rfl) (s_cm ?_)
  refine s_mv ?_
  rcases Md.bool_or ((((x1.1.length : Nat) : Int) == 0)) with q2 | q2
  · replace h := Md.cond_t h q2
    iterate 5 refine np q2 ?_
    refine s_py q2 ?_
    refine aops_nil (aw_yes rfl (rfl) (aw_seq (aw_region (aops_step1 rfl (ev_build' (out := [_, _, _]) rfl rfl rfl rfl rfl) (s_sa ?_)))))
    refine s_st [_, _, _] ?_
    iterate 2 refine s_sa ?_
    refine aops_nil ?_
    cases Option.some.inj h
    exact aw_ret ⟨rfl, rv (rn (.cons o1 (.cons (va [_, _, _]) (.cons o1 (.cons o1 .nil)))))⟩
  replace h := Md.cond_f h q2
  refine y_mv q2 ?_
  obtain ⟨g3, h⟩ := Md.ifp_s h
  refine aops_freeze 2 rfl (aops_yes rfl rfl rfl rfl q2 (ev_index_in rfl rfl rfl g3 rfl rfl) (aops_yes rfl rfl rfl rfl q2 (ev_field_in rfl rfl rfl) ?_))
  refine aops_yes rfl rfl rfl rfl q2 (ev_load_in rfl rfl rfl) (y_cm q2 ?_)
  refine s_pn q2 ?_
  refine aops_nil ?_
  refine aw_cond rfl (fun c4 => ?_) (fun c4 => ?_)
  · replace h := Md.cond_t h c4
    refine aw_seq (aw_region (aops_step1 rfl (ev_build' (out := [_, _, _]) rfl rfl rfl rfl rfl) (s_sa ?_)))
    refine s_st [_, _, _] ?_
    iterate 2 refine s_sa ?_
    refine aops_nil ?_
    cases Option.some.inj h
    exact aw_ret ⟨rfl, rv (rn (.cons o1 (.cons (va [_, _, _]) (.cons o1 (.cons o1 .nil)))))⟩
  replace h := Md.cond_f h c4
  refine aw_skip (aw_seq (aw_region (s_mv ?_)))
  obtain ⟨g5, h⟩ := Md.ifp_s h
  refine aops_step1 rfl (ev_index_in rfl rfl rfl g5 rfl rfl) (aops_step1 rfl (ev_field_in rfl rfl rfl) (aops_step1 rfl (ev_load_in rfl rfl rfl) ?_))
  obtain ⟨x6, hx6, h⟩ := Md.bind_s h
  refine aops_step1 rfl (ev_call_v (store_parseHeader_fn k ((x1.1.getD 0 default).Body) x6 hx6) rfl [] ai rfl rfl rfl (.inl rfl) rfl) (s_mt ?_)
  iterate 4 refine s_ex ?_
  refine s_sa ?_
  refine s_fd ?_
  refine s_st [_, _, _] ?_
  refine s_fd ?_
  refine s_st [_, _, _] ?_
  refine s_sa ?_
  refine aops_nil (aw_seq (aw_seq (aw_region (s_mv ?_))))
  refine s_nt ?_
  refine aops_nil ?_
  refine aw_cond rfl (fun c7 => ?_) (fun c7 => ?_)
  · replace h := Md.cond_t h c7
    refine aw_seq (aw_region (aops_step1 rfl (ev_build' (out := [_, _, _]) rfl rfl rfl rfl rfl) (s_sa ?_)))
    refine s_st [_, _, _] ?_
    iterate 2 refine s_sa ?_
    refine aops_nil ?_
    cases Option.some.inj h
    exact aw_ret ⟨rfl, rv (rn (.cons o1 (.cons (va [_, _, _]) (.cons o1 (.cons o1 .nil)))))⟩
  replace h := Md.cond_f h c7
  refine aw_skip (aw_seq (aw_seq (aw_region (s_mv ?_))))
  obtain ⟨g8, h⟩ := Md.ifp_s h
  refine aops_step1 rfl (st_cut_lo (f := c_JournalRecord) (fun _ => rfl) rfl ⟨_, _, rfl, rfl⟩ g8 rfl) (s_ln ?_)
  refine s_mv ?_
  refine aops_nil (aw_block (aw_own_nil_box 1 2 3 24 1 (lsEl c_LU8 []) rfl rfl rfl ?_))
  obtain ⟨o9, ho9, h⟩ := Md.bind_s h
  refine aw_loop_x (ι := {p : Nat × Nat × (List (List UInt8)) // store_read_loop1 k x1 p.1 p.2.1 p.2.2 = some o9}) (fun p => (⟨70, [], [(2, vI x6.1), (3, .one (.ptr 1 0)), (4, vI x1.2), (42, .one (CV.ls c_JournalRecord (x1.1.drop 1))), (43, vI (((x1.1.drop 1).length : Nat) : Int)), (44, vI ((p.1.2.1 : Nat) : Int))], [(1, some (.box [cI x6.2.1, CV.ls byC x6.2.2.1, .own 3])), (3, some (.row 24 1 p.1.2.2.length (lsEl c_LU8 p.1.2.2)))]⟩ : ASt)) (fun p => p.1.1) ⟨(k, 0, ([] : List (List UInt8))), ho9⟩ wk 0 (ε := (List (List UInt8))) (fun x => (⟨70, [], [(2, vI x6.1), (3, .one (.ptr 1 0)), (4, vI x1.2)], [(1, some (.box [cI x6.2.1, CV.ls byC x6.2.2.1, .own 3])), (3, some (.row 24 1 x.length (lsEl c_LU8 x)))]⟩ : ASt)) (fun x => Sum.inl x = o9) (fun _ _ w h => aw_weak w h) ?_ ?_
  · intro x9_0 hI9
    subst hI9
    replace h := Md.onS_l h
    change AW _ _ (⟨70, [], [(2, vI x6.1), (3, .one (.ptr 1 0)), (4, vI x1.2)], [(1, some (.box [cI x6.2.1, CV.ls byC x6.2.2.1, .own 3])), (3, some (.row 24 1 x9_0.length (lsEl c_LU8 x9_0)))]⟩ : ASt) _
    refine aw_seq ?_
    apply aw_draw_stores 13 [(11, [1, 10, 0, 3, 4, 5, 6], 1, [cI x6.2.1, CV.ls byC x6.2.2.1, .own 3])] ((⟨[], vI x6.1⟩ : Add) :: ⟨[], .agg [cI x6.2.1, CV.ls byC x6.2.2.1, .own 3]⟩ :: ⟨[], vI x1.2⟩ :: ⟨[], .one (.ptr 1 _)⟩ :: ⟨[], vI x6.2.1⟩ :: ⟨[], .one (.ptr 1 _)⟩ :: ⟨[], .one (.own 3)⟩ :: ⟨[], vI ((x9_0.length : Nat) : Int)⟩ :: ⟨[], vI (Md.W (1099511627776 - ((x9_0.length : Nat) : Int)))⟩ :: ⟨[], vB (decide (x6.2.1 ≤ (Md.W (1099511627776 - ((x9_0.length : Nat) : Int)))))⟩ :: ⟨[], vI x6.1⟩ :: ⟨[], .one .any⟩ :: ⟨[], vI x1.2⟩ :: []) (by decide) rfl ?hk1x ?hf1x ?ho1x ?hv1x ?hr1x
    case ho1x =>
     refine ⟨.inr ⟨[], [2], (by decide +kernel), (by decide +kernel), ⟨?_, .inl rfl⟩⟩, ?_⟩
     · refine .inr (.inr fun S hle hfr => ?_)
       exact .inl ⟨w0, st_move (hle.e rfl) (hle.d rfl)⟩
     refine ⟨.inr ⟨[], [], (by decide +kernel), (by decide +kernel), ⟨?_, .inl rfl⟩⟩, ?_⟩
     · refine .inr (.inr fun S hle hfr => ?_)
       exact .inl ⟨w0, ev_loads (ds := [_, _, _]) (hle.e rfl) (hle.heap _ _ rfl) rfl rfl (hle.d rfl)⟩
     refine ⟨.inr ⟨[], [4], (by decide +kernel), (by decide +kernel), ⟨?_, ?_⟩⟩, ?_⟩
     · refine .inr (.inr fun S hle hfr => ?_)
       exact .inl ⟨w0, st_move (hle.e rfl) (hle.d rfl)⟩
     · refine .inr fun S hle hfr => ?_
       exact .inl ⟨w0, st_move (hle.e rfl) (hle.d rfl)⟩
     refine ⟨.inr ⟨[], [], (by decide +kernel), (by decide +kernel), ⟨?_, .inl rfl⟩⟩, ?_⟩
     · refine .inr (.inr fun S hle hfr => ?_)
       exact .inl ⟨w0, ev_field (hle.e rfl) rfl (hle.d rfl)⟩
     refine ⟨.inr ⟨3 :: [], [], (by decide +kernel), (by decide +kernel), ⟨?_, .inl rfl⟩⟩, ?_⟩
     · refine .inr (.inr fun S hle hfr => ?_)
       exact .inl ⟨w0, ev_load (hle.e rfl) (hle.heap _ _ rfl) rfl (hle.d rfl)⟩
     refine ⟨.inr ⟨[], [], (by decide +kernel), (by decide +kernel), ⟨?_, .inl rfl⟩⟩, ?_⟩
     · refine .inr (.inr fun S hle hfr => ?_)
       exact .inl ⟨w0, ev_field (hle.e rfl) rfl (hle.d rfl)⟩
     refine ⟨.inr ⟨5 :: [], [], (by decide +kernel), (by decide +kernel), ⟨?_, .inl rfl⟩⟩, ?_⟩
     · refine .inr (.inr fun S hle hfr => ?_)
       exact .inl ⟨w0, ev_load (hle.e rfl) (hle.heap _ _ rfl) rfl (hle.d rfl)⟩
     refine ⟨.inr ⟨6 :: 5 :: [], [], (by decide +kernel), (by decide +kernel), ⟨?_, ?_⟩⟩, ?_⟩
     · refine .inr (.inr fun S hle hfr => ?_)
       exact .inl ⟨w0, ev_len_own (hle.e rfl) (hle.heap _ _ rfl) (hle.d rfl)⟩
     · refine .inr fun S hle hfr => ?_
       exact .inl ⟨w0, ev_len_own (hle.e rfl) (hle.heap _ _ rfl) (hle.d rfl)⟩
     refine ⟨.inr ⟨7 :: 6 :: 5 :: [], [], (by decide +kernel), (by decide +kernel), ⟨?_, ?_⟩⟩, ?_⟩
     · refine .inr (.inr fun S hle hfr => ?_)
       exact .inl ⟨w0, ev_sub (hle.e rfl) (hle.e rfl) (hle.d rfl) (Md.wrap_W _)⟩
     · refine .inr fun S hle hfr => ?_
       exact .inl ⟨w0, ev_sub (hle.e rfl) (hle.e rfl) (hle.d rfl) (Md.wrap_W _)⟩
     refine ⟨.inr ⟨4 :: 8 :: 3 :: 7 :: 6 :: 5 :: [], [], (by decide +kernel), (by decide +kernel), ⟨?_, ?_⟩⟩, ?_⟩
     · refine .inr (.inr fun S hle hfr => ?_)
       exact .inl ⟨w0, ev_cmp (hle.e rfl) (hle.e rfl) (hle.d rfl) rfl⟩
     · refine .inr fun S hle hfr => ?_
       exact .inl ⟨w0, ev_cmp (hle.e rfl) (hle.e rfl) (hle.d rfl) rfl⟩
     refine ⟨.inr ⟨0 :: 3 :: 4 :: 5 :: 6 :: [], [], (by decide +kernel), (by decide +kernel), ⟨?_, .inl rfl⟩⟩, ?_⟩
     · refine .inr (.inr fun S hle hfr => ?_)
       exact .inl ⟨w0, st_assign (hle.e rfl) (hle.d rfl)⟩
     refine ⟨.inl rfl, ?_⟩
     refine ⟨.inr ⟨2 :: 11 :: 0 :: 1 :: 3 :: 4 :: 5 :: 6 :: 10 :: [], [], (by decide +kernel), (by decide +kernel), ⟨.inl rfl, ?_⟩⟩, ?_⟩
     · refine .inr fun S hle hfr => ?_
       exact .inl ⟨w0, st_assign (hle.e rfl) (hle.d rfl)⟩
     exact trivial
    case hv1x =>
     refine ⟨⟨rfl, rfl, (by decide +kernel), rfl, rfl, _, _, rfl, rfl, rfl, fun S hle => st_store (cs' := [_, _, _]) (hle.e rfl) (hle.heap _ _ rfl) (hle.e rfl) rfl rfl rfl rfl (hle.d rfl) rfl⟩, ?_⟩
     exact trivial
    case hk1x => rfl
    case hf1x => rfl
    refine s_sa ?_
    refine aops_nil ?_
    cases Option.some.inj h
    refine aw_freeze 3 rfl ?_
    exact aw_ret ⟨rfl, rv (rn (.cons o1 (.cons (va [_, _, _]) (.cons o1 (.cons o1 .nil)))))⟩
  intro p9
  obtain ⟨⟨n9, s9_0, s9_1⟩, l9⟩ := p9
  change AW _ _ (⟨70, [], [(2, vI x6.1), (3, .one (.ptr 1 0)), (4, vI x1.2), (42, .one (CV.ls c_JournalRecord (x1.1.drop 1))), (43, vI (((x1.1.drop 1).length : Nat) : Int)), (44, vI ((s9_0 : Nat) : Int))], [(1, some (.box [cI x6.2.1, CV.ls byC x6.2.2.1, .own 3])), (3, some (.row 24 1 s9_1.length (lsEl c_LU8 s9_1)))]⟩ : ASt) _
  replace l9 : store_read_loop1 k x1 n9 s9_0 s9_1 = some o9 := l9
  rcases n9 with _ | n9
  · exact absurd (show none = some o9 from l9) nofun
  rw [store_read_loop1] at l9
  refine aw_seq (aw_region (s_cm ?_))
  refine aops_nil (aw_seq ?_)
  refine aw_cond rfl (fun c10 => ?_) (fun c10 => ?_)
  · replace l9 := Md.cond_t l9 c10
    refine aw_skip (aw_seq (aw_block (aw_seq (aw_region ?_))))
    obtain ⟨g11, l9⟩ := Md.ifp_s l9
    refine aops_step1 rfl (ev_index_in rfl rfl rfl g11 rfl rfl) (aops_step1 rfl (ev_loads_in (ds := [_, _]) rfl rfl rfl rfl) ?_)
    refine aops_step1 rfl (st_alloc (cs := [cI 0, .val (.slice none 0 0)]) 4 rfl rfl rfl rfl rfl) (s_st [_, _] ?_)
    refine aops_nil (aw_seq (aw_seq (aw_region (s_fd ?_))))
    refine s_ld ?_
    refine s_cm ?_
    refine aops_nil ?_
    refine aw_cond rfl (fun c12 => ?_) (fun c12 => ?_)
    · replace l9 := Md.cond_t l9 c12
      refine aw_seq (aw_region (aops_step1 rfl (ev_build' (out := [_, _, _]) rfl rfl rfl rfl rfl) (s_sa ?_)))
      refine s_st [_, _, _] ?_
      iterate 2 refine s_sa ?_
      refine aops_nil ?_
      cases Option.some.inj l9
      replace h := Md.onS_r h
      cases Option.some.inj h
      exact aw_ret ⟨rfl, rv (rn (.cons o1 (.cons (va [_, _, _]) (.cons o1 (.cons o1 .nil)))))⟩
    replace l9 := Md.cond_f l9 c12
    refine aw_skip (aw_region (s_fd ?_))
    refine s_ld ?_
    refine s_fd ?_
    refine s_ld ?_
    refine aops_step1 rfl (st_slice_lit (el := lsEl c_LU8 [(((x1.1.drop 1).getD s9_0 default).Body)]) 5 rfl rfl rfl rfl rfl rfl rfl rfl (lit_el c_LU8 1 [(((x1.1.drop 1).getD s9_0 default).Body)] (fun _ => rfl)) rfl) ?_
    obtain ⟨g13, l9⟩ := Md.ifp_s l9
    refine aops_step1 rfl (st_app_ls (f := c_LU8) s9_1 [(((x1.1.drop 1).getD s9_0 default).Body)] (fun _ => rfl) rfl rfl (.inr ⟨_, _, rfl, rfl⟩) (by omega) (by omega) rfl) (s_fd ?_)
    refine s_st [_, _, _] ?_
    refine aops_nil (aw_region ?_)
    obtain ⟨g14, l9⟩ := Md.ifp_s l9
    refine aops_step1 rfl (ev_add rfl rfl rfl (Md.nat_add g14)) (s_mv ?_)
    refine aops_nil ?_
    exact ⟨⟨(n9, (s9_0 + 1), (s9_1 ++ [(((x1.1.drop 1).getD s9_0 default).Body)])), l9⟩, Nat.lt_succ_self _, wk⟩
  replace l9 := Md.cond_f l9 c10
  refine aw_exit ?_
  show ∃ _x : (List (List UInt8)), _ = _ ∧ Weak _ _
  exact ⟨s9_1, Option.some.inj l9, wk⟩
set_option maxHeartbeats 2000000 in
theorem store_Valid_fn (k : Nat) (a0 : Store) (r : Bool) (h : store_Valid k a0 = some r) : FnC Try.prog 55 [.agg (c_Store a0)] [] (Det (vB r) []) := by
  unfold store_Valid at h
  refine fn_intro' 99 Try.func55 rfl rfl rfl (aw_seq (aw_region (aops_step1 rfl (st_box 0 rfl rfl rfl rfl) (s_sa ?_))))
  refine aops_nil (aw_seq (aw_seq (aw_region (s_fd ?_))))
  refine aops_step1 rfl (ev_index_arr rfl rfl rfl rfl rfl) (s_ls [_, _, _, _, _, _] ?_)
  obtain ⟨x1, hx1, h⟩ := Md.bind_s h
  refine aops_step1 rfl (ev_call_v (disk_Valid_fn k a0.Disks.x0 x1 hx1) rfl [] ai rfl rfl rfl (.inl rfl) rfl) (s_nt ?_)
  refine s_mv ?_
  obtain ⟨o2, j2, h⟩ := Md.bind_s h
  refine aops_cut 6 (ε := Bool) (fun x2 => (⟨99, [], [(1, .one (.ptr 0 0)), (18, vB x2)], [(0, some (.box (c_Store a0)))]⟩ : ASt)) (fun x2 => x2 = o2) ?_ ?_
  · intro x2 hI2
    subst hI2
    change AOps _ _ _ (⟨99, [], [(1, .one (.ptr 0 0)), (18, vB x2)], [(0, some (.box (c_Store a0)))]⟩ : ASt) _
    refine s_mv ?_
    refine aops_mid 4 (⟨99, [], [(1, .one (.ptr 0 0)), (23, vB (x2 || (decide (a0.Current < 0))))], [(0, some (.box (c_Store a0)))]⟩ : ASt) ?_ ?_
    · rcases Md.bool_or (x2) with q3 | q3
      · skip
        iterate 3 refine np q3 ?_
        refine s_py q3 ?_
        refine aops_nil ?_
        exact wq q3
      refine y_fd q3 ?_
      refine y_ld q3 ?_
      refine y_cm q3 ?_
      refine s_pn q3 ?_
      refine aops_nil ?_
      exact wq q3
    refine s_mv ?_
    refine aops_mid 4 (⟨99, [], [(1, .one (.ptr 0 0)), (28, vB ((x2 || (decide (a0.Current < 0))) || (decide (a0.Current > 1))))], [(0, some (.box (c_Store a0)))]⟩ : ASt) ?_ ?_
    · rcases Md.bool_or ((x2 || (decide (a0.Current < 0)))) with q4 | q4
      · skip
        iterate 3 refine np q4 ?_
        refine s_py q4 ?_
        refine aops_nil ?_
        exact wq q4
      refine y_fd q4 ?_
      refine y_ld q4 ?_
      refine y_cm q4 ?_
      refine s_pn q4 ?_
      refine aops_nil ?_
      exact wq q4
    refine s_mv ?_
    obtain ⟨o5, j5, h⟩ := Md.bind_s h
    refine aops_cut 5 (ε := Bool) (fun x5 => (⟨99, [], [(1, .one (.ptr 0 0)), (34, vB x5)], [(0, some (.box (c_Store a0)))]⟩ : ASt)) (fun x5 => x5 = o5) ?_ ?_
    · intro x5 hI5
      subst hI5
      change AOps _ _ _ (⟨99, [], [(1, .one (.ptr 0 0)), (34, vB x5)], [(0, some (.box (c_Store a0)))]⟩ : ASt) _
      refine s_mv ?_
      obtain ⟨o6, j6, h⟩ := Md.bind_s h
      refine aops_cut 5 (ε := Bool) (fun x6 => (⟨99, [], [(1, .one (.ptr 0 0)), (40, vB x6)], [(0, some (.box (c_Store a0)))]⟩ : ASt)) (fun x6 => x6 = o6) ?_ ?_
      · intro x6 hI6
        subst hI6
        change AOps _ _ _ (⟨99, [], [(1, .one (.ptr 0 0)), (40, vB x6)], [(0, some (.box (c_Store a0)))]⟩ : ASt) _
        refine s_mv ?_
        obtain ⟨o7, j7, h⟩ := Md.bind_s h
        refine aops_cut 5 (ε := Bool) (fun x7 => (⟨99, [], [(1, .one (.ptr 0 0)), (46, vB x7)], [(0, some (.box (c_Store a0)))]⟩ : ASt)) (fun x7 => x7 = o7) ?_ ?_
        · intro x7 hI7
          subst hI7
          change AOps _ _ _ (⟨99, [], [(1, .one (.ptr 0 0)), (46, vB x7)], [(0, some (.box (c_Store a0)))]⟩ : ASt) _
          refine s_mv ?_
          refine aops_mid 7 (⟨99, [], [(1, .one (.ptr 0 0)), (54, vB (x7 || (decide (a0.Base > (Md.W (1099511627776 - a0.Count))))))], [(0, some (.box (c_Store a0)))]⟩ : ASt) ?_ ?_
          · rcases Md.bool_or (x7) with q8 | q8
            · skip
              iterate 6 refine np q8 ?_
              refine s_py q8 ?_
              refine aops_nil ?_
              exact wq q8
            refine y_fd q8 ?_
            refine y_ld q8 ?_
            refine y_fd q8 ?_
            refine y_ld q8 ?_
            refine aops_yes rfl rfl rfl rfl q8 (ev_sub rfl rfl rfl (Md.wrap_W _)) (y_cm q8 ?_)
            refine s_pn q8 ?_
            refine aops_nil ?_
            exact wq q8
          refine aops_nil ?_
          refine aw_cond rfl (fun c9 => ?_) (fun c9 => ?_)
          · replace h := Md.cond_t h c9
            refine aw_seq (aw_region (s_sa ?_))
            refine aops_nil ?_
            cases Option.some.inj h
            exact aw_ret ⟨rfl, rv r1⟩
          replace h := Md.cond_f h c9
          refine aw_skip (aw_seq (aw_region (s_fd ?_)))
          refine s_ld ?_
          refine s_fd ?_
          rcases Md.bool_or ((decide (a0.Current = 0))) with q10 | q10
          · replace h := Md.cond_t h q10
            refine aops_step1 rfl (ev_index_arr (j := 0) rfl rfl (of_decide_eq_true q10) rfl rfl) (s_ls [_, _, _, _, _, _] ?_)
            obtain ⟨x11, hx11, h⟩ := Md.bind_s h
            refine aops_step1 rfl (ev_call_v (store_read_fn k a0.Disks.x0 x11 hx11) rfl [] ai rfl rfl rfl (.inl rfl) rfl) (s_mt ?_)
            iterate 4 refine s_ex ?_
            refine aops_step1 rfl (st_alloc (cs := [cI 0, .val (.slice none 0 0), .val (.slice none 0 0)]) 1 rfl rfl rfl rfl rfl) (s_sa ?_)
            refine s_st [_, _, _] ?_
            iterate 2 refine s_sa ?_
            refine aops_nil (aw_seq (aw_region ?_))
            iterate 2 refine s_mv ?_
            refine aops_mid 10 (⟨99, [], [(1, .one (.ptr 0 0)), (3, vI x11.1), (4, .one (.ptr 1 0)), (77, vB (x11.2.2.2 && (x11.2.2.1 == ((a0.Disks.x0.Data.length : Nat) : Int))))], [(0, some (.box (c_Store a0))), (1, some (.box (c_StoreContents x11.2.1)))]⟩ : ASt) ?_ ?_
            · rcases Md.bool_or (x11.2.2.2) with q12 | q12
              · skip
                refine y_mv q12 ?_
                refine y_fd q12 ?_
                refine y_ld q12 ?_
                refine y_fd q12 ?_
                refine aops_yes rfl rfl rfl rfl q12 (ev_index_arr (j := 0) rfl rfl (of_decide_eq_true q10) rfl rfl) (y_fd q12 ?_)
                refine y_ld q12 ?_
                refine y_ln q12 ?_
                refine y_cm q12 ?_
                refine s_py q12 ?_
                refine aops_nil ?_
                exact wq q12
              iterate 9 refine np q12 ?_
              refine s_pn q12 ?_
              refine aops_nil ?_
              exact wq q12
            refine s_mv ?_
            refine aops_mid 5 (⟨99, [], [(1, .one (.ptr 0 0)), (4, .one (.ptr 1 0)), (83, vB ((x11.2.2.2 && (x11.2.2.1 == ((a0.Disks.x0.Data.length : Nat) : Int))) && (x11.1 == a0.Number)))], [(0, some (.box (c_Store a0))), (1, some (.box (c_StoreContents x11.2.1)))]⟩ : ASt) ?_ ?_
            · rcases Md.bool_or ((x11.2.2.2 && (x11.2.2.1 == ((a0.Disks.x0.Data.length : Nat) : Int)))) with q13 | q13
              · skip
                refine y_mv q13 ?_
                refine y_fd q13 ?_
                refine y_ld q13 ?_
                refine y_cm q13 ?_
                refine s_py q13 ?_
                refine aops_nil ?_
                exact wq q13
              iterate 4 refine np q13 ?_
              refine s_pn q13 ?_
              refine aops_nil ?_
              exact wq q13
            refine s_mv ?_
            refine aops_mid 6 (⟨99, [], [(1, .one (.ptr 0 0)), (4, .one (.ptr 1 0)), (90, vB (((x11.2.2.2 && (x11.2.2.1 == ((a0.Disks.x0.Data.length : Nat) : Int))) && (x11.1 == a0.Number)) && (x11.2.1.Base == a0.Base)))], [(0, some (.box (c_Store a0))), (1, some (.box (c_StoreContents x11.2.1)))]⟩ : ASt) ?_ ?_
            · rcases Md.bool_or (((x11.2.2.2 && (x11.2.2.1 == ((a0.Disks.x0.Data.length : Nat) : Int))) && (x11.1 == a0.Number))) with q14 | q14
              · skip
                refine y_fd q14 ?_
                refine y_ld q14 ?_
                refine y_fd q14 ?_
                refine y_ld q14 ?_
                refine y_cm q14 ?_
                refine s_py q14 ?_
                refine aops_nil ?_
                exact wq q14
              iterate 5 refine np q14 ?_
              refine s_pn q14 ?_
              refine aops_nil ?_
              exact wq q14
            refine s_mv ?_
            refine aops_mid 7 (⟨99, [], [(98, vB ((((x11.2.2.2 && (x11.2.2.1 == ((a0.Disks.x0.Data.length : Nat) : Int))) && (x11.1 == a0.Number)) && (x11.2.1.Base == a0.Base)) && (((x11.2.1.Entries.length : Nat) : Int) == a0.Count)))], []⟩ : ASt) ?_ ?_
            · rcases Md.bool_or ((((x11.2.2.2 && (x11.2.2.1 == ((a0.Disks.x0.Data.length : Nat) : Int))) && (x11.1 == a0.Number)) && (x11.2.1.Base == a0.Base))) with q15 | q15
              · skip
                refine y_fd q15 ?_
                refine y_ld q15 ?_
                refine y_ln q15 ?_
                refine y_fd q15 ?_
                refine y_ld q15 ?_
                refine y_cm q15 ?_
                refine s_py q15 ?_
                refine aops_nil ?_
                exact wq q15
              iterate 6 refine np q15 ?_
              refine s_pn q15 ?_
              refine aops_nil ?_
              exact wq q15
            refine s_sa ?_
            refine aops_nil ?_
            cases Option.some.inj h
            exact aw_ret ⟨rfl, rv r1⟩
          replace h := Md.cond_f h q10
          obtain ⟨g16, h⟩ := Md.ifp_s h
          refine aops_step1 rfl (ev_index_arr (j := 1) rfl rfl g16 rfl rfl) (s_ls [_, _, _, _, _, _] ?_)
          obtain ⟨x17, hx17, h⟩ := Md.bind_s h
          refine aops_step1 rfl (ev_call_v (store_read_fn k a0.Disks.x1 x17 hx17) rfl [] ai rfl rfl rfl (.inl rfl) rfl) (s_mt ?_)
          iterate 4 refine s_ex ?_
          refine aops_step1 rfl (st_alloc (cs := [cI 0, .val (.slice none 0 0), .val (.slice none 0 0)]) 1 rfl rfl rfl rfl rfl) (s_sa ?_)
          refine s_st [_, _, _] ?_
          iterate 2 refine s_sa ?_
          refine aops_nil (aw_seq (aw_region ?_))
          iterate 2 refine s_mv ?_
          obtain ⟨o18, j18, h⟩ := Md.bind_s h
          refine aops_cut 10 (ε := Bool) (fun x18 => (⟨99, [], [(1, .one (.ptr 0 0)), (3, vI x17.1), (4, .one (.ptr 1 0)), (77, vB x18)], [(0, some (.box (c_Store a0))), (1, some (.box (c_StoreContents x17.2.1)))]⟩ : ASt)) (fun x18 => x18 = o18) ?_ ?_
          · intro x18 hI18
            subst hI18
            change AOps _ _ _ (⟨99, [], [(1, .one (.ptr 0 0)), (3, vI x17.1), (4, .one (.ptr 1 0)), (77, vB x18)], [(0, some (.box (c_Store a0))), (1, some (.box (c_StoreContents x17.2.1)))]⟩ : ASt) _
            refine s_mv ?_
            refine aops_mid 5 (⟨99, [], [(1, .one (.ptr 0 0)), (4, .one (.ptr 1 0)), (83, vB (x18 && (x17.1 == a0.Number)))], [(0, some (.box (c_Store a0))), (1, some (.box (c_StoreContents x17.2.1)))]⟩ : ASt) ?_ ?_
            · rcases Md.bool_or (x18) with q19 | q19
              · skip
                refine y_mv q19 ?_
                refine y_fd q19 ?_
                refine y_ld q19 ?_
                refine y_cm q19 ?_
                refine s_py q19 ?_
                refine aops_nil ?_
                exact wq q19
              iterate 4 refine np q19 ?_
              refine s_pn q19 ?_
              refine aops_nil ?_
              exact wq q19
            refine s_mv ?_
            refine aops_mid 6 (⟨99, [], [(1, .one (.ptr 0 0)), (4, .one (.ptr 1 0)), (90, vB ((x18 && (x17.1 == a0.Number)) && (x17.2.1.Base == a0.Base)))], [(0, some (.box (c_Store a0))), (1, some (.box (c_StoreContents x17.2.1)))]⟩ : ASt) ?_ ?_
            · rcases Md.bool_or ((x18 && (x17.1 == a0.Number))) with q20 | q20
              · skip
                refine y_fd q20 ?_
                refine y_ld q20 ?_
                refine y_fd q20 ?_
                refine y_ld q20 ?_
                refine y_cm q20 ?_
                refine s_py q20 ?_
                refine aops_nil ?_
                exact wq q20
              iterate 5 refine np q20 ?_
              refine s_pn q20 ?_
              refine aops_nil ?_
              exact wq q20
            refine s_mv ?_
            refine aops_mid 7 (⟨99, [], [(98, vB (((x18 && (x17.1 == a0.Number)) && (x17.2.1.Base == a0.Base)) && (((x17.2.1.Entries.length : Nat) : Int) == a0.Count)))], []⟩ : ASt) ?_ ?_
            · rcases Md.bool_or (((x18 && (x17.1 == a0.Number)) && (x17.2.1.Base == a0.Base))) with q21 | q21
              · skip
                refine y_fd q21 ?_
                refine y_ld q21 ?_
                refine y_ln q21 ?_
                refine y_fd q21 ?_
                refine y_ld q21 ?_
                refine y_cm q21 ?_
                refine s_py q21 ?_
                refine aops_nil ?_
                exact wq q21
              iterate 6 refine np q21 ?_
              refine s_pn q21 ?_
              refine aops_nil ?_
              exact wq q21
            refine s_sa ?_
            refine aops_nil ?_
            cases Option.some.inj h
            exact aw_ret ⟨rfl, rv r1⟩
          rcases Md.bool_or (x17.2.2.2) with q18 | q18
          · replace j18 := Md.cond_t j18 q18
            refine y_mv q18 ?_
            refine y_fd q18 ?_
            refine y_ld q18 ?_
            refine y_fd q18 ?_
            obtain ⟨g22, j18⟩ := Md.ifp_s j18
            refine aops_yes rfl rfl rfl rfl q18 (ev_index_arr (j := 1) rfl rfl g22 rfl rfl) (y_fd q18 ?_)
            refine y_ld q18 ?_
            refine y_ln q18 ?_
            refine y_cm q18 ?_
            refine s_py q18 ?_
            refine aops_nil ?_
            show ∃ _x : Bool, _ = _ ∧ Weak _ _
            exact ⟨(x17.2.2.1 == ((a0.Disks.x1.Data.length : Nat) : Int)), Option.some.inj j18, wk⟩
          replace j18 := Md.cond_f j18 q18
          iterate 9 refine np q18 ?_
          refine s_pn q18 ?_
          refine aops_nil ?_
          show ∃ _x : Bool, _ = _ ∧ Weak _ _
          exact ⟨false, Option.some.inj j18, wk⟩
        rcases Md.bool_or (x6) with q7 | q7
        · replace j7 := Md.cond_t j7 q7
          iterate 4 refine np q7 ?_
          refine s_py q7 ?_
          refine aops_nil ?_
          show ∃ _x : Bool, _ = _ ∧ Weak _ _
          exact ⟨true, Option.some.inj j7, wk⟩
        replace j7 := Md.cond_f j7 q7
        refine y_fd q7 ?_
        refine y_ld q7 ?_
        obtain ⟨x23, hx23, j7⟩ := Md.bind_s j7
        refine aops_yes rfl rfl rfl rfl q7 (ev_call_v (store_number_fn k a0.Count x23 hx23) rfl [] ai rfl rfl rfl (.inl rfl) rfl) (y_nt q7 ?_)
        refine s_pn q7 ?_
        refine aops_nil ?_
        show ∃ _x : Bool, _ = _ ∧ Weak _ _
        exact ⟨(!x23), Option.some.inj j7, wk⟩
      rcases Md.bool_or (x5) with q6 | q6
      · replace j6 := Md.cond_t j6 q6
        iterate 4 refine np q6 ?_
        refine s_py q6 ?_
        refine aops_nil ?_
        show ∃ _x : Bool, _ = _ ∧ Weak _ _
        exact ⟨true, Option.some.inj j6, wk⟩
      replace j6 := Md.cond_f j6 q6
      refine y_fd q6 ?_
      refine y_ld q6 ?_
      obtain ⟨x24, hx24, j6⟩ := Md.bind_s j6
      refine aops_yes rfl rfl rfl rfl q6 (ev_call_v (store_number_fn k a0.Base x24 hx24) rfl [] ai rfl rfl rfl (.inl rfl) rfl) (y_nt q6 ?_)
      refine s_pn q6 ?_
      refine aops_nil ?_
      show ∃ _x : Bool, _ = _ ∧ Weak _ _
      exact ⟨(!x24), Option.some.inj j6, wk⟩
    rcases Md.bool_or (((x2 || (decide (a0.Current < 0))) || (decide (a0.Current > 1)))) with q5 | q5
    · replace j5 := Md.cond_t j5 q5
      iterate 4 refine np q5 ?_
      refine s_py q5 ?_
      refine aops_nil ?_
      show ∃ _x : Bool, _ = _ ∧ Weak _ _
      exact ⟨true, Option.some.inj j5, wk⟩
    replace j5 := Md.cond_f j5 q5
    refine y_fd q5 ?_
    refine y_ld q5 ?_
    obtain ⟨x25, hx25, j5⟩ := Md.bind_s j5
    refine aops_yes rfl rfl rfl rfl q5 (ev_call_v (store_number_fn k a0.Number x25 hx25) rfl [] ai rfl rfl rfl (.inl rfl) rfl) (y_nt q5 ?_)
    refine s_pn q5 ?_
    refine aops_nil ?_
    show ∃ _x : Bool, _ = _ ∧ Weak _ _
    exact ⟨(!x25), Option.some.inj j5, wk⟩
  rcases Md.bool_or ((!x1)) with q2 | q2
  · replace j2 := Md.cond_t j2 q2
    iterate 5 refine np q2 ?_
    refine s_py q2 ?_
    refine aops_nil ?_
    show ∃ _x : Bool, _ = _ ∧ Weak _ _
    exact ⟨true, Option.some.inj j2, wk⟩
  replace j2 := Md.cond_f j2 q2
  refine y_fd q2 ?_
  refine aops_yes rfl rfl rfl rfl q2 (ev_index_arr rfl rfl rfl rfl rfl) (aops_yes rfl rfl rfl rfl q2 (ev_loads (ds := [_, _, _, _, _, _]) rfl rfl rfl rfl rfl) ?_)
  obtain ⟨x26, hx26, j2⟩ := Md.bind_s j2
  refine aops_yes rfl rfl rfl rfl q2 (ev_call_v (disk_Valid_fn k a0.Disks.x1 x26 hx26) rfl [] ai rfl rfl rfl (.inl rfl) rfl) (y_nt q2 ?_)
  refine s_pn q2 ?_
  refine aops_nil ?_
  show ∃ _x : Bool, _ = _ ∧ Weak _ _
  exact ⟨(!x26), Option.some.inj j2, wk⟩
set_option maxHeartbeats 2000000 in
theorem store_clone_fn (k : Nat) (a0 : Store) (r : Store) (h : store_clone k a0 = some r) : FnC Try.prog 69 [.agg (c_Store a0)] [] (Det (.agg (c_Store r)) []) := by
  unfold store_clone at h
  refine fn_intro' 19 Try.func69 rfl rfl rfl (aw_seq (aw_region (aops_step1 rfl (st_box 0 rfl rfl rfl rfl) ?_)))
  refine aops_step1 rfl (st_alloc (cs := [.val (.slice none 0 0), cI 0, cB false, cI 0, cI 0, cB false, .val (.slice none 0 0), cI 0, cB false, cI 0, cI 0, cB false, cI 0, cI 0, cI 0, cI 0]) 1 rfl rfl rfl rfl rfl) ?_
  refine aops_nil (aw_seq (aw_seq (aw_region (s_mv ?_))))
  refine aops_nil (aw_block (aw_loop_start (awl_round (aw_seq (aw_region (aops_step1 rfl (ev_cmp (b := true) rfl rfl rfl rfl) (aops_nil (aw_seq (aw_yes rfl (rfl) (aw_skip (aw_seq ?_)))))))))))
  refine aw_block (aw_seq (aw_region (s_mv ?_)))
  refine s_sa ?_
  refine aops_nil (aw_region ?_)
  iterate 2 refine s_mv ?_
  refine s_fd ?_
  refine aops_step1 rfl (ev_index_arr rfl rfl rfl rfl rfl) (s_fd ?_)
  refine s_ld ?_
  obtain ⟨g1, h⟩ := Md.ifp_s h
  refine aops_step1 rfl (st_app_nil_ls (f := byC) 2 a0.Disks.x0.Data (fun _ => rfl) rfl rfl (.inl rfl) (by omega) (by omega) rfl) (s_fd ?_)
  refine aops_step1 rfl (ev_index_arr rfl rfl rfl rfl rfl) (s_fd ?_)
  refine s_st [_, _, _, _, _, _, _, _, _, _, _, _, _, _, _, _] ?_
  refine aops_nil (aw_region (aops_step1 rfl (ev_add (q := 1) rfl rfl rfl (by decide)) (s_mv ?_)))
  refine aops_nil (awl_round (aw_seq (aw_region (aops_step1 rfl (ev_cmp (b := true) rfl rfl rfl rfl) (aops_nil (aw_seq (aw_yes rfl (rfl) (aw_skip (aw_seq (aw_block (aw_seq (aw_region (s_mv ?_)))))))))))))
  refine s_sa ?_
  refine aops_nil (aw_region ?_)
  iterate 2 refine s_mv ?_
  refine s_fd ?_
  refine aops_step1 rfl (ev_index_arr rfl rfl rfl rfl rfl) (s_fd ?_)
  refine s_ld ?_
  obtain ⟨g2, h⟩ := Md.ifp_s h
  refine aops_step1 rfl (st_app_nil_ls (f := byC) 3 a0.Disks.x1.Data (fun _ => rfl) rfl rfl (.inl rfl) (by omega) (by omega) rfl) (s_fd ?_)
  refine aops_step1 rfl (ev_index_arr rfl rfl rfl rfl rfl) (s_fd ?_)
  refine s_st [_, _, _, _, _, _, _, _, _, _, _, _, _, _, _, _] ?_
  refine aops_nil (aw_region (aops_step1 rfl (ev_add (q := 2) rfl rfl rfl (by decide)) (s_mv ?_)))
  refine aops_nil (awl_round (aw_seq (aw_region (aops_step1 rfl (ev_cmp (b := false) rfl rfl rfl rfl) (aops_nil (aw_seq (aw_no rfl (rfl) (aw_exit (aw_seq (aw_region (s_ls [_, _, _, _, _, _, _, _, _, _, _, _, _, _, _, _] ?_)))))))))))
  refine s_st [_, _, _, _, _, _, _, _, _, _, _, _, _, _, _, _] ?_
  refine aops_nil ?_
  cases Option.some.inj h
  refine aw_freeze 2 rfl (aw_freeze 3 rfl ?_)
  exact aw_ret ⟨rfl, rv (rg [_, _, _, _, _, _, _, _, _, _, _, _, _, _, _, _])⟩
set_option maxHeartbeats 2000000 in
theorem store_Put_fn (k : Nat) (a0 : Store) (a1 : List UInt8) (r : Store × Int) (h : store_Put k a0 a1 = some r) : FnC Try.prog 45 [.agg (c_Store a0), .one (CV.ls byC a1)] [] (Det (.tup [.agg (c_Store r.1), vI r.2]) []) := by
  unfold store_Put at h
  refine fn_intro' 51 Try.func45 rfl rfl rfl (aw_seq (aw_region (aops_step1 rfl (st_box 0 rfl rfl rfl rfl) ?_)))
  refine aops_step1 rfl (st_alloc (cs := [.val (.slice none 0 0), cI 0, cB false, cI 0, cI 0, cB false, .val (.slice none 0 0), cI 0, cB false, cI 0, cI 0, cB false, cI 0, cI 0, cI 0, cI 0]) 1 rfl rfl rfl rfl rfl) (s_sa ?_)
  refine aops_nil (aw_seq (aw_seq (aw_region (s_ls [_, _, _, _, _, _, _, _, _, _, _, _, _, _, _, _] ?_))))
  obtain ⟨x1, hx1, h⟩ := Md.bind_s h
  refine aops_step1 rfl (ev_call_v (store_Valid_fn k a0 x1 hx1) rfl [] ai rfl rfl rfl (.inl rfl) rfl) (s_nt ?_)
  refine s_mv ?_
  refine aops_mid 4 (⟨51, [], [(1, .one (CV.ls byC a1)), (2, .one (.ptr 0 0)), (4, .one (.ptr 1 0)), (15, vB ((!x1) || (decide (((a1.length : Nat) : Int) > 6064))))], [(0, some (.box (c_Store a0))), (1, some (.box [.val (.slice none 0 0), cI 0, cB false, cI 0, cI 0, cB false, .val (.slice none 0 0), cI 0, cB false, cI 0, cI 0, cB false, cI 0, cI 0, cI 0, cI 0]))]⟩ : ASt) ?_ ?_
  · rcases Md.bool_or ((!x1)) with q2 | q2
    · skip
      iterate 3 refine np q2 ?_
      refine s_py q2 ?_
      refine aops_nil ?_
      exact wq q2
    refine y_mv q2 ?_
    refine y_ln q2 ?_
    refine y_cm q2 ?_
    refine s_pn q2 ?_
    refine aops_nil ?_
    exact wq q2
  refine s_mv ?_
  refine aops_mid 7 (⟨51, [], [(1, .one (CV.ls byC a1)), (2, .one (.ptr 0 0)), (4, .one (.ptr 1 0)), (23, vB (((!x1) || (decide (((a1.length : Nat) : Int) > 6064))) || ((Md.W (a0.Base + a0.Count)) == 1099511627776)))], [(0, some (.box (c_Store a0))), (1, some (.box [.val (.slice none 0 0), cI 0, cB false, cI 0, cI 0, cB false, .val (.slice none 0 0), cI 0, cB false, cI 0, cI 0, cB false, cI 0, cI 0, cI 0, cI 0]))]⟩ : ASt) ?_ ?_
  · rcases Md.bool_or (((!x1) || (decide (((a1.length : Nat) : Int) > 6064)))) with q3 | q3
    · skip
      iterate 6 refine np q3 ?_
      refine s_py q3 ?_
      refine aops_nil ?_
      exact wq q3
    refine y_fd q3 ?_
    refine y_ld q3 ?_
    refine y_fd q3 ?_
    refine y_ld q3 ?_
    refine aops_yes rfl rfl rfl rfl q3 (ev_add rfl rfl rfl (Md.wrap_W _)) (y_cm q3 ?_)
    refine s_pn q3 ?_
    refine aops_nil ?_
    exact wq q3
  refine aops_nil ?_
  refine aw_cond rfl (fun c4 => ?_) (fun c4 => ?_)
  · replace h := Md.cond_t h c4
    refine aw_seq (aw_region (aops_step1 rfl (ev_build' (out := [_, _, _, _, _, _, _, _, _, _, _, _, _, _, _, _]) rfl rfl rfl rfl rfl) (s_st [_, _, _, _, _, _, _, _, _, _, _, _, _, _, _, _] ?_)))
    refine s_sa ?_
    refine aops_nil ?_
    cases Option.some.inj h
    exact aw_ret ⟨rfl, rv (rn (.cons (va [_, _, _, _, _, _, _, _, _, _, _, _, _, _, _, _]) (.cons o1 .nil)))⟩
  replace h := Md.cond_f h c4
  refine aw_skip (aw_seq (aw_region (s_fd ?_)))
  refine s_ld ?_
  refine s_fd ?_
  rcases Md.bool_or ((decide (a0.Current = 0))) with q5 | q5
  · replace h := Md.cond_t h q5
    refine aops_step1 rfl (ev_index_arr (j := 0) rfl rfl (of_decide_eq_true q5) rfl rfl) (s_ls [_, _, _, _, _, _] ?_)
    refine s_mv ?_
    refine aops_step1 rfl (ev_build' (out := [_, _]) rfl rfl rfl rfl rfl) ?_
    obtain ⟨x6, hx6, h⟩ := Md.bind_s h
    refine aops_step1 rfl (ev_call_v (journal_Append_fn k a0.Disks.x0 (⟨2, a1⟩ : JournalRecord) x6 hx6) rfl [] ai rfl rfl rfl (.inl rfl) rfl) (s_mt ?_)
    iterate 2 refine s_ex ?_
    refine aops_step1 rfl (st_alloc (cs := [.val (.slice none 0 0), cI 0, cB false, cI 0, cI 0, cB false]) 2 rfl rfl rfl rfl rfl) (s_st [_, _, _, _, _, _] ?_)
    refine s_sa ?_
    refine aops_nil (aw_seq (aw_region (s_ls [_, _, _, _, _, _, _, _, _, _, _, _, _, _, _, _] ?_)))
    obtain ⟨x7, hx7, h⟩ := Md.bind_s h
    refine aops_step1 rfl (ev_call_v (store_clone_fn k a0 x7 hx7) rfl [] ai rfl rfl rfl (.inl rfl) rfl) (s_st [_, _, _, _, _, _, _, _, _, _, _, _, _, _, _, _] ?_)
    refine aops_nil (aw_seq (aw_region (s_fd ?_)))
    refine s_ld ?_
    refine s_ls [_, _, _, _, _, _] ?_
    refine s_fd ?_
    rcases Md.bool_or ((decide (x7.Current = 0))) with q8 | q8
    · replace h := Md.cond_t h q8
      refine aops_step1 rfl (ev_index_arr (j := 0) rfl rfl (of_decide_eq_true q8) rfl rfl) (s_st [_, _, _, _, _, _, _, _, _, _, _, _, _, _, _, _] ?_)
      refine aops_nil (aw_seq (aw_seq (aw_region (s_mv ?_))))
      refine s_cm ?_
      refine aops_nil ?_
      refine aw_cond rfl (fun c9 => ?_) (fun c9 => ?_)
      · replace h := Md.cond_t h c9
        refine aw_region (s_fd ?_)
        refine s_ld ?_
        refine aops_step1 rfl (ev_add rfl rfl rfl (Md.wrap_W _)) (s_fd ?_)
        refine s_st [_, _, _, _, _, _, _, _, _, _, _, _, _, _, _, _] ?_
        refine aops_nil (aw_seq (aw_region (s_ls [_, _, _, _, _, _, _, _, _, _, _, _, _, _, _, _] ?_)))
        refine s_mv ?_
        refine s_st [_, _, _, _, _, _, _, _, _, _, _, _, _, _, _, _] ?_
        refine s_sa ?_
        refine aops_nil ?_
        cases Option.some.inj h
        exact aw_ret ⟨rfl, rv (rn (.cons (va [_, _, _, _, _, _, _, _, _, _, _, _, _, _, _, _]) (.cons o1 .nil)))⟩
      replace h := Md.cond_f h c9
      refine aw_skip (aw_seq (aw_region (s_ls [_, _, _, _, _, _, _, _, _, _, _, _, _, _, _, _] ?_)))
      refine s_mv ?_
      refine s_st [_, _, _, _, _, _, _, _, _, _, _, _, _, _, _, _] ?_
      refine s_sa ?_
      refine aops_nil ?_
      cases Option.some.inj h
      exact aw_ret ⟨rfl, rv (rn (.cons (va [_, _, _, _, _, _, _, _, _, _, _, _, _, _, _, _]) (.cons o1 .nil)))⟩
    replace h := Md.cond_f h q8
    obtain ⟨g10, h⟩ := Md.ifp_s h
    refine aops_step1 rfl (ev_index_arr (j := 1) rfl rfl g10 rfl rfl) (s_st [_, _, _, _, _, _, _, _, _, _, _, _, _, _, _, _] ?_)
    refine aops_nil (aw_seq (aw_seq (aw_region (s_mv ?_))))
    refine s_cm ?_
    refine aops_nil ?_
    refine aw_cond rfl (fun c11 => ?_) (fun c11 => ?_)
    · replace h := Md.cond_t h c11
      refine aw_region (s_fd ?_)
      refine s_ld ?_
      refine aops_step1 rfl (ev_add rfl rfl rfl (Md.wrap_W _)) (s_fd ?_)
      refine s_st [_, _, _, _, _, _, _, _, _, _, _, _, _, _, _, _] ?_
      refine aops_nil (aw_seq (aw_region (s_ls [_, _, _, _, _, _, _, _, _, _, _, _, _, _, _, _] ?_)))
      refine s_mv ?_
      refine s_st [_, _, _, _, _, _, _, _, _, _, _, _, _, _, _, _] ?_
      refine s_sa ?_
      refine aops_nil ?_
      cases Option.some.inj h
      exact aw_ret ⟨rfl, rv (rn (.cons (va [_, _, _, _, _, _, _, _, _, _, _, _, _, _, _, _]) (.cons o1 .nil)))⟩
    replace h := Md.cond_f h c11
    refine aw_skip (aw_seq (aw_region (s_ls [_, _, _, _, _, _, _, _, _, _, _, _, _, _, _, _] ?_)))
    refine s_mv ?_
    refine s_st [_, _, _, _, _, _, _, _, _, _, _, _, _, _, _, _] ?_
    refine s_sa ?_
    refine aops_nil ?_
    cases Option.some.inj h
    exact aw_ret ⟨rfl, rv (rn (.cons (va [_, _, _, _, _, _, _, _, _, _, _, _, _, _, _, _]) (.cons o1 .nil)))⟩
  replace h := Md.cond_f h q5
  obtain ⟨g12, h⟩ := Md.ifp_s h
  refine aops_step1 rfl (ev_index_arr (j := 1) rfl rfl g12 rfl rfl) (s_ls [_, _, _, _, _, _] ?_)
  refine s_mv ?_
  refine aops_step1 rfl (ev_build' (out := [_, _]) rfl rfl rfl rfl rfl) ?_
  obtain ⟨x13, hx13, h⟩ := Md.bind_s h
  refine aops_step1 rfl (ev_call_v (journal_Append_fn k a0.Disks.x1 (⟨2, a1⟩ : JournalRecord) x13 hx13) rfl [] ai rfl rfl rfl (.inl rfl) rfl) (s_mt ?_)
  iterate 2 refine s_ex ?_
  refine aops_step1 rfl (st_alloc (cs := [.val (.slice none 0 0), cI 0, cB false, cI 0, cI 0, cB false]) 2 rfl rfl rfl rfl rfl) (s_st [_, _, _, _, _, _] ?_)
  refine s_sa ?_
  refine aops_nil (aw_seq (aw_region (s_ls [_, _, _, _, _, _, _, _, _, _, _, _, _, _, _, _] ?_)))
  obtain ⟨x14, hx14, h⟩ := Md.bind_s h
  refine aops_step1 rfl (ev_call_v (store_clone_fn k a0 x14 hx14) rfl [] ai rfl rfl rfl (.inl rfl) rfl) (s_st [_, _, _, _, _, _, _, _, _, _, _, _, _, _, _, _] ?_)
  refine aops_nil (aw_seq (aw_region (s_fd ?_)))
  refine s_ld ?_
  refine s_ls [_, _, _, _, _, _] ?_
  refine s_fd ?_
  rcases Md.bool_or ((decide (x14.Current = 0))) with q15 | q15
  · replace h := Md.cond_t h q15
    refine aops_step1 rfl (ev_index_arr (j := 0) rfl rfl (of_decide_eq_true q15) rfl rfl) (s_st [_, _, _, _, _, _, _, _, _, _, _, _, _, _, _, _] ?_)
    refine aops_nil (aw_seq (aw_seq (aw_region (s_mv ?_))))
    refine s_cm ?_
    refine aops_nil ?_
    refine aw_cond rfl (fun c16 => ?_) (fun c16 => ?_)
    · replace h := Md.cond_t h c16
      refine aw_region (s_fd ?_)
      refine s_ld ?_
      refine aops_step1 rfl (ev_add rfl rfl rfl (Md.wrap_W _)) (s_fd ?_)
      refine s_st [_, _, _, _, _, _, _, _, _, _, _, _, _, _, _, _] ?_
      refine aops_nil (aw_seq (aw_region (s_ls [_, _, _, _, _, _, _, _, _, _, _, _, _, _, _, _] ?_)))
      refine s_mv ?_
      refine s_st [_, _, _, _, _, _, _, _, _, _, _, _, _, _, _, _] ?_
      refine s_sa ?_
      refine aops_nil ?_
      cases Option.some.inj h
      exact aw_ret ⟨rfl, rv (rn (.cons (va [_, _, _, _, _, _, _, _, _, _, _, _, _, _, _, _]) (.cons o1 .nil)))⟩
    replace h := Md.cond_f h c16
    refine aw_skip (aw_seq (aw_region (s_ls [_, _, _, _, _, _, _, _, _, _, _, _, _, _, _, _] ?_)))
    refine s_mv ?_
    refine s_st [_, _, _, _, _, _, _, _, _, _, _, _, _, _, _, _] ?_
    refine s_sa ?_
    refine aops_nil ?_
    cases Option.some.inj h
    exact aw_ret ⟨rfl, rv (rn (.cons (va [_, _, _, _, _, _, _, _, _, _, _, _, _, _, _, _]) (.cons o1 .nil)))⟩
  replace h := Md.cond_f h q15
  obtain ⟨g17, h⟩ := Md.ifp_s h
  refine aops_step1 rfl (ev_index_arr (j := 1) rfl rfl g17 rfl rfl) (s_st [_, _, _, _, _, _, _, _, _, _, _, _, _, _, _, _] ?_)
  refine aops_nil (aw_seq (aw_seq (aw_region (s_mv ?_))))
  refine s_cm ?_
  refine aops_nil ?_
  refine aw_cond rfl (fun c18 => ?_) (fun c18 => ?_)
  · replace h := Md.cond_t h c18
    refine aw_region (s_fd ?_)
    refine s_ld ?_
    refine aops_step1 rfl (ev_add rfl rfl rfl (Md.wrap_W _)) (s_fd ?_)
    refine s_st [_, _, _, _, _, _, _, _, _, _, _, _, _, _, _, _] ?_
    refine aops_nil (aw_seq (aw_region (s_ls [_, _, _, _, _, _, _, _, _, _, _, _, _, _, _, _] ?_)))
    refine s_mv ?_
    refine s_st [_, _, _, _, _, _, _, _, _, _, _, _, _, _, _, _] ?_
    refine s_sa ?_
    refine aops_nil ?_
    cases Option.some.inj h
    exact aw_ret ⟨rfl, rv (rn (.cons (va [_, _, _, _, _, _, _, _, _, _, _, _, _, _, _, _]) (.cons o1 .nil)))⟩
  replace h := Md.cond_f h c18
  refine aw_skip (aw_seq (aw_region (s_ls [_, _, _, _, _, _, _, _, _, _, _, _, _, _, _, _] ?_)))
  refine s_mv ?_
  refine s_st [_, _, _, _, _, _, _, _, _, _, _, _, _, _, _, _] ?_
  refine s_sa ?_
  refine aops_nil ?_
  cases Option.some.inj h
  exact aw_ret ⟨rfl, rv (rn (.cons (va [_, _, _, _, _, _, _, _, _, _, _, _, _, _, _, _]) (.cons o1 .nil)))⟩
set_option maxHeartbeats 2000000 in
theorem store_Checkpoint_fn (k : Nat) (a0 : Store) (a1 : List UInt8) (r : Store × Int) (h : store_Checkpoint k a0 a1 = some r) : FnC Try.prog 47 [.agg (c_Store a0), .one (CV.ls byC a1)] [] (Det (.tup [.agg (c_Store r.1), vI r.2]) []) := by
  unfold store_Checkpoint at h
  refine fn_intro' 77 Try.func47 rfl rfl rfl (aw_seq (aw_region (aops_step1 rfl (st_box 0 rfl rfl rfl rfl) ?_)))
  refine aops_step1 rfl (st_alloc (cs := [.val (.slice none 0 0), cI 0, cB false, cI 0, cI 0, cB false, .val (.slice none 0 0), cI 0, cB false, cI 0, cI 0, cB false, cI 0, cI 0, cI 0, cI 0]) 1 rfl rfl rfl rfl rfl) (s_sa ?_)
  refine aops_nil (aw_seq (aw_seq (aw_region (s_ls [_, _, _, _, _, _, _, _, _, _, _, _, _, _, _, _] ?_))))
  obtain ⟨x1, hx1, h⟩ := Md.bind_s h
  refine aops_step1 rfl (ev_call_v (store_Valid_fn k a0 x1 hx1) rfl [] ai rfl rfl rfl (.inl rfl) rfl) (s_nt ?_)
  refine s_mv ?_
  refine aops_mid 4 (⟨77, [], [(1, .one (CV.ls byC a1)), (2, .one (.ptr 0 0)), (4, .one (.ptr 1 0)), (17, vB ((!x1) || (a0.Number == 1099511627776)))], [(0, some (.box (c_Store a0))), (1, some (.box [.val (.slice none 0 0), cI 0, cB false, cI 0, cI 0, cB false, .val (.slice none 0 0), cI 0, cB false, cI 0, cI 0, cB false, cI 0, cI 0, cI 0, cI 0]))]⟩ : ASt) ?_ ?_
  · rcases Md.bool_or ((!x1)) with q2 | q2
    · skip
      iterate 3 refine np q2 ?_
      refine s_py q2 ?_
      refine aops_nil ?_
      exact wq q2
    refine y_fd q2 ?_
    refine y_ld q2 ?_
    refine y_cm q2 ?_
    refine s_pn q2 ?_
    refine aops_nil ?_
    exact wq q2
  refine aops_nil ?_
  refine aw_cond rfl (fun c3 => ?_) (fun c3 => ?_)
  · replace h := Md.cond_t h c3
    refine aw_seq (aw_region (aops_step1 rfl (ev_build' (out := [_, _, _, _, _, _, _, _, _, _, _, _, _, _, _, _]) rfl rfl rfl rfl rfl) (s_st [_, _, _, _, _, _, _, _, _, _, _, _, _, _, _, _] ?_)))
    refine s_sa ?_
    refine aops_nil ?_
    cases Option.some.inj h
    exact aw_ret ⟨rfl, rv (rn (.cons (va [_, _, _, _, _, _, _, _, _, _, _, _, _, _, _, _]) (.cons o1 .nil)))⟩
  replace h := Md.cond_f h c3
  refine aw_skip (aw_seq (aw_region (s_fd ?_)))
  refine s_ld ?_
  refine aops_step1 rfl (ev_add rfl rfl rfl (Md.wrap_W _)) (s_fd ?_)
  refine s_ld ?_
  refine s_fd ?_
  refine s_ld ?_
  refine aops_step1 rfl (ev_add rfl rfl rfl (Md.wrap_W _)) (s_mv ?_)
  obtain ⟨x4, hx4, h⟩ := Md.bind_s h
  refine aops_step1 rfl (st_call_r (r' := .one (.own 2)) 2 rfl (store_header_fn k (Md.W (a0.Number + 1)) (Md.W (a0.Base + a0.Count)) a1 x4 hx4) rfl [] ai rfl rfl rfl (.inl rfl) rfl rfl) (s_sa ?_)
  refine aops_nil (aw_seq (aw_seq (aw_region (s_mv ?_))))
  refine aops_step1 rfl (ev_len_own rfl rfl rfl) (s_cm ?_)
  refine aops_nil ?_
  refine aw_cond rfl (fun c5 => ?_) (fun c5 => ?_)
  · replace h := Md.cond_t h c5
    refine aw_seq (aw_region (aops_step1 rfl (ev_build' (out := [_, _, _, _, _, _, _, _, _, _, _, _, _, _, _, _]) rfl rfl rfl rfl rfl) (s_st [_, _, _, _, _, _, _, _, _, _, _, _, _, _, _, _] ?_)))
    refine s_sa ?_
    refine aops_nil ?_
    cases Option.some.inj h
    exact aw_ret ⟨rfl, rv (rn (.cons (va [_, _, _, _, _, _, _, _, _, _, _, _, _, _, _, _]) (.cons o1 .nil)))⟩
  replace h := Md.cond_f h c5
  refine aw_skip (aw_seq (aw_region (s_fd ?_)))
  refine s_ld ?_
  refine aops_step1 rfl (ev_sub rfl rfl rfl (Md.wrap_W _)) (s_sa ?_)
  refine aops_nil (aw_seq (aw_region (s_mv ?_)))
  refine s_fd ?_
  rcases Md.bool_or ((decide ((Md.W (1 - a0.Current)) = 0))) with q6 | q6
  · replace h := Md.cond_t h q6
    refine aops_step1 rfl (ev_index_arr (j := 0) rfl rfl (of_decide_eq_true q6) rfl rfl) (s_ls [_, _, _, _, _, _] ?_)
    obtain ⟨x7, hx7, h⟩ := Md.bind_s h
    refine aops_step1 rfl (ev_call_v (disk_Truncate_fn k a0.Disks.x0 0 x7 hx7) rfl [] ai rfl rfl rfl (.inl rfl) rfl) (s_mt ?_)
    iterate 2 refine s_ex ?_
    refine aops_step1 rfl (st_alloc (cs := [.val (.slice none 0 0), cI 0, cB false, cI 0, cI 0, cB false]) 3 rfl rfl rfl rfl rfl) (s_st [_, _, _, _, _, _] ?_)
    refine s_sa ?_
    refine aops_nil (aw_seq (aw_seq (aw_region (s_mv ?_))))
    refine s_cm ?_
    refine aops_nil ?_
    refine aw_cond rfl (fun c8 => ?_) (fun c8 => ?_)
    · replace h := Md.cond_t h c8
      refine aw_region (s_ls [_, _, _, _, _, _] ?_)
      refine s_mv ?_
      refine aops_step1 rfl (ev_build' (out := [_, _]) rfl rfl rfl rfl rfl) ?_
      obtain ⟨x9, hx9, h⟩ := Md.bind_s h
      refine aops_freeze 2 rfl (aops_step1 rfl (ev_call_v (journal_Append_fn k x7.1 (⟨1, x4⟩ : JournalRecord) x9 hx9) rfl [] ai rfl rfl rfl (.inl rfl) rfl) (s_mt ?_))
      iterate 2 refine s_ex ?_
      refine s_st [_, _, _, _, _, _] ?_
      refine s_sa ?_
      refine aops_nil (aw_seq (aw_region (s_ls [_, _, _, _, _, _, _, _, _, _, _, _, _, _, _, _] ?_)))
      obtain ⟨x10, hx10, h⟩ := Md.bind_s h
      refine aops_step1 rfl (ev_call_v (store_clone_fn k a0 x10 hx10) rfl [] ai rfl rfl rfl (.inl rfl) rfl) (s_st [_, _, _, _, _, _, _, _, _, _, _, _, _, _, _, _] ?_)
      refine aops_nil (aw_seq (aw_region (s_mv ?_)))
      refine s_ls [_, _, _, _, _, _] ?_
      refine s_fd ?_
      refine aops_step1 rfl (ev_index_arr (j := 0) rfl rfl (of_decide_eq_true q6) rfl rfl) (s_st [_, _, _, _, _, _, _, _, _, _, _, _, _, _, _, _] ?_)
      refine aops_nil (aw_seq (aw_seq (aw_region (s_mv ?_))))
      refine s_cm ?_
      refine aops_nil ?_
      refine aw_cond rfl (fun c11 => ?_) (fun c11 => ?_)
      · replace h := Md.cond_t h c11
        refine aw_seq (aw_region (s_ls [_, _, _, _, _, _, _, _, _, _, _, _, _, _, _, _] ?_))
        refine s_mv ?_
        refine s_st [_, _, _, _, _, _, _, _, _, _, _, _, _, _, _, _] ?_
        refine s_sa ?_
        refine aops_nil ?_
        cases Option.some.inj h
        exact aw_ret ⟨rfl, rv (rn (.cons (va [_, _, _, _, _, _, _, _, _, _, _, _, _, _, _, _]) (.cons o1 .nil)))⟩
      replace h := Md.cond_f h c11
      refine aw_skip (aw_seq (aw_region (s_mv ?_)))
      refine s_fd ?_
      refine s_ld ?_
      refine aops_step1 rfl (ev_add rfl rfl rfl (Md.wrap_W _)) (s_fd ?_)
      refine s_ld ?_
      refine s_fd ?_
      refine s_ld ?_
      refine aops_step1 rfl (ev_add rfl rfl rfl (Md.wrap_W _)) (s_fd ?_)
      refine s_st [_, _, _, _, _, _, _, _, _, _, _, _, _, _, _, _] ?_
      refine s_fd ?_
      refine s_st [_, _, _, _, _, _, _, _, _, _, _, _, _, _, _, _] ?_
      refine s_fd ?_
      refine s_st [_, _, _, _, _, _, _, _, _, _, _, _, _, _, _, _] ?_
      refine s_fd ?_
      refine s_st [_, _, _, _, _, _, _, _, _, _, _, _, _, _, _, _] ?_
      refine aops_nil (aw_seq (aw_region (s_ls [_, _, _, _, _, _, _, _, _, _, _, _, _, _, _, _] ?_)))
      refine s_st [_, _, _, _, _, _, _, _, _, _, _, _, _, _, _, _] ?_
      refine s_sa ?_
      refine aops_nil ?_
      cases Option.some.inj h
      exact aw_ret ⟨rfl, rv (rn (.cons (va [_, _, _, _, _, _, _, _, _, _, _, _, _, _, _, _]) (.cons o1 .nil)))⟩
    replace h := Md.cond_f h c8
    refine aw_skip (aw_seq (aw_region (s_ls [_, _, _, _, _, _, _, _, _, _, _, _, _, _, _, _] ?_)))
    obtain ⟨x12, hx12, h⟩ := Md.bind_s h
    refine aops_step1 rfl (ev_call_v (store_clone_fn k a0 x12 hx12) rfl [] ai rfl rfl rfl (.inl rfl) rfl) (s_st [_, _, _, _, _, _, _, _, _, _, _, _, _, _, _, _] ?_)
    refine aops_nil (aw_seq (aw_region (s_mv ?_)))
    refine s_ls [_, _, _, _, _, _] ?_
    refine s_fd ?_
    refine aops_step1 rfl (ev_index_arr (j := 0) rfl rfl (of_decide_eq_true q6) rfl rfl) (s_st [_, _, _, _, _, _, _, _, _, _, _, _, _, _, _, _] ?_)
    refine aops_nil (aw_seq (aw_seq (aw_region (s_mv ?_))))
    refine s_cm ?_
    refine aops_nil ?_
    refine aw_cond rfl (fun c13 => ?_) (fun c13 => ?_)
    · replace h := Md.cond_t h c13
      refine aw_seq (aw_region (s_ls [_, _, _, _, _, _, _, _, _, _, _, _, _, _, _, _] ?_))
      refine s_mv ?_
      refine s_st [_, _, _, _, _, _, _, _, _, _, _, _, _, _, _, _] ?_
      refine s_sa ?_
      refine aops_nil ?_
      cases Option.some.inj h
      exact aw_ret ⟨rfl, rv (rn (.cons (va [_, _, _, _, _, _, _, _, _, _, _, _, _, _, _, _]) (.cons o1 .nil)))⟩
    replace h := Md.cond_f h c13
    refine aw_skip (aw_seq (aw_region (s_mv ?_)))
    refine s_fd ?_
    refine s_ld ?_
    refine aops_step1 rfl (ev_add rfl rfl rfl (Md.wrap_W _)) (s_fd ?_)
    refine s_ld ?_
    refine s_fd ?_
    refine s_ld ?_
    refine aops_step1 rfl (ev_add rfl rfl rfl (Md.wrap_W _)) (s_fd ?_)
    refine s_st [_, _, _, _, _, _, _, _, _, _, _, _, _, _, _, _] ?_
    refine s_fd ?_
    refine s_st [_, _, _, _, _, _, _, _, _, _, _, _, _, _, _, _] ?_
    refine s_fd ?_
    refine s_st [_, _, _, _, _, _, _, _, _, _, _, _, _, _, _, _] ?_
    refine s_fd ?_
    refine s_st [_, _, _, _, _, _, _, _, _, _, _, _, _, _, _, _] ?_
    refine aops_nil (aw_seq (aw_region (s_ls [_, _, _, _, _, _, _, _, _, _, _, _, _, _, _, _] ?_)))
    refine s_st [_, _, _, _, _, _, _, _, _, _, _, _, _, _, _, _] ?_
    refine s_sa ?_
    refine aops_nil ?_
    cases Option.some.inj h
    exact aw_ret ⟨rfl, rv (rn (.cons (va [_, _, _, _, _, _, _, _, _, _, _, _, _, _, _, _]) (.cons o1 .nil)))⟩
  replace h := Md.cond_f h q6
  obtain ⟨g14, h⟩ := Md.ifp_s h
  refine aops_step1 rfl (ev_index_arr (j := 1) rfl rfl g14 rfl rfl) (s_ls [_, _, _, _, _, _] ?_)
  obtain ⟨x15, hx15, h⟩ := Md.bind_s h
  refine aops_step1 rfl (ev_call_v (disk_Truncate_fn k a0.Disks.x1 0 x15 hx15) rfl [] ai rfl rfl rfl (.inl rfl) rfl) (s_mt ?_)
  iterate 2 refine s_ex ?_
  refine aops_step1 rfl (st_alloc (cs := [.val (.slice none 0 0), cI 0, cB false, cI 0, cI 0, cB false]) 3 rfl rfl rfl rfl rfl) (s_st [_, _, _, _, _, _] ?_)
  refine s_sa ?_
  refine aops_nil (aw_seq (aw_seq (aw_region (s_mv ?_))))
  refine s_cm ?_
  refine aops_nil ?_
  refine aw_cond rfl (fun c16 => ?_) (fun c16 => ?_)
  · replace h := Md.cond_t h c16
    refine aw_region (s_ls [_, _, _, _, _, _] ?_)
    refine s_mv ?_
    refine aops_step1 rfl (ev_build' (out := [_, _]) rfl rfl rfl rfl rfl) ?_
    obtain ⟨x17, hx17, h⟩ := Md.bind_s h
    refine aops_freeze 2 rfl (aops_step1 rfl (ev_call_v (journal_Append_fn k x15.1 (⟨1, x4⟩ : JournalRecord) x17 hx17) rfl [] ai rfl rfl rfl (.inl rfl) rfl) (s_mt ?_))
    iterate 2 refine s_ex ?_
    refine s_st [_, _, _, _, _, _] ?_
    refine s_sa ?_
    refine aops_nil (aw_seq (aw_region (s_ls [_, _, _, _, _, _, _, _, _, _, _, _, _, _, _, _] ?_)))
    obtain ⟨x18, hx18, h⟩ := Md.bind_s h
    refine aops_step1 rfl (ev_call_v (store_clone_fn k a0 x18 hx18) rfl [] ai rfl rfl rfl (.inl rfl) rfl) (s_st [_, _, _, _, _, _, _, _, _, _, _, _, _, _, _, _] ?_)
    refine aops_nil (aw_seq (aw_region (s_mv ?_)))
    refine s_ls [_, _, _, _, _, _] ?_
    refine s_fd ?_
    obtain ⟨g19, h⟩ := Md.ifp_s h
    refine aops_step1 rfl (ev_index_arr (j := 1) rfl rfl g19 rfl rfl) (s_st [_, _, _, _, _, _, _, _, _, _, _, _, _, _, _, _] ?_)
    refine aops_nil (aw_seq (aw_seq (aw_region (s_mv ?_))))
    refine s_cm ?_
    refine aops_nil ?_
    refine aw_cond rfl (fun c20 => ?_) (fun c20 => ?_)
    · replace h := Md.cond_t h c20
      refine aw_seq (aw_region (s_ls [_, _, _, _, _, _, _, _, _, _, _, _, _, _, _, _] ?_))
      refine s_mv ?_
      refine s_st [_, _, _, _, _, _, _, _, _, _, _, _, _, _, _, _] ?_
      refine s_sa ?_
      refine aops_nil ?_
      cases Option.some.inj h
      exact aw_ret ⟨rfl, rv (rn (.cons (va [_, _, _, _, _, _, _, _, _, _, _, _, _, _, _, _]) (.cons o1 .nil)))⟩
    replace h := Md.cond_f h c20
    refine aw_skip (aw_seq (aw_region (s_mv ?_)))
    refine s_fd ?_
    refine s_ld ?_
    refine aops_step1 rfl (ev_add rfl rfl rfl (Md.wrap_W _)) (s_fd ?_)
    refine s_ld ?_
    refine s_fd ?_
    refine s_ld ?_
    refine aops_step1 rfl (ev_add rfl rfl rfl (Md.wrap_W _)) (s_fd ?_)
    refine s_st [_, _, _, _, _, _, _, _, _, _, _, _, _, _, _, _] ?_
    refine s_fd ?_
    refine s_st [_, _, _, _, _, _, _, _, _, _, _, _, _, _, _, _] ?_
    refine s_fd ?_
    refine s_st [_, _, _, _, _, _, _, _, _, _, _, _, _, _, _, _] ?_
    refine s_fd ?_
    refine s_st [_, _, _, _, _, _, _, _, _, _, _, _, _, _, _, _] ?_
    refine aops_nil (aw_seq (aw_region (s_ls [_, _, _, _, _, _, _, _, _, _, _, _, _, _, _, _] ?_)))
    refine s_st [_, _, _, _, _, _, _, _, _, _, _, _, _, _, _, _] ?_
    refine s_sa ?_
    refine aops_nil ?_
    cases Option.some.inj h
    exact aw_ret ⟨rfl, rv (rn (.cons (va [_, _, _, _, _, _, _, _, _, _, _, _, _, _, _, _]) (.cons o1 .nil)))⟩
  replace h := Md.cond_f h c16
  refine aw_skip (aw_seq (aw_region (s_ls [_, _, _, _, _, _, _, _, _, _, _, _, _, _, _, _] ?_)))
  obtain ⟨x21, hx21, h⟩ := Md.bind_s h
  refine aops_step1 rfl (ev_call_v (store_clone_fn k a0 x21 hx21) rfl [] ai rfl rfl rfl (.inl rfl) rfl) (s_st [_, _, _, _, _, _, _, _, _, _, _, _, _, _, _, _] ?_)
  refine aops_nil (aw_seq (aw_region (s_mv ?_)))
  refine s_ls [_, _, _, _, _, _] ?_
  refine s_fd ?_
  obtain ⟨g22, h⟩ := Md.ifp_s h
  refine aops_step1 rfl (ev_index_arr (j := 1) rfl rfl g22 rfl rfl) (s_st [_, _, _, _, _, _, _, _, _, _, _, _, _, _, _, _] ?_)
  refine aops_nil (aw_seq (aw_seq (aw_region (s_mv ?_))))
  refine s_cm ?_
  refine aops_nil ?_
  refine aw_cond rfl (fun c23 => ?_) (fun c23 => ?_)
  · replace h := Md.cond_t h c23
    refine aw_seq (aw_region (s_ls [_, _, _, _, _, _, _, _, _, _, _, _, _, _, _, _] ?_))
    refine s_mv ?_
    refine s_st [_, _, _, _, _, _, _, _, _, _, _, _, _, _, _, _] ?_
    refine s_sa ?_
    refine aops_nil ?_
    cases Option.some.inj h
    exact aw_ret ⟨rfl, rv (rn (.cons (va [_, _, _, _, _, _, _, _, _, _, _, _, _, _, _, _]) (.cons o1 .nil)))⟩
  replace h := Md.cond_f h c23
  refine aw_skip (aw_seq (aw_region (s_mv ?_)))
  refine s_fd ?_
  refine s_ld ?_
  refine aops_step1 rfl (ev_add rfl rfl rfl (Md.wrap_W _)) (s_fd ?_)
  refine s_ld ?_
  refine s_fd ?_
  refine s_ld ?_
  refine aops_step1 rfl (ev_add rfl rfl rfl (Md.wrap_W _)) (s_fd ?_)
  refine s_st [_, _, _, _, _, _, _, _, _, _, _, _, _, _, _, _] ?_
  refine s_fd ?_
  refine s_st [_, _, _, _, _, _, _, _, _, _, _, _, _, _, _, _] ?_
  refine s_fd ?_
  refine s_st [_, _, _, _, _, _, _, _, _, _, _, _, _, _, _, _] ?_
  refine s_fd ?_
  refine s_st [_, _, _, _, _, _, _, _, _, _, _, _, _, _, _, _] ?_
  refine aops_nil (aw_seq (aw_region (s_ls [_, _, _, _, _, _, _, _, _, _, _, _, _, _, _, _] ?_)))
  refine s_st [_, _, _, _, _, _, _, _, _, _, _, _, _, _, _, _] ?_
  refine s_sa ?_
  refine aops_nil ?_
  cases Option.some.inj h
  exact aw_ret ⟨rfl, rv (rn (.cons (va [_, _, _, _, _, _, _, _, _, _, _, _, _, _, _, _]) (.cons o1 .nil)))⟩
end Md
end Go.Proofs.Ytkcfkcgclljncaa
