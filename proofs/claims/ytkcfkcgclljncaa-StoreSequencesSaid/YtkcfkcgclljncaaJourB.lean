/-
  JourB: where a function's model gives a value, the function returns what reads as it (printed by wip/tools/auto.py). Condition of each: the model gives a value.
-/
import Derived.Test.YtkcfkcgclljncaaJourBM
import Derived.Test.YtkcfkcgclljncaaTy
import Derived.Test.YtkcfkcgclljncaaAbsS
import Derived.Test.YtkcfkcgclljncaaJourA
import Derived.Test.YtkcfkcgclljncaaJourW
namespace Go.Proofs.Ytkcfkcgclljncaa
open Go.ChangeShapes Go.WideShapes Go.RowKit
open Abs
set_option linter.unusedVariables false
set_option linter.unusedSimpArgs false
set_option maxRecDepth 10000
namespace Md
set_option maxHeartbeats 2000000 in
theorem journal_Scan_fn (k : Nat) (a0 : List UInt8) (r : (List JournalRecord) × Int) (h : journal_Scan k a0 = some r) : FnC Try.prog 38 [.one (CV.ls byC a0)] [] (Det (.tup [.one (.own 0), vI r.2]) [(0, some (.row 46 2 r.1.length (lsEl c_JournalRecord r.1)))]) := by
  unfold journal_Scan at h
  refine fn_intro' 34 Try.func38 rfl rfl rfl (aw_seq (aw_region (aops_step1 rfl (st_box 0 rfl rfl rfl rfl) ?_)))
  iterate 2 refine s_sa ?_
  refine aops_nil (aw_seq (aw_region (aops_step1 rfl (st_alloc (cs := [.val (.slice none 0 0)]) 1 rfl rfl rfl rfl rfl) (aops_nil (aw_seq (aw_region ?_))))))
  refine aops_step1 rfl (st_alloc (cs := [cI 0]) 2 rfl rfl rfl rfl rfl) (s_st [_] ?_)
  refine aops_nil (aw_seq (aw_seq (aw_region (s_ld ?_))))
  refine aops_step1 rfl (ev_call_v (journal_Walk_fn a0) rfl [] ai rfl rfl rfl (.inl rfl) rfl) (aops_nil (aw_block ?_))
  obtain ⟨x1, hx1, h⟩ := Md.bind_s h
  refine aw_weak (s' := (⟨34, [], [(1, .one (.ptr 0 0)), (2, .one (.val (.slice none 0 0))), (3, vI 0), (4, .one (.ptr 1 0)), (5, .one (.ptr 2 0)), (13, .one (.fn 68 [.cptr [CV.ls byC a0]]))], [(0, some (.box [CV.ls byC a0])), (1, some (.box [.val (.slice none 0 0)])), (2, some (.box [cI 0]))]⟩ : ASt)) wk ?_
  refine aw_own_nil_box 1 0 3 46 2 (lsEl c_JournalRecord []) rfl rfl rfl ?_
  refine aw_weak (s' := (⟨34, [], [(1, .one (.ptr 0 0)), (2, .one (.val (.slice none 0 0))), (3, vI 0), (4, .one (.ptr 1 0)), (5, .one (.ptr 2 0)), (13, .one (.fn 68 [.cptr [CV.ls byC a0]]))], [(0, some (.box [CV.ls byC a0])), (1, some (.box [.own 3])), (2, some (.box [cI 0])), (3, some (.row 46 2 ([] : List JournalRecord).length (lsEl c_JournalRecord ([] : List JournalRecord))))]⟩ : ASt)) wk ?_
  obtain ⟨o2, ho2, h⟩ := Md.bind_s h
  refine aw_range_l (ι := Int × (List JournalRecord)) (fun (x : Int × JournalRecord) => [vI x.1, .agg (c_JournalRecord x.2)]) x1 (fun p => ([(0, some (.box [CV.ls byC a0])), (1, some (.box [.own 3])), (2, some (.box [cI p.1])), (3, some (.row 46 2 p.2.length (lsEl c_JournalRecord p.2)))] : Heap)) (fun ys p => journal_Scan_loop1 k a0 ys p.1 p.2 = some o2) (0, ([] : List JournalRecord)) rfl rfl (journal_Walk_1_it k a0 x1 hx1) rfl ho2 (fun _ => rfl) rfl ?_ ?_
  · intro y2 ys2 p2 l2
    obtain ⟨s2_0, s2_1⟩ := p2
    refine aw_weak (s' := (⟨34, [0, 1, 2], [(1, .one (.ptr 0 0)), (2, .one (.val (.slice none 0 0))), (3, vI 0), (4, .one (.ptr 1 0)), (5, .one (.ptr 2 0)), (13, .one (.fn 68 [.cptr [CV.ls byC a0]])), (14, vI y2.1), (15, .agg (c_JournalRecord y2.2))], [(0, some (.box [CV.ls byC a0])), (1, some (.box [.own 3])), (2, some (.box [cI s2_0])), (3, some (.row 46 2 s2_1.length (lsEl c_JournalRecord s2_1)))]⟩ : ASt)) wk ?_
    replace l2 : journal_Scan_loop1 k a0 (y2 :: ys2) s2_0 s2_1 = some o2 := l2
    rw [journal_Scan_loop1] at l2
    refine aw_seq (aw_region (s_sa ?_))
    refine aops_nil (aw_region (aops_step1 rfl (st_alloc (cs := [cI 0, .val (.slice none 0 0)]) 4 rfl rfl rfl rfl rfl) (s_st [_, _] ?_)))
    refine aops_nil ?_
    refine aw_weak (s' := (⟨34, [0, 1, 2], [(1, .one (.ptr 0 0)), (2, .one (.val (.slice none 0 0))), (3, vI 0), (4, .one (.ptr 1 0)), (5, .one (.ptr 2 0)), (6, vI y2.1), (7, .one (.ptr 4 0)), (13, .one (.fn 68 [.cptr [CV.ls byC a0]])), (14, vI y2.1), (15, .agg (c_JournalRecord y2.2))], [(0, some (.box [CV.ls byC a0])), (1, some (.box [.own 3])), (2, some (.box [cI s2_0])), (3, some (.row 46 2 s2_1.length (lsEl c_JournalRecord s2_1))), (4, some (.box (c_JournalRecord y2.2)))]⟩ : ASt)) wk ?_
    refine aw_block (aw_seq (aw_region (s_ld ?_)))
    refine s_mv ?_
    obtain ⟨g3, l2⟩ := Md.ifp_s l2
    obtain ⟨g4, l2⟩ := Md.ifp_s l2
    refine aops_step1 rfl (st_cut_lo (f := byC) (fun _ => rfl) rfl ⟨_, _, rfl, (Md.nn_eq g3)⟩ g4 rfl) ?_
    obtain ⟨x5, hx5, l2⟩ := Md.bind_s l2
    refine aops_step1 rfl (ev_call_v (wire_Open_fn k (a0.drop ((y2.1).toNat)) x5 hx5) rfl [] ai rfl rfl rfl (.inl rfl) rfl) (s_mt ?_)
    iterate 4 refine s_ex ?_
    iterate 4 refine s_sa ?_
    refine aops_nil (aw_region (s_ld ?_))
    refine s_ls [_, _] ?_
    refine aops_step1 rfl (st_slice_lit (el := lsEl c_JournalRecord [y2.2]) 5 rfl rfl rfl rfl rfl rfl rfl rfl (lit_el c_JournalRecord 2 [y2.2] (fun _ => rfl)) rfl) ?_
    obtain ⟨g6, l2⟩ := Md.ifp_s l2
    refine aops_step1 rfl (st_app_ls (f := c_JournalRecord) s2_1 [y2.2] (fun _ => rfl) rfl rfl (.inr ⟨_, _, rfl, rfl⟩) (by omega) (by omega) rfl) ?_
    iterate 2 refine s_mv ?_
    refine aops_step1 rfl (ev_add rfl rfl rfl (Md.wrap_W _)) ?_
    iterate 2 refine s_st [_] ?_
    refine aops_nil ?_
    exact ⟨rfl, ((Md.W (y2.1 + x5.2.2.1)), (s2_1 ++ [y2.2])), l2, wk⟩
  intro p2 l2
  generalize p2 = x2_0 at l2 ⊢
  replace l2 : some x2_0 = some o2 := l2
  have e2 := Option.some.inj l2
  subst e2
  change AW _ _ (⟨34, [], [(1, .one (.ptr 0 0)), (2, .one (.val (.slice none 0 0))), (3, vI 0), (4, .one (.ptr 1 0)), (5, .one (.ptr 2 0)), (13, .one (.fn 68 [.cptr [CV.ls byC a0]]))], [(0, some (.box [CV.ls byC a0])), (1, some (.box [.own 3])), (2, some (.box [cI x2_0.1])), (3, some (.row 46 2 x2_0.2.length (lsEl c_JournalRecord x2_0.2)))]⟩ : ASt) _
  refine aw_seq ?_
  apply aw_draw 3 ((⟨[], .one (.own 3)⟩ : Add) :: ⟨[], vI x2_0.1⟩ :: ⟨[], .one (.own 3)⟩ :: []) (by decide) rfl ?hk1x ?hf1x ?ho1x ?hr1x
  case ho1x =>
   refine ob [] (fun S hle hfr => .inl ⟨w0, ev_load (hle.e rfl) (hle.heap _ _ rfl) rfl (hle.d rfl)⟩) ?_
   refine ob [] (fun S hle hfr => .inl ⟨w0, ev_load (hle.e rfl) (hle.heap _ _ rfl) rfl (hle.d rfl)⟩) ?_
   refine ob [0] (fun S hle hfr => .inl ⟨w0, st_assign (hle.e rfl) (hle.d rfl)⟩) ?_
   exact trivial
  case hk1x => rfl
  case hf1x => rfl
  refine s_sa ?_
  refine aops_nil ?_
  cases Option.some.inj h
  refine aw_ret ⟨rfl, ret_r 3 (rn (.cons o1 (.cons o1 .nil))) rfl rfl rfl ?_ ?_ ?_⟩
  · first | exact TLe.refl _ | (repeat' (first | exact .refl _ | exact .nil | refine .tup ?_ | refine .v ?_ | refine .cons ?_ ?_ | refine .agg ?_ | refine .one ?_ | exact .nil _ | exact .emp _ | refine .val ?_ | refine .slc ?_ ?_ | fail))
  · rfl
  · rfl
end Md
end Go.Proofs.Ytkcfkcgclljncaa
