/-
  JourK: where a function's model gives a value, the function returns what reads as it (printed by wip/tools/auto.py). Condition of each: the model gives a value.
-/
import Derived.Test.YtkcfkcgclljncaaJourKM
import Derived.Test.YtkcfkcgclljncaaTy
import Derived.Test.YtkcfkcgclljncaaAbsRa
import Derived.Test.YtkcfkcgclljncaaJourB
namespace Go.Proofs.Ytkcfkcgclljncaa
open Go.ChangeShapes Go.WideShapes Go.RowKit
open Abs
set_option linter.unusedVariables false
set_option linter.unusedSimpArgs false
set_option maxRecDepth 10000
namespace Md
set_option maxHeartbeats 2000000 in
theorem actorgridlaw27_awake_fn (k : Nat) (r : Bool) (h : actorgridlaw27_awake k = some r) : FnC Try.prog 31 [] [] (Det (vB r) []) := by
  unfold actorgridlaw27_awake at h
  refine fn_intro' 74 Try.func31 rfl rfl rfl ?_
  refine aw_seq ?_
  refine aw_region ?_
  refine aops_step1 rfl (st_alloc (cs := [cB false]) 0 rfl rfl rfl rfl rfl) ?_
  refine aops_nil ?_
  refine aw_seq ?_
  refine aw_region ?_
  obtain ⟨x1, hx1, h⟩ := Md.bind_s h
  refine aops_step1 rfl (ev_call_v (disk_New_fn k 100 x1 hx1) rfl [] (by repeat' (first | exact .nil | refine .cons ?_ ?_ | refine .one ?_ | refine .agg ?_ | exact .mk rfl | exact .lend rfl (by simp) | exact .le (.nil _) rfl | exact .le (.emp _) rfl | exact .le (.any _) rfl | fail)) rfl rfl rfl (.inl rfl) rfl) ?_
  refine aops_step1 rfl (st_movet rfl rfl) ?_
  refine aops_step1 rfl (ev_extract rfl rfl rfl) ?_
  refine aops_step1 rfl (ev_extract rfl rfl rfl) ?_
  refine aops_step1 rfl (st_alloc (cs := [.val (.slice none 0 0), cI 0, cB false, cI 0, cI 0, cB false]) 1 rfl rfl rfl rfl rfl) ?_
  refine aops_step1 rfl (st_store (cs' := [_, _, _, _, _, _]) rfl rfl rfl rfl rfl rfl rfl rfl rfl) ?_
  refine aops_step1 rfl (st_assign rfl rfl) ?_
  refine aops_nil ?_
  refine aw_seq ?_
  refine aw_seq ?_
  refine aw_region ?_
  refine aops_step1 rfl (st_move rfl rfl) ?_
  refine aops_step1 rfl (ev_cmp rfl rfl rfl rfl) ?_
  refine aops_nil ?_
  refine aw_cond rfl (fun c2 => ?_) (fun c2 => ?_)
  · replace h := Md.cond_t h c2
    refine aw_seq ?_
    refine aw_region ?_
    refine aops_step1 rfl (st_store (cs' := [_]) rfl rfl rfl rfl rfl rfl rfl rfl rfl) ?_
    refine aops_nil ?_
    cases Option.some.inj h
    refine aw_ret ⟨rfl, ret_v (.inl ⟨_, rfl, ⟨_, _, _, _, _, rfl, rfl, TVar.h, rfl, _, rfl, rfl⟩, fun _ e => nomatch e⟩) rfl rfl rfl ?_⟩
    (repeat' (first | exact .refl _ | exact .nil | refine .tup ?_ | refine .v ?_ | refine .cons ?_ ?_ | refine .agg ?_ | refine .one ?_ | exact .nil _ | exact .emp _ | refine .val ?_ | refine .slc ?_ ?_ | fail))
  replace h := Md.cond_f h c2
  refine aw_skip ?_
  refine aw_seq ?_
  refine aw_region ?_
  refine aops_step1 rfl (ev_loads (ds := [_, _, _, _, _, _]) rfl rfl rfl rfl rfl) ?_
  refine aops_step1 rfl (st_slice_lit (el := lsEl byC [(120 : UInt8)]) 2 rfl rfl rfl rfl rfl rfl rfl rfl (lit_el byC 1 [(120 : UInt8)] (fun _ => rfl)) rfl) ?_
  refine aops_step1 rfl (st_conv_own rfl rfl (by decide) Try.underlying24 Try.underlying5 rfl) ?_
  refine aops_step1 rfl (ev_build' (out := [_, _]) rfl rfl rfl rfl rfl) ?_
  obtain ⟨x3, hx3, h⟩ := Md.bind_s h
  refine aops_step1 rfl (ev_call_v (journal_Append_fn k x1.1 (⟨7, [(120 : UInt8)]⟩ : JournalRecord) x3 hx3) rfl [] (by repeat' (first | exact .nil | refine .cons ?_ ?_ | refine .one ?_ | refine .agg ?_ | exact .mk rfl | exact .lend rfl (by simp) | exact .le (.nil _) rfl | exact .le (.emp _) rfl | exact .le (.any _) rfl | fail)) rfl rfl rfl (.inl rfl) rfl) ?_
  refine aops_step1 rfl (st_movet rfl rfl) ?_
  refine aops_step1 rfl (ev_extract rfl rfl rfl) ?_
  refine aops_step1 rfl (ev_extract rfl rfl rfl) ?_
  refine aops_step1 rfl (st_store (cs' := [_, _, _, _, _, _]) rfl rfl rfl rfl rfl rfl rfl rfl rfl) ?_
  refine aops_step1 rfl (st_assign rfl rfl) ?_
  refine aops_nil ?_
  refine aw_seq ?_
  refine aw_seq ?_
  refine aw_region ?_
  refine aops_step1 rfl (st_move rfl rfl) ?_
  refine aops_step1 rfl (ev_cmp rfl rfl rfl rfl) ?_
  refine aops_nil ?_
  refine aw_cond rfl (fun c4 => ?_) (fun c4 => ?_)
  · replace h := Md.cond_t h c4
    refine aw_seq ?_
    refine aw_region ?_
    refine aops_step1 rfl (st_store (cs' := [_]) rfl rfl rfl rfl rfl rfl rfl rfl rfl) ?_
    refine aops_nil ?_
    cases Option.some.inj h
    refine aw_ret ⟨rfl, ret_v (.inl ⟨_, rfl, ⟨_, _, _, _, _, rfl, rfl, TVar.h, rfl, _, rfl, rfl⟩, fun _ e => nomatch e⟩) rfl rfl rfl ?_⟩
    (repeat' (first | exact .refl _ | exact .nil | refine .tup ?_ | refine .v ?_ | refine .cons ?_ ?_ | refine .agg ?_ | refine .one ?_ | exact .nil _ | exact .emp _ | refine .val ?_ | refine .slc ?_ ?_ | fail))
  replace h := Md.cond_f h c4
  refine aw_skip ?_
  refine aw_seq ?_
  refine aw_region ?_
  refine aops_step1 rfl (ev_loads (ds := [_, _, _, _, _, _]) rfl rfl rfl rfl rfl) ?_
  obtain ⟨x5, hx5, h⟩ := Md.bind_s h
  refine aops_step1 rfl (st_call_r (r' := .tup [.one (.own 3), .agg (c_Disk x5.2.1), vI x5.2.2]) 3 rfl (journal_Recover_fn k x3.1 x5 hx5) rfl [] (by repeat' (first | exact .nil | refine .cons ?_ ?_ | refine .one ?_ | refine .agg ?_ | exact .mk rfl | exact .lend rfl (by simp) | exact .le (.nil _) rfl | exact .le (.emp _) rfl | exact .le (.any _) rfl | fail)) rfl rfl rfl (.inl rfl) rfl rfl) ?_
  refine aops_step1 rfl (st_movet rfl rfl) ?_
  refine aops_step1 rfl (ev_extract rfl rfl rfl) ?_
  refine aops_step1 rfl (ev_extract rfl rfl rfl) ?_
  refine aops_step1 rfl (ev_extract rfl rfl rfl) ?_
  refine aops_step1 rfl (st_alloc (cs := [.val (.slice none 0 0), cI 0, cB false, cI 0, cI 0, cB false]) 4 rfl rfl rfl rfl rfl) ?_
  refine aops_step1 rfl (st_assign rfl rfl) ?_
  refine aops_step1 rfl (st_store (cs' := [_, _, _, _, _, _]) rfl rfl rfl rfl rfl rfl rfl rfl rfl) ?_
  refine aops_step1 rfl (st_assign rfl rfl) ?_
  refine aops_nil ?_
  refine aw_seq ?_
  refine aw_region ?_
  refine aops_step1 rfl (ev_field rfl rfl rfl) ?_
  refine aops_step1 rfl (ev_load rfl rfl rfl rfl) ?_
  refine aops_step1 rfl (ev_call_v (journal_Walk_fn x3.1.Data) rfl [] (by repeat' (first | exact .nil | refine .cons ?_ ?_ | refine .one ?_ | refine .agg ?_ | exact .mk rfl | exact .lend rfl (by simp) | exact .le (.nil _) rfl | exact .le (.emp _) rfl | exact .le (.any _) rfl | fail)) rfl rfl rfl (.inl rfl) rfl) ?_
  refine aops_step1 rfl (st_assign rfl rfl) ?_
  refine aops_nil ?_
  refine aw_seq ?_
  refine aw_seq ?_
  refine aw_region ?_
  refine aops_step1 rfl (st_move rfl rfl) ?_
  refine aops_step1 rfl (ev_fn_eq rfl rfl rfl Try.underlying60) ?_
  refine aops_nil ?_
  refine aw_no rfl (rfl) ?_
  refine aw_skip ?_
  refine aw_seq ?_
  refine aw_region ?_
  refine aops_step1 rfl (st_alloc (cs := [cI 0]) 5 rfl rfl rfl rfl rfl) ?_
  refine aops_step1 rfl (st_store (cs' := [_]) rfl rfl rfl rfl rfl rfl rfl rfl rfl) ?_
  refine aops_nil ?_
  refine aw_seq ?_
  refine aw_seq ?_
  refine aw_region ?_
  refine aops_step1 rfl (st_move rfl rfl) ?_
  refine aops_nil ?_
  refine aw_block ?_
  obtain ⟨x6, hx6, h⟩ := Md.bind_s h
  refine aw_freeze 3 rfl ?_
  refine aw_weak (s' := (⟨74, [], [(0, .one (.ptr 0 0)), (2, vI x5.2.2), (3, .one (CV.ls c_JournalRecord x5.1)), (6, .one (.ptr 5 0)), (36, .one (.fn 68 [.cptr [CV.ls byC x3.1.Data]]))], [(0, some (.box [cB false])), (5, some (.box [cI 0]))]⟩ : ASt)) (by (refine weak_mk rfl rfl ?_ ?_ rfl <;> repeat' (first | exact trivial | refine ⟨?_, ?_⟩ | exact .refl _ | refine .one (.val ?_) | exact .one (.nil _) | exact .one (.emp _) | refine .box ?_ | refine .agg ?_ | exact .nil | refine .cons ?_ ?_ | exact .nil _ | exact .emp _ | fail))) ?_
  obtain ⟨o7, ho7, h⟩ := Md.bind_s h
  refine aw_range_l (ι := Nat) (fun (x : Int × JournalRecord) => [vI x.1, .agg (c_JournalRecord x.2)]) x6 (fun p => ([(0, some (.box [cB false])), (5, some (.box [cI ((p : Nat) : Int)]))] : Heap)) (fun ys p => actorgridlaw27_awake_loop1 k ys p = some o7) 0 rfl rfl (journal_Walk_1_it k x3.1.Data x6 hx6) rfl ho7 (fun _ => rfl) rfl ?_ ?_
  · intro y7 ys7 p7 l7
    generalize p7 = s7_0 at l7 ⊢
    refine aw_weak (s' := (⟨74, [0, 5], [(0, .one (.ptr 0 0)), (2, vI x5.2.2), (3, .one (CV.ls c_JournalRecord x5.1)), (6, .one (.ptr 5 0)), (36, .one (.fn 68 [.cptr [CV.ls byC x3.1.Data]])), (37, vI y7.1), (38, .agg (c_JournalRecord y7.2))], [(0, some (.box [cB false])), (5, some (.box [cI ((s7_0 : Nat) : Int)]))]⟩ : ASt)) (by (refine weak_mk rfl rfl ?_ ?_ rfl <;> repeat' (first | exact trivial | refine ⟨?_, ?_⟩ | exact .refl _ | refine .one (.val ?_) | exact .one (.nil _) | exact .one (.emp _) | refine .box ?_ | refine .agg ?_ | exact .nil | refine .cons ?_ ?_ | exact .nil _ | exact .emp _ | fail))) ?_
    replace l7 : actorgridlaw27_awake_loop1 k (y7 :: ys7) s7_0 = some o7 := l7
    rw [actorgridlaw27_awake_loop1] at l7
    refine aw_seq ?_
    refine aw_region ?_
    refine aops_step1 rfl (st_assign rfl rfl) ?_
    refine aops_nil ?_
    refine aw_region ?_
    refine aops_step1 rfl (st_alloc (cs := [cI 0, .val (.slice none 0 0)]) 6 rfl rfl rfl rfl rfl) ?_
    refine aops_step1 rfl (st_store (cs' := [_, _]) rfl rfl rfl rfl rfl rfl rfl rfl rfl) ?_
    refine aops_nil ?_
    refine aw_weak (s' := (⟨74, [0, 5], [(0, .one (.ptr 0 0)), (2, vI x5.2.2), (3, .one (CV.ls c_JournalRecord x5.1)), (6, .one (.ptr 5 0)), (7, vI y7.1), (8, .one (.ptr 6 0)), (36, .one (.fn 68 [.cptr [CV.ls byC x3.1.Data]])), (37, vI y7.1), (38, .agg (c_JournalRecord y7.2))], [(0, some (.box [cB false])), (5, some (.box [cI ((s7_0 : Nat) : Int)])), (6, some (.box (c_JournalRecord y7.2)))]⟩ : ASt)) (by (refine weak_mk rfl rfl ?_ ?_ rfl <;> repeat' (first | exact trivial | refine ⟨?_, ?_⟩ | exact .refl _ | refine .one (.val ?_) | exact .one (.nil _) | exact .one (.emp _) | refine .box ?_ | refine .agg ?_ | exact .nil | refine .cons ?_ ?_ | exact .nil _ | exact .emp _ | fail))) ?_
    refine aw_block ?_
    refine aw_seq ?_
    refine aw_seq ?_
    refine aw_region ?_
    refine aops_step1 rfl (st_move rfl rfl) ?_
    refine aops_step1 rfl (ev_cmp rfl rfl rfl rfl) ?_
    refine aops_step1 rfl (st_move rfl rfl) ?_
    refine aops_mid 4 (⟨74, [0, 5], [(0, .one (.ptr 0 0)), (6, .one (.ptr 5 0)), (45, vB ((y7.1 != 0) || (y7.2.Kind != 7)))], [(0, some (.box [cB false])), (5, some (.box [cI ((s7_0 : Nat) : Int)]))]⟩ : ASt) ?_ ?_
    · rcases Md.bool_or ((y7.1 != 0)) with q8 | q8
      · skip
        refine aops_no rfl rfl rfl rfl rfl (by first | decide | (rw [q8]; decide)) ?_
        refine aops_no rfl rfl rfl rfl rfl (by first | decide | (rw [q8]; decide)) ?_
        refine aops_no rfl rfl rfl rfl rfl (by first | decide | (rw [q8]; decide)) ?_
        refine aops_step1 rfl (st_pick_yes rfl (by first | rfl | exact q8) rfl rfl) ?_
        refine aops_nil ?_
        show Weak _ _
        (refine weak_mk rfl rfl ?_ ?_ rfl <;> repeat' (first | exact trivial | refine ⟨?_, ?_⟩ | exact .refl _ | refine .one (.val ?_) | exact .one (.nil _) | exact .one (.emp _) | refine .box ?_ | refine .agg ?_ | exact .nil | refine .cons ?_ ?_ | exact .nil _ | exact .emp _ | fail)) <;> (first | (rw [q8]; done) | (rw [q8]; rfl) | (simp [q8]; done))
      refine aops_yes rfl rfl rfl rfl q8 (ev_field rfl rfl rfl) ?_
      refine aops_yes rfl rfl rfl rfl q8 (ev_load rfl rfl rfl rfl) ?_
      refine aops_yes rfl rfl rfl rfl q8 (ev_cmp rfl rfl rfl rfl) ?_
      refine aops_step1 rfl (st_pick_no rfl (by first | rfl | exact q8) rfl rfl) ?_
      refine aops_nil ?_
      show Weak _ _
      (refine weak_mk rfl rfl ?_ ?_ rfl <;> repeat' (first | exact trivial | refine ⟨?_, ?_⟩ | exact .refl _ | refine .one (.val ?_) | exact .one (.nil _) | exact .one (.emp _) | refine .box ?_ | refine .agg ?_ | exact .nil | refine .cons ?_ ?_ | exact .nil _ | exact .emp _ | fail)) <;> (first | (rw [q8]; done) | (rw [q8]; rfl) | (simp [q8]; done))
    change AOps _ _ _ (⟨74, [0, 5], [(0, .one (.ptr 0 0)), (6, .one (.ptr 5 0)), (45, vB ((y7.1 != 0) || (y7.2.Kind != 7)))], [(0, some (.box [cB false])), (5, some (.box [cI ((s7_0 : Nat) : Int)]))]⟩ : ASt) _
    refine aops_nil ?_
    refine aw_cond rfl (fun c9 => ?_) (fun c9 => ?_)
    · replace l7 := Md.cond_t l7 c9
      refine aw_seq ?_
      refine aw_region ?_
      refine aops_step1 rfl (st_store (cs' := [_]) rfl rfl rfl rfl rfl rfl rfl rfl rfl) ?_
      refine aops_nil ?_
      cases Option.some.inj l7
      replace h := Md.onS_r h
      cases Option.some.inj h
      refine aw_ret ⟨rfl, ?_⟩
      refine ⟨rfl, ret_v (.inl ⟨_, rfl, ⟨_, _, _, _, _, rfl, rfl, TVar.h, rfl, _, rfl, rfl⟩, fun _ e => nomatch e⟩) rfl rfl rfl ?_⟩
      (repeat' (first | exact .refl _ | exact .nil | refine .tup ?_ | refine .v ?_ | refine .cons ?_ ?_ | refine .agg ?_ | refine .one ?_ | exact .nil _ | exact .emp _ | refine .val ?_ | refine .slc ?_ ?_ | fail))
    replace l7 := Md.cond_f l7 c9
    refine aw_skip ?_
    refine aw_region ?_
    refine aops_step1 rfl (ev_load rfl rfl rfl rfl) ?_
    obtain ⟨g10, l7⟩ := Md.ifp_s l7
    refine aops_step1 rfl (ev_add rfl rfl rfl (Md.nat_add g10)) ?_
    refine aops_step1 rfl (st_store (cs' := [_]) rfl rfl rfl rfl rfl rfl rfl rfl rfl) ?_
    refine aops_nil ?_
    exact ⟨rfl, (s7_0 + 1), l7, (by (refine weak_mk rfl rfl ?_ ?_ rfl <;> repeat' (first | exact trivial | refine ⟨?_, ?_⟩ | exact .refl _ | refine .one (.val ?_) | exact .one (.nil _) | exact .one (.emp _) | refine .box ?_ | refine .agg ?_ | exact .nil | refine .cons ?_ ?_ | exact .nil _ | exact .emp _ | fail)))⟩
  intro p7 l7
  generalize p7 = x7_0 at l7 ⊢
  replace l7 : some (Sum.inl x7_0) = some o7 := l7
  have e7 := Option.some.inj l7
  subst e7
  replace h := Md.onS_l h
  change AW _ _ (⟨74, [], [(0, .one (.ptr 0 0)), (2, vI x5.2.2), (3, .one (CV.ls c_JournalRecord x5.1)), (6, .one (.ptr 5 0)), (36, .one (.fn 68 [.cptr [CV.ls byC x3.1.Data]]))], [(0, some (.box [cB false])), (5, some (.box [cI ((x7_0 : Nat) : Int)]))]⟩ : ASt) _
  refine aw_seq ?_
  refine aw_region ?_
  refine aops_step1 rfl (st_move rfl rfl) ?_
  refine aops_step1 rfl (ev_cmp rfl rfl rfl rfl) ?_
  refine aops_step1 rfl (st_move rfl rfl) ?_
  refine aops_mid 4 (⟨74, [], [(0, .one (.ptr 0 0)), (3, .one (CV.ls c_JournalRecord x5.1)), (6, .one (.ptr 5 0)), (54, vB ((x5.2.2 == 0) && (((x5.1.length : Nat) : Int) == 1)))], [(0, some (.box [cB false])), (5, some (.box [cI ((x7_0 : Nat) : Int)]))]⟩ : ASt) ?_ ?_
  · rcases Md.bool_or ((x5.2.2 == 0)) with q11 | q11
    · skip
      refine aops_yes rfl rfl rfl rfl q11 (st_move rfl rfl) ?_
      refine aops_yes rfl rfl rfl rfl q11 (ev_len_slc rfl rfl) ?_
      refine aops_yes rfl rfl rfl rfl q11 (ev_cmp rfl rfl rfl rfl) ?_
      refine aops_step1 rfl (st_pick_yes rfl (by first | rfl | exact q11) rfl rfl) ?_
      refine aops_nil ?_
      show Weak _ _
      (refine weak_mk rfl rfl ?_ ?_ rfl <;> repeat' (first | exact trivial | refine ⟨?_, ?_⟩ | exact .refl _ | refine .one (.val ?_) | exact .one (.nil _) | exact .one (.emp _) | refine .box ?_ | refine .agg ?_ | exact .nil | refine .cons ?_ ?_ | exact .nil _ | exact .emp _ | fail)) <;> (first | (rw [q11]; done) | (rw [q11]; rfl) | (simp [q11]; done))
    refine aops_no rfl rfl rfl rfl rfl (by first | decide | (rw [q11]; decide)) ?_
    refine aops_no rfl rfl rfl rfl rfl (by first | decide | (rw [q11]; decide)) ?_
    refine aops_no rfl rfl rfl rfl rfl (by first | decide | (rw [q11]; decide)) ?_
    refine aops_step1 rfl (st_pick_no rfl (by first | rfl | exact q11) rfl rfl) ?_
    refine aops_nil ?_
    show Weak _ _
    (refine weak_mk rfl rfl ?_ ?_ rfl <;> repeat' (first | exact trivial | refine ⟨?_, ?_⟩ | exact .refl _ | refine .one (.val ?_) | exact .one (.nil _) | exact .one (.emp _) | refine .box ?_ | refine .agg ?_ | exact .nil | refine .cons ?_ ?_ | exact .nil _ | exact .emp _ | fail)) <;> (first | (rw [q11]; done) | (rw [q11]; rfl) | (simp [q11]; done))
  change AOps _ _ _ (⟨74, [], [(0, .one (.ptr 0 0)), (3, .one (CV.ls c_JournalRecord x5.1)), (6, .one (.ptr 5 0)), (54, vB ((x5.2.2 == 0) && (((x5.1.length : Nat) : Int) == 1)))], [(0, some (.box [cB false])), (5, some (.box [cI ((x7_0 : Nat) : Int)]))]⟩ : ASt) _
  refine aops_step1 rfl (st_move rfl rfl) ?_
  obtain ⟨o12, j12, h⟩ := Md.bind_s h
  refine aops_cut 6 (ε := Bool) (fun x12 => (⟨74, [], [(0, .one (.ptr 0 0)), (3, .one (CV.ls c_JournalRecord x5.1)), (6, .one (.ptr 5 0)), (61, vB x12)], [(0, some (.box [cB false])), (5, some (.box [cI ((x7_0 : Nat) : Int)]))]⟩ : ASt)) (fun x12 => x12 = o12) ?_ ?_
  · intro x12 hI12
    subst hI12
    change AOps _ _ _ (⟨74, [], [(0, .one (.ptr 0 0)), (3, .one (CV.ls c_JournalRecord x5.1)), (6, .one (.ptr 5 0)), (61, vB x12)], [(0, some (.box [cB false])), (5, some (.box [cI ((x7_0 : Nat) : Int)]))]⟩ : ASt) _
    refine aops_step1 rfl (st_move rfl rfl) ?_
    obtain ⟨o13, j13, h⟩ := Md.bind_s h
    refine aops_cut 7 (ε := Bool) (fun x13 => (⟨74, [], [(0, .one (.ptr 0 0)), (6, .one (.ptr 5 0)), (69, vB x13)], [(0, some (.box [cB false])), (5, some (.box [cI ((x7_0 : Nat) : Int)]))]⟩ : ASt)) (fun x13 => x13 = o13) ?_ ?_
    · intro x13 hI13
      subst hI13
      change AOps _ _ _ (⟨74, [], [(0, .one (.ptr 0 0)), (6, .one (.ptr 5 0)), (69, vB x13)], [(0, some (.box [cB false])), (5, some (.box [cI ((x7_0 : Nat) : Int)]))]⟩ : ASt) _
      refine aops_step1 rfl (st_move rfl rfl) ?_
      refine aops_mid 3 (⟨74, [], [(0, .one (.ptr 0 0)), (73, vB (x13 && (((x7_0 : Nat) : Int) == 1)))], [(0, some (.box [cB false]))]⟩ : ASt) ?_ ?_
      · rcases Md.bool_or (x13) with q14 | q14
        · skip
          refine aops_yes rfl rfl rfl rfl q14 (ev_load rfl rfl rfl rfl) ?_
          refine aops_yes rfl rfl rfl rfl q14 (ev_cmp rfl rfl rfl rfl) ?_
          refine aops_step1 rfl (st_pick_yes rfl (by first | rfl | exact q14) rfl rfl) ?_
          refine aops_nil ?_
          show Weak _ _
          (refine weak_mk rfl rfl ?_ ?_ rfl <;> repeat' (first | exact trivial | refine ⟨?_, ?_⟩ | exact .refl _ | refine .one (.val ?_) | exact .one (.nil _) | exact .one (.emp _) | refine .box ?_ | refine .agg ?_ | exact .nil | refine .cons ?_ ?_ | exact .nil _ | exact .emp _ | fail)) <;> (first | (rw [q14]; done) | (rw [q14]; rfl) | (simp [q14]; done))
        refine aops_no rfl rfl rfl rfl rfl (by first | decide | (rw [q14]; decide)) ?_
        refine aops_no rfl rfl rfl rfl rfl (by first | decide | (rw [q14]; decide)) ?_
        refine aops_step1 rfl (st_pick_no rfl (by first | rfl | exact q14) rfl rfl) ?_
        refine aops_nil ?_
        show Weak _ _
        (refine weak_mk rfl rfl ?_ ?_ rfl <;> repeat' (first | exact trivial | refine ⟨?_, ?_⟩ | exact .refl _ | refine .one (.val ?_) | exact .one (.nil _) | exact .one (.emp _) | refine .box ?_ | refine .agg ?_ | exact .nil | refine .cons ?_ ?_ | exact .nil _ | exact .emp _ | fail)) <;> (first | (rw [q14]; done) | (rw [q14]; rfl) | (simp [q14]; done))
      change AOps _ _ _ (⟨74, [], [(0, .one (.ptr 0 0)), (73, vB (x13 && (((x7_0 : Nat) : Int) == 1)))], [(0, some (.box [cB false]))]⟩ : ASt) _
      refine aops_step1 rfl (st_store (cs' := [_]) rfl rfl rfl rfl rfl rfl rfl rfl rfl) ?_
      refine aops_nil ?_
      cases Option.some.inj h
      refine aw_ret ⟨rfl, ret_v (.inl ⟨_, rfl, ⟨_, _, _, _, _, rfl, rfl, TVar.h, rfl, _, rfl, rfl⟩, fun _ e => nomatch e⟩) rfl rfl rfl ?_⟩
      (repeat' (first | exact .refl _ | exact .nil | refine .tup ?_ | refine .v ?_ | refine .cons ?_ ?_ | refine .agg ?_ | refine .one ?_ | exact .nil _ | exact .emp _ | refine .val ?_ | refine .slc ?_ ?_ | fail))
    rcases Md.bool_or (x12) with q13 | q13
    · replace j13 := Md.cond_t j13 q13
      refine aops_yes rfl rfl rfl rfl q13 (st_move rfl rfl) ?_
      obtain ⟨g15, j13⟩ := Md.ifp_s j13
      refine aops_yes rfl rfl rfl rfl q13 (ev_index_in rfl rfl rfl g15 rfl rfl) ?_
      refine aops_yes rfl rfl rfl rfl q13 (ev_field_in rfl rfl rfl) ?_
      refine aops_yes rfl rfl rfl rfl q13 (ev_load_in rfl rfl rfl) ?_
      refine aops_yes rfl rfl rfl rfl q13 (ev_str_bytes (.inl rfl) Try.underlying24 Try.underlying5 Try.underlying9 rfl) ?_
      refine aops_yes rfl rfl rfl rfl q13 (st_str_eq rfl rfl rfl) ?_
      refine aops_step1 rfl (st_pick_yes rfl (by first | rfl | exact q13) rfl rfl) ?_
      refine aops_nil ?_
      show ∃ _x : Bool, _ = _ ∧ Weak _ _
      exact ⟨(decide (((x5.1.getD 0 default).Body) = [120])), Option.some.inj j13, (by (refine weak_mk rfl rfl ?_ ?_ rfl <;> repeat' (first | exact trivial | refine ⟨?_, ?_⟩ | exact .refl _ | refine .one (.val ?_) | exact .one (.nil _) | exact .one (.emp _) | refine .box ?_ | refine .agg ?_ | exact .nil | refine .cons ?_ ?_ | exact .nil _ | exact .emp _ | fail)))⟩
    replace j13 := Md.cond_f j13 q13
    refine aops_no rfl rfl rfl rfl rfl (by first | decide | (rw [q13]; decide)) ?_
    refine aops_no rfl rfl rfl rfl rfl (by first | decide | (rw [q13]; decide)) ?_
    refine aops_no rfl rfl rfl rfl rfl (by first | decide | (rw [q13]; decide)) ?_
    refine aops_no rfl rfl rfl rfl rfl (by first | decide | (rw [q13]; decide)) ?_
    refine aops_no rfl rfl rfl rfl rfl (by first | decide | (rw [q13]; decide)) ?_
    refine aops_no rfl rfl rfl rfl rfl (by first | decide | (rw [q13]; decide)) ?_
    refine aops_step1 rfl (st_pick_no rfl (by first | rfl | exact q13) rfl rfl) ?_
    refine aops_nil ?_
    show ∃ _x : Bool, _ = _ ∧ Weak _ _
    exact ⟨false, Option.some.inj j13, (by (refine weak_mk rfl rfl ?_ ?_ rfl <;> repeat' (first | exact trivial | refine ⟨?_, ?_⟩ | exact .refl _ | refine .one (.val ?_) | exact .one (.nil _) | exact .one (.emp _) | refine .box ?_ | refine .agg ?_ | exact .nil | refine .cons ?_ ?_ | exact .nil _ | exact .emp _ | fail)))⟩
  rcases Md.bool_or (((x5.2.2 == 0) && (((x5.1.length : Nat) : Int) == 1))) with q12 | q12
  · replace j12 := Md.cond_t j12 q12
    refine aops_yes rfl rfl rfl rfl q12 (st_move rfl rfl) ?_
    obtain ⟨g16, j12⟩ := Md.ifp_s j12
    refine aops_yes rfl rfl rfl rfl q12 (ev_index_in rfl rfl rfl g16 rfl rfl) ?_
    refine aops_yes rfl rfl rfl rfl q12 (ev_field_in rfl rfl rfl) ?_
    refine aops_yes rfl rfl rfl rfl q12 (ev_load_in rfl rfl rfl) ?_
    refine aops_yes rfl rfl rfl rfl q12 (ev_cmp rfl rfl rfl rfl) ?_
    refine aops_step1 rfl (st_pick_yes rfl (by first | rfl | exact q12) rfl rfl) ?_
    refine aops_nil ?_
    show ∃ _x : Bool, _ = _ ∧ Weak _ _
    exact ⟨(((x5.1.getD 0 default).Kind) == 7), Option.some.inj j12, (by (refine weak_mk rfl rfl ?_ ?_ rfl <;> repeat' (first | exact trivial | refine ⟨?_, ?_⟩ | exact .refl _ | refine .one (.val ?_) | exact .one (.nil _) | exact .one (.emp _) | refine .box ?_ | refine .agg ?_ | exact .nil | refine .cons ?_ ?_ | exact .nil _ | exact .emp _ | fail)))⟩
  replace j12 := Md.cond_f j12 q12
  refine aops_no rfl rfl rfl rfl rfl (by first | decide | (rw [q12]; decide)) ?_
  refine aops_no rfl rfl rfl rfl rfl (by first | decide | (rw [q12]; decide)) ?_
  refine aops_no rfl rfl rfl rfl rfl (by first | decide | (rw [q12]; decide)) ?_
  refine aops_no rfl rfl rfl rfl rfl (by first | decide | (rw [q12]; decide)) ?_
  refine aops_no rfl rfl rfl rfl rfl (by first | decide | (rw [q12]; decide)) ?_
  refine aops_step1 rfl (st_pick_no rfl (by first | rfl | exact q12) rfl rfl) ?_
  refine aops_nil ?_
  show ∃ _x : Bool, _ = _ ∧ Weak _ _
  exact ⟨false, Option.some.inj j12, (by (refine weak_mk rfl rfl ?_ ?_ rfl <;> repeat' (first | exact trivial | refine ⟨?_, ?_⟩ | exact .refl _ | refine .one (.val ?_) | exact .one (.nil _) | exact .one (.emp _) | refine .box ?_ | refine .agg ?_ | exact .nil | refine .cons ?_ ?_ | exact .nil _ | exact .emp _ | fail)))⟩
end Md
end Go.Proofs.Ytkcfkcgclljncaa
