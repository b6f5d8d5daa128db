/-
  JourL: where a function's model gives a value, the function returns what reads as it (printed by wip/tools/auto.py). Condition of each: the model gives a value.
-/
import Derived.Test.YtkcfkcgclljncaaJourLM
import Derived.Test.YtkcfkcgclljncaaTy
import Derived.Test.YtkcfkcgclljncaaAbsRa
import Derived.Test.YtkcfkcgclljncaaJourB
namespace Go.Proofs.Ytkcfkcgclljncaa
open Go.ChangeShapes Go.WideShapes Go.RowKit
open Abs
set_option linter.unusedVariables false
set_option linter.unusedSimpArgs false
set_option maxRecDepth 10000
namespace Md
def c_Disk (x : Disk) : List CV := [CV.ls byC x.Data, .val (.int .i64 x.Capacity), .val (.bool x.Armed), .val (.int .i64 x.Writes), .val (.int .i64 x.Keep), .val (.bool x.Down)]
set_option maxHeartbeats 2000000 in
theorem actorgridlaw27_awake_fn (k : Nat) (r : Bool) (h : actorgridlaw27_awake k = some r) : FnC Try.prog 31 [] [] (Det (.one (.val (.bool r))) []) := by
  unfold actorgridlaw27_awake at h
  refine fn_intro' 74 Try.func31 rfl rfl rfl ?_
  refine aw_seq ?_
  refine aw_region ?_
  refine aops_step1 rfl (st_alloc (cs := [.val (.bool false)]) 0 rfl rfl rfl rfl rfl) ?_
  refine aops_nil ?_
  refine aw_seq ?_
  refine aw_region ?_
  obtain ⟨x1, hx1, h⟩ := Md.bind_s h
  refine aops_step1 rfl (ev_call_v (disk_New_fn k 100 x1 hx1) rfl [] (by repeat' (first | exact All2.nil | refine All2.cons ?_ ?_ | refine ArgV.one ?_ | refine ArgV.agg ?_ | exact ArgC.mk rfl | exact ArgC.lend rfl (by simp) | exact ArgC.le (CLe.nil _) rfl | exact ArgC.le (CLe.emp _) rfl | exact ArgC.le (CLe.any _) rfl)) rfl rfl rfl (.inl rfl) rfl) ?_
  refine aops_step1 rfl (st_movet rfl rfl) ?_
  refine aops_step1 rfl (ev_extract rfl rfl rfl) ?_
  refine aops_step1 rfl (ev_extract rfl rfl rfl) ?_
  refine aops_step1 rfl (st_alloc (cs := [.val (.slice none 0 0), .val (.int .i64 0), .val (.bool false), .val (.int .i64 0), .val (.int .i64 0), .val (.bool false)]) 1 rfl rfl rfl rfl rfl) ?_
  refine aops_step1 rfl (st_store (cs' := [_, _, _, _, _, _]) rfl rfl rfl rfl rfl rfl rfl rfl rfl) ?_
  refine aops_step1 rfl (st_assign rfl rfl) ?_
  refine aops_nil ?_
  refine aw_seq ?_
  refine aw_seq ?_
  refine aw_region ?_
  refine aops_step1 rfl (st_move rfl rfl) ?_
  refine aops_step1 rfl (ev_cmp rfl rfl rfl rfl) ?_
  refine aops_nil ?_
  refine aw_cond rfl (fun c2 => ?_) (fun c2 => ?_)
  · replace h := Md.cond_t h c2
    refine aw_seq ?_
    refine aw_region ?_
    refine aops_step1 rfl (st_store (cs' := [_]) rfl rfl rfl rfl rfl rfl rfl rfl rfl) ?_
    refine aops_nil ?_
    cases Option.some.inj h
    refine aw_ret ⟨rfl, ret_v (.inl ⟨_, rfl, ⟨_, _, _, _, _, rfl, rfl, TVar.h, rfl, _, rfl, rfl⟩, fun _ e => nomatch e⟩) rfl rfl rfl ?_⟩
    (repeat' (first | exact TLe.refl _ | exact VLe.refl _ | exact CLe.refl _ | exact All2.nil | refine TLe.tup ?_ | refine TLe.v ?_ | refine All2.cons ?_ ?_ | refine VLe.agg ?_ | refine VLe.one ?_ | exact CLe.nil _ | exact CLe.emp _ | refine CLe.val ?_ | refine CLe.slc ?_ ?_))
  replace h := Md.cond_f h c2
  refine aw_skip ?_
  refine aw_seq ?_
  refine aw_region ?_
  refine aops_step1 rfl (ev_loads (ds := [_, _, _, _, _, _]) rfl rfl rfl rfl rfl) ?_
  refine aops_step1 rfl (st_slice_lit (el := lsEl byC [(120 : UInt8)]) 2 rfl rfl rfl rfl rfl rfl rfl rfl (lit_el byC 1 [(120 : UInt8)] (fun _ => rfl)) rfl) ?_
  refine aops_step1 rfl (st_conv_own rfl rfl (by decide) Try.underlying24 Try.underlying5 rfl) ?_
  refine aops_step1 rfl (ev_build' (out := [_, _]) rfl rfl rfl rfl rfl) ?_
  obtain ⟨x3, hx3, h⟩ := Md.bind_s h
  refine aops_step1 rfl (ev_call_v (journal_Append_fn k x1.1 (⟨7, [(120 : UInt8)]⟩ : JournalRecord) x3 hx3) rfl [] (by repeat' (first | exact All2.nil | refine All2.cons ?_ ?_ | refine ArgV.one ?_ | refine ArgV.agg ?_ | exact ArgC.mk rfl | exact ArgC.lend rfl (by simp) | exact ArgC.le (CLe.nil _) rfl | exact ArgC.le (CLe.emp _) rfl | exact ArgC.le (CLe.any _) rfl)) rfl rfl rfl (.inl rfl) rfl) ?_
  refine aops_step1 rfl (st_movet rfl rfl) ?_
  refine aops_step1 rfl (ev_extract rfl rfl rfl) ?_
  refine aops_step1 rfl (ev_extract rfl rfl rfl) ?_
  refine aops_step1 rfl (st_store (cs' := [_, _, _, _, _, _]) rfl rfl rfl rfl rfl rfl rfl rfl rfl) ?_
  refine aops_step1 rfl (st_assign rfl rfl) ?_
  refine aops_nil ?_
  refine aw_seq ?_
  refine aw_seq ?_
  refine aw_region ?_
  refine aops_step1 rfl (st_move rfl rfl) ?_
  refine aops_step1 rfl (ev_cmp rfl rfl rfl rfl) ?_
  refine aops_nil ?_
  refine aw_cond rfl (fun c4 => ?_) (fun c4 => ?_)
  · replace h := Md.cond_t h c4
    refine aw_seq ?_
    refine aw_region ?_
    refine aops_step1 rfl (st_store (cs' := [_]) rfl rfl rfl rfl rfl rfl rfl rfl rfl) ?_
    refine aops_nil ?_
    cases Option.some.inj h
    refine aw_ret ⟨rfl, ret_v (.inl ⟨_, rfl, ⟨_, _, _, _, _, rfl, rfl, TVar.h, rfl, _, rfl, rfl⟩, fun _ e => nomatch e⟩) rfl rfl rfl ?_⟩
    (repeat' (first | exact TLe.refl _ | exact VLe.refl _ | exact CLe.refl _ | exact All2.nil | refine TLe.tup ?_ | refine TLe.v ?_ | refine All2.cons ?_ ?_ | refine VLe.agg ?_ | refine VLe.one ?_ | exact CLe.nil _ | exact CLe.emp _ | refine CLe.val ?_ | refine CLe.slc ?_ ?_))
  replace h := Md.cond_f h c4
  refine aw_skip ?_
  refine aw_seq ?_
  refine aw_region ?_
  refine aops_step1 rfl (ev_loads (ds := [_, _, _, _, _, _]) rfl rfl rfl rfl rfl) ?_
  obtain ⟨x5, hx5, h⟩ := Md.bind_s h
  refine aops_step1 rfl (st_call_r (r' := .tup [.one (.own 3), .agg [CV.ls byC x5.2.1.Data, .val (.int .i64 x5.2.1.Capacity), .val (.bool x5.2.1.Armed), .val (.int .i64 x5.2.1.Writes), .val (.int .i64 x5.2.1.Keep), .val (.bool x5.2.1.Down)], .one (.val (.int .i64 x5.2.2))]) 3 rfl (journal_Recover_fn k x3.1 x5 hx5) rfl [] (by repeat' (first | exact All2.nil | refine All2.cons ?_ ?_ | refine ArgV.one ?_ | refine ArgV.agg ?_ | exact ArgC.mk rfl | exact ArgC.lend rfl (by simp) | exact ArgC.le (CLe.nil _) rfl | exact ArgC.le (CLe.emp _) rfl | exact ArgC.le (CLe.any _) rfl)) rfl rfl rfl (.inl rfl) rfl rfl) ?_
  refine aops_step1 rfl (st_movet rfl rfl) ?_
  refine aops_step1 rfl (ev_extract rfl rfl rfl) ?_
  refine aops_step1 rfl (ev_extract rfl rfl rfl) ?_
  refine aops_step1 rfl (ev_extract rfl rfl rfl) ?_
  refine aops_step1 rfl (st_alloc (cs := [.val (.slice none 0 0), .val (.int .i64 0), .val (.bool false), .val (.int .i64 0), .val (.int .i64 0), .val (.bool false)]) 4 rfl rfl rfl rfl rfl) ?_
  refine aops_step1 rfl (st_assign rfl rfl) ?_
  refine aops_step1 rfl (st_store (cs' := [_, _, _, _, _, _]) rfl rfl rfl rfl rfl rfl rfl rfl rfl) ?_
  refine aops_step1 rfl (st_assign rfl rfl) ?_
  refine aops_nil ?_
  refine aw_seq ?_
  refine aw_region ?_
  refine aops_step1 rfl (ev_field rfl rfl rfl) ?_
  refine aops_step1 rfl (ev_load rfl rfl rfl rfl) ?_
  refine aops_step1 rfl (ev_call_v (journal_Walk_fn x3.1.Data) rfl [] (by repeat' (first | exact All2.nil | refine All2.cons ?_ ?_ | refine ArgV.one ?_ | refine ArgV.agg ?_ | exact ArgC.mk rfl | exact ArgC.lend rfl (by simp) | exact ArgC.le (CLe.nil _) rfl | exact ArgC.le (CLe.emp _) rfl | exact ArgC.le (CLe.any _) rfl)) rfl rfl rfl (.inl rfl) rfl) ?_
  refine aops_step1 rfl (st_assign rfl rfl) ?_
  refine aops_nil ?_
  refine aw_seq ?_
  refine aw_seq ?_
  refine aw_region ?_
  refine aops_step1 rfl (st_move rfl rfl) ?_
  refine aops_step1 rfl (ev_fn_eq rfl rfl rfl Try.underlying60) ?_
  refine aops_nil ?_
  refine aw_no rfl (rfl) ?_
  refine aw_skip ?_
  refine aw_seq ?_
  refine aw_region ?_
  refine aops_step1 rfl (st_alloc (cs := [.val (.int .i64 0)]) 5 rfl rfl rfl rfl rfl) ?_
  refine aops_step1 rfl (st_store (cs' := [_]) rfl rfl rfl rfl rfl rfl rfl rfl rfl) ?_
  refine aops_nil ?_
  refine aw_seq ?_
  refine aw_seq ?_
  refine aw_region ?_
  refine aops_step1 rfl (st_move rfl rfl) ?_
  refine aops_nil ?_
  refine aw_block ?_
  obtain ⟨x6, hx6, h⟩ := Md.bind_s h
  refine aw_freeze 3 rfl ?_
  refine aw_weak (s' := (⟨74, [], [(0, .one (.ptr 0 0)), (2, .one (.val (.int .i64 x5.2.2))), (3, .one (CV.ls c_JournalRecord x5.1)), (6, .one (.ptr 5 0)), (36, .one (.fn 68 [.cptr [CV.ls byC x3.1.Data]]))], [(0, some (.box [.val (.bool false)])), (5, some (.box [.val (.int .i64 0)]))]⟩ : ASt)) (by (refine weak_mk rfl rfl ?_ ?_ rfl <;> repeat' (first | exact trivial | refine ⟨?_, ?_⟩ | exact VLe.refl _ | exact BLe.refl _ | refine VLe.one (CLe.val ?_) | exact VLe.one (CLe.nil _) | exact VLe.one (CLe.emp _)))) ?_
  obtain ⟨o7, ho7, h⟩ := Md.bind_s h
  refine aw_range_l (ι := Nat) (fun (x : Int × JournalRecord) => [.one (.val (.int .i64 x.1)), .agg [.val (.int .i64 x.2.Kind), CV.ls byC x.2.Body]]) x6 (fun p => ([(0, some (.box [.val (.bool false)])), (5, some (.box [.val (.int .i64 ((p : Nat) : Int))]))] : Heap)) (fun ys p => actorgridlaw27_awake_loop1 k ys p = some o7) 0 rfl rfl (journal_Walk_1_it k x3.1.Data x6 hx6) rfl ho7 (fun _ => rfl) rfl ?_ ?_
  · intro y7 ys7 p7 l7
    generalize p7 = s7_0 at l7 ⊢
    refine aw_weak (s' := (⟨74, [0, 5], [(0, .one (.ptr 0 0)), (2, .one (.val (.int .i64 x5.2.2))), (3, .one (CV.ls c_JournalRecord x5.1)), (6, .one (.ptr 5 0)), (36, .one (.fn 68 [.cptr [CV.ls byC x3.1.Data]])), (37, .one (.val (.int .i64 y7.1))), (38, .agg [.val (.int .i64 y7.2.Kind), CV.ls byC y7.2.Body])], [(0, some (.box [.val (.bool false)])), (5, some (.box [.val (.int .i64 ((s7_0 : Nat) : Int))]))]⟩ : ASt)) (by (refine weak_mk rfl rfl ?_ ?_ rfl <;> repeat' (first | exact trivial | refine ⟨?_, ?_⟩ | exact VLe.refl _ | exact BLe.refl _ | refine VLe.one (CLe.val ?_) | exact VLe.one (CLe.nil _) | exact VLe.one (CLe.emp _)))) ?_
    replace l7 : actorgridlaw27_awake_loop1 k (y7 :: ys7) s7_0 = some o7 := l7
    rw [actorgridlaw27_awake_loop1] at l7
    refine aw_seq ?_
    refine aw_region ?_
    refine aops_step1 rfl (st_assign rfl rfl) ?_
    refine aops_nil ?_
    refine aw_region ?_
    refine aops_step1 rfl (st_alloc (cs := [.val (.int .i64 0), .val (.slice none 0 0)]) 6 rfl rfl rfl rfl rfl) ?_
    refine aops_step1 rfl (st_store (cs' := [_, _]) rfl rfl rfl rfl rfl rfl rfl rfl rfl) ?_
    refine aops_nil ?_
    refine aw_weak (s' := (⟨74, [0, 5], [(0, .one (.ptr 0 0)), (2, .one (.val (.int .i64 x5.2.2))), (3, .one (CV.ls c_JournalRecord x5.1)), (6, .one (.ptr 5 0)), (7, .one (.val (.int .i64 y7.1))), (8, .one (.ptr 6 0)), (36, .one (.fn 68 [.cptr [CV.ls byC x3.1.Data]])), (37, .one (.val (.int .i64 y7.1))), (38, .agg [.val (.int .i64 y7.2.Kind), CV.ls byC y7.2.Body])], [(0, some (.box [.val (.bool false)])), (5, some (.box [.val (.int .i64 ((s7_0 : Nat) : Int))])), (6, some (.box [.val (.int .i64 y7.2.Kind), CV.ls byC y7.2.Body]))]⟩ : ASt)) (by (refine weak_mk rfl rfl ?_ ?_ rfl <;> repeat' (first | exact trivial | refine ⟨?_, ?_⟩ | exact VLe.refl _ | exact BLe.refl _ | refine VLe.one (CLe.val ?_) | exact VLe.one (CLe.nil _) | exact VLe.one (CLe.emp _)))) ?_
    refine aw_block ?_
    refine aw_seq ?_
    refine aw_seq ?_
    refine aw_region ?_
    refine aops_step1 rfl (st_move rfl rfl) ?_
    refine aops_step1 rfl (ev_cmp rfl rfl rfl rfl) ?_
    refine aops_step1 rfl (st_move rfl rfl) ?_
    refine aops_mid 4 (⟨74, [0, 5], [(0, .one (.ptr 0 0)), (6, .one (.ptr 5 0)), (45, .one (.val (.bool ((y7.1 != 0) || (y7.2.Kind != 7)))))], [(0, some (.box [.val (.bool false)])), (5, some (.box [.val (.int .i64 ((s7_0 : Nat) : Int))]))]⟩ : ASt) ?_ ?_
    · rcases Md.bool_or ((y7.1 != 0)) with q8 | q8
      · skip
        refine aops_no rfl rfl rfl rfl rfl (by first | decide | (rw [q8]; decide)) ?_
        refine aops_no rfl rfl rfl rfl rfl (by first | decide | (rw [q8]; decide)) ?_
        refine aops_no rfl rfl rfl rfl rfl (by first | decide | (rw [q8]; decide)) ?_
        refine aops_step1 rfl (st_pick_yes rfl (by first | rfl | exact q8) rfl rfl) ?_
        refine aops_nil ?_
        show Weak _ _
        (refine weak_mk rfl rfl ?_ ?_ rfl <;> repeat' (first | exact trivial | refine ⟨?_, ?_⟩ | exact VLe.refl _ | exact BLe.refl _ | refine VLe.one (CLe.val ?_) | exact VLe.one (CLe.nil _) | exact VLe.one (CLe.emp _))) <;> (first | (rw [q8]; done) | (rw [q8]; rfl) | (simp [q8]; done))
      refine aops_yes rfl rfl rfl rfl q8 (ev_field rfl rfl rfl) ?_
      refine aops_yes rfl rfl rfl rfl q8 (ev_load rfl rfl rfl rfl) ?_
      refine aops_yes rfl rfl rfl rfl q8 (ev_cmp rfl rfl rfl rfl) ?_
      refine aops_step1 rfl (st_pick_no rfl (by first | rfl | exact q8) rfl rfl) ?_
      refine aops_nil ?_
      show Weak _ _
      (refine weak_mk rfl rfl ?_ ?_ rfl <;> repeat' (first | exact trivial | refine ⟨?_, ?_⟩ | exact VLe.refl _ | exact BLe.refl _ | refine VLe.one (CLe.val ?_) | exact VLe.one (CLe.nil _) | exact VLe.one (CLe.emp _))) <;> (first | (rw [q8]; done) | (rw [q8]; rfl) | (simp [q8]; done))
    change AOps _ _ _ (⟨74, [0, 5], [(0, .one (.ptr 0 0)), (6, .one (.ptr 5 0)), (45, .one (.val (.bool ((y7.1 != 0) || (y7.2.Kind != 7)))))], [(0, some (.box [.val (.bool false)])), (5, some (.box [.val (.int .i64 ((s7_0 : Nat) : Int))]))]⟩ : ASt) _
    refine aops_nil ?_
    refine aw_cond rfl (fun c9 => ?_) (fun c9 => ?_)
    · replace l7 := Md.cond_t l7 c9
      refine aw_seq ?_
      refine aw_region ?_
      refine aops_step1 rfl (st_store (cs' := [_]) rfl rfl rfl rfl rfl rfl rfl rfl rfl) ?_
      refine aops_nil ?_
      cases Option.some.inj l7
      replace h := Md.onS_r h
      cases Option.some.inj h
      refine aw_ret ⟨rfl, ?_⟩
      refine ⟨rfl, ret_v (.inl ⟨_, rfl, ⟨_, _, _, _, _, rfl, rfl, TVar.h, rfl, _, rfl, rfl⟩, fun _ e => nomatch e⟩) rfl rfl rfl ?_⟩
      (repeat' (first | exact TLe.refl _ | exact VLe.refl _ | exact CLe.refl _ | exact All2.nil | refine TLe.tup ?_ | refine TLe.v ?_ | refine All2.cons ?_ ?_ | refine VLe.agg ?_ | refine VLe.one ?_ | exact CLe.nil _ | exact CLe.emp _ | refine CLe.val ?_ | refine CLe.slc ?_ ?_))
    replace l7 := Md.cond_f l7 c9
    refine aw_skip ?_
    refine aw_region ?_
    refine aops_step1 rfl (ev_load rfl rfl rfl rfl) ?_
    obtain ⟨g10, l7⟩ := Md.ifp_s l7
    refine aops_step1 rfl (ev_add rfl rfl rfl (Md.nat_add g10)) ?_
    refine aops_step1 rfl (st_store (cs' := [_]) rfl rfl rfl rfl rfl rfl rfl rfl rfl) ?_
    refine aops_nil ?_
    exact ⟨rfl, (s7_0 + 1), l7, (by (refine weak_mk rfl rfl ?_ ?_ rfl <;> repeat' (first | exact trivial | refine ⟨?_, ?_⟩ | exact VLe.refl _ | exact BLe.refl _ | refine VLe.one (CLe.val ?_) | exact VLe.one (CLe.nil _) | exact VLe.one (CLe.emp _))))⟩
  intro p7 l7
  generalize p7 = x7_0 at l7 ⊢
  replace l7 : some (Sum.inl x7_0) = some o7 := l7
  have e7 := Option.some.inj l7
  subst e7
  replace h := Md.onS_l h
  change AW _ _ (⟨74, [], [(0, .one (.ptr 0 0)), (2, .one (.val (.int .i64 x5.2.2))), (3, .one (CV.ls c_JournalRecord x5.1)), (6, .one (.ptr 5 0)), (36, .one (.fn 68 [.cptr [CV.ls byC x3.1.Data]]))], [(0, some (.box [.val (.bool false)])), (5, some (.box [.val (.int .i64 ((x7_0 : Nat) : Int))]))]⟩ : ASt) _
  refine aw_seq ?_
  refine aw_region ?_
  refine aops_step1 rfl (st_move rfl rfl) ?_
  refine aops_step1 rfl (ev_cmp rfl rfl rfl rfl) ?_
  refine aops_step1 rfl (st_move rfl rfl) ?_
  refine aops_mid 4 (⟨74, [], [(0, .one (.ptr 0 0)), (3, .one (CV.ls c_JournalRecord x5.1)), (6, .one (.ptr 5 0)), (54, .one (.val (.bool ((x5.2.2 == 0) && (((x5.1.length : Nat) : Int) == 1)))))], [(0, some (.box [.val (.bool false)])), (5, some (.box [.val (.int .i64 ((x7_0 : Nat) : Int))]))]⟩ : ASt) ?_ ?_
  · rcases Md.bool_or ((x5.2.2 == 0)) with q11 | q11
    · skip
      refine aops_yes rfl rfl rfl rfl q11 (st_move rfl rfl) ?_
      refine aops_yes rfl rfl rfl rfl q11 (ev_len_slc rfl rfl) ?_
      refine aops_yes rfl rfl rfl rfl q11 (ev_cmp rfl rfl rfl rfl) ?_
      refine aops_step1 rfl (st_pick_yes rfl (by first | rfl | exact q11) rfl rfl) ?_
      refine aops_nil ?_
      show Weak _ _
      (refine weak_mk rfl rfl ?_ ?_ rfl <;> repeat' (first | exact trivial | refine ⟨?_, ?_⟩ | exact VLe.refl _ | exact BLe.refl _ | refine VLe.one (CLe.val ?_) | exact VLe.one (CLe.nil _) | exact VLe.one (CLe.emp _))) <;> (first | (rw [q11]; done) | (rw [q11]; rfl) | (simp [q11]; done))
    refine aops_no rfl rfl rfl rfl rfl (by first | decide | (rw [q11]; decide)) ?_
    refine aops_no rfl rfl rfl rfl rfl (by first | decide | (rw [q11]; decide)) ?_
    refine aops_no rfl rfl rfl rfl rfl (by first | decide | (rw [q11]; decide)) ?_
    refine aops_step1 rfl (st_pick_no rfl (by first | rfl | exact q11) rfl rfl) ?_
    refine aops_nil ?_
    show Weak _ _
    (refine weak_mk rfl rfl ?_ ?_ rfl <;> repeat' (first | exact trivial | refine ⟨?_, ?_⟩ | exact VLe.refl _ | exact BLe.refl _ | refine VLe.one (CLe.val ?_) | exact VLe.one (CLe.nil _) | exact VLe.one (CLe.emp _))) <;> (first | (rw [q11]; done) | (rw [q11]; rfl) | (simp [q11]; done))
  change AOps _ _ _ (⟨74, [], [(0, .one (.ptr 0 0)), (3, .one (CV.ls c_JournalRecord x5.1)), (6, .one (.ptr 5 0)), (54, .one (.val (.bool ((x5.2.2 == 0) && (((x5.1.length : Nat) : Int) == 1)))))], [(0, some (.box [.val (.bool false)])), (5, some (.box [.val (.int .i64 ((x7_0 : Nat) : Int))]))]⟩ : ASt) _
  refine aops_step1 rfl (st_move rfl rfl) ?_
  obtain ⟨o12, j12, h⟩ := Md.bind_s h
  refine aops_cut 6 (ε := Bool) (fun x12 => (⟨74, [], [(0, .one (.ptr 0 0)), (3, .one (CV.ls c_JournalRecord x5.1)), (6, .one (.ptr 5 0)), (61, .one (.val (.bool x12)))], [(0, some (.box [.val (.bool false)])), (5, some (.box [.val (.int .i64 ((x7_0 : Nat) : Int))]))]⟩ : ASt)) (fun x12 => x12 = o12) ?_ ?_
  · intro x12 hI12
    subst hI12
    change AOps _ _ _ (⟨74, [], [(0, .one (.ptr 0 0)), (3, .one (CV.ls c_JournalRecord x5.1)), (6, .one (.ptr 5 0)), (61, .one (.val (.bool x12)))], [(0, some (.box [.val (.bool false)])), (5, some (.box [.val (.int .i64 ((x7_0 : Nat) : Int))]))]⟩ : ASt) _
    refine aops_step1 rfl (st_move rfl rfl) ?_
    obtain ⟨o13, j13, h⟩ := Md.bind_s h
    refine aops_cut 7 (ε := Bool) (fun x13 => (⟨74, [], [(0, .one (.ptr 0 0)), (6, .one (.ptr 5 0)), (69, .one (.val (.bool x13)))], [(0, some (.box [.val (.bool false)])), (5, some (.box [.val (.int .i64 ((x7_0 : Nat) : Int))]))]⟩ : ASt)) (fun x13 => x13 = o13) ?_ ?_
    · intro x13 hI13
      subst hI13
      change AOps _ _ _ (⟨74, [], [(0, .one (.ptr 0 0)), (6, .one (.ptr 5 0)), (69, .one (.val (.bool x13)))], [(0, some (.box [.val (.bool false)])), (5, some (.box [.val (.int .i64 ((x7_0 : Nat) : Int))]))]⟩ : ASt) _
      refine aops_step1 rfl (st_move rfl rfl) ?_
      refine aops_mid 3 (⟨74, [], [(0, .one (.ptr 0 0)), (73, .one (.val (.bool (x13 && (((x7_0 : Nat) : Int) == 1)))))], [(0, some (.box [.val (.bool false)]))]⟩ : ASt) ?_ ?_
      · rcases Md.bool_or (x13) with q14 | q14
        · skip
          refine aops_yes rfl rfl rfl rfl q14 (ev_load rfl rfl rfl rfl) ?_
          refine aops_yes rfl rfl rfl rfl q14 (ev_cmp rfl rfl rfl rfl) ?_
          refine aops_step1 rfl (st_pick_yes rfl (by first | rfl | exact q14) rfl rfl) ?_
          refine aops_nil ?_
          show Weak _ _
          (refine weak_mk rfl rfl ?_ ?_ rfl <;> repeat' (first | exact trivial | refine ⟨?_, ?_⟩ | exact VLe.refl _ | exact BLe.refl _ | refine VLe.one (CLe.val ?_) | exact VLe.one (CLe.nil _) | exact VLe.one (CLe.emp _))) <;> (first | (rw [q14]; done) | (rw [q14]; rfl) | (simp [q14]; done))
        refine aops_no rfl rfl rfl rfl rfl (by first | decide | (rw [q14]; decide)) ?_
        refine aops_no rfl rfl rfl rfl rfl (by first | decide | (rw [q14]; decide)) ?_
        refine aops_step1 rfl (st_pick_no rfl (by first | rfl | exact q14) rfl rfl) ?_
        refine aops_nil ?_
        show Weak _ _
        (refine weak_mk rfl rfl ?_ ?_ rfl <;> repeat' (first | exact trivial | refine ⟨?_, ?_⟩ | exact VLe.refl _ | exact BLe.refl _ | refine VLe.one (CLe.val ?_) | exact VLe.one (CLe.nil _) | exact VLe.one (CLe.emp _))) <;> (first | (rw [q14]; done) | (rw [q14]; rfl) | (simp [q14]; done))
      change AOps _ _ _ (⟨74, [], [(0, .one (.ptr 0 0)), (73, .one (.val (.bool (x13 && (((x7_0 : Nat) : Int) == 1)))))], [(0, some (.box [.val (.bool false)]))]⟩ : ASt) _
      refine aops_step1 rfl (st_store (cs' := [_]) rfl rfl rfl rfl rfl rfl rfl rfl rfl) ?_
      refine aops_nil ?_
      cases Option.some.inj h
      refine aw_ret ⟨rfl, ret_v (.inl ⟨_, rfl, ⟨_, _, _, _, _, rfl, rfl, TVar.h, rfl, _, rfl, rfl⟩, fun _ e => nomatch e⟩) rfl rfl rfl ?_⟩
      (repeat' (first | exact TLe.refl _ | exact VLe.refl _ | exact CLe.refl _ | exact All2.nil | refine TLe.tup ?_ | refine TLe.v ?_ | refine All2.cons ?_ ?_ | refine VLe.agg ?_ | refine VLe.one ?_ | exact CLe.nil _ | exact CLe.emp _ | refine CLe.val ?_ | refine CLe.slc ?_ ?_))
    rcases Md.bool_or (x12) with q13 | q13
    · replace j13 := Md.cond_t j13 q13
      refine aops_yes rfl rfl rfl rfl q13 (st_move rfl rfl) ?_
      obtain ⟨g15, j13⟩ := Md.ifp_s j13
      refine aops_yes rfl rfl rfl rfl q13 (ev_index_in rfl rfl rfl g15 rfl rfl) ?_
      refine aops_yes rfl rfl rfl rfl q13 (ev_field_in rfl rfl rfl) ?_
      refine aops_yes rfl rfl rfl rfl q13 (ev_load_in rfl rfl rfl) ?_
      refine aops_yes rfl rfl rfl rfl q13 (ev_str_bytes (.inl rfl) Try.underlying24 Try.underlying5 Try.underlying9 rfl) ?_
      refine aops_yes rfl rfl rfl rfl q13 (st_str_eq rfl rfl rfl) ?_
      refine aops_step1 rfl (st_pick_yes rfl (by first | rfl | exact q13) rfl rfl) ?_
      refine aops_nil ?_
      show ∃ _x : Bool, _ = _ ∧ Weak _ _
      exact ⟨(decide (((x5.1.getD 0 default).Body) = [120])), Option.some.inj j13, (by (refine weak_mk rfl rfl ?_ ?_ rfl <;> repeat' (first | exact trivial | refine ⟨?_, ?_⟩ | exact VLe.refl _ | exact BLe.refl _ | refine VLe.one (CLe.val ?_) | exact VLe.one (CLe.nil _) | exact VLe.one (CLe.emp _))))⟩
    replace j13 := Md.cond_f j13 q13
    refine aops_no rfl rfl rfl rfl rfl (by first | decide | (rw [q13]; decide)) ?_
    refine aops_no rfl rfl rfl rfl rfl (by first | decide | (rw [q13]; decide)) ?_
    refine aops_no rfl rfl rfl rfl rfl (by first | decide | (rw [q13]; decide)) ?_
    refine aops_no rfl rfl rfl rfl rfl (by first | decide | (rw [q13]; decide)) ?_
    refine aops_no rfl rfl rfl rfl rfl (by first | decide | (rw [q13]; decide)) ?_
    refine aops_no rfl rfl rfl rfl rfl (by first | decide | (rw [q13]; decide)) ?_
    refine aops_step1 rfl (st_pick_no rfl (by first | rfl | exact q13) rfl rfl) ?_
    refine aops_nil ?_
    show ∃ _x : Bool, _ = _ ∧ Weak _ _
    exact ⟨false, Option.some.inj j13, (by (refine weak_mk rfl rfl ?_ ?_ rfl <;> repeat' (first | exact trivial | refine ⟨?_, ?_⟩ | exact VLe.refl _ | exact BLe.refl _ | refine VLe.one (CLe.val ?_) | exact VLe.one (CLe.nil _) | exact VLe.one (CLe.emp _))))⟩
  rcases Md.bool_or (((x5.2.2 == 0) && (((x5.1.length : Nat) : Int) == 1))) with q12 | q12
  · replace j12 := Md.cond_t j12 q12
    refine aops_yes rfl rfl rfl rfl q12 (st_move rfl rfl) ?_
    obtain ⟨g16, j12⟩ := Md.ifp_s j12
    refine aops_yes rfl rfl rfl rfl q12 (ev_index_in rfl rfl rfl g16 rfl rfl) ?_
    refine aops_yes rfl rfl rfl rfl q12 (ev_field_in rfl rfl rfl) ?_
    refine aops_yes rfl rfl rfl rfl q12 (ev_load_in rfl rfl rfl) ?_
    refine aops_yes rfl rfl rfl rfl q12 (ev_cmp rfl rfl rfl rfl) ?_
    refine aops_step1 rfl (st_pick_yes rfl (by first | rfl | exact q12) rfl rfl) ?_
    refine aops_nil ?_
    show ∃ _x : Bool, _ = _ ∧ Weak _ _
    exact ⟨(((x5.1.getD 0 default).Kind) == 7), Option.some.inj j12, (by (refine weak_mk rfl rfl ?_ ?_ rfl <;> repeat' (first | exact trivial | refine ⟨?_, ?_⟩ | exact VLe.refl _ | exact BLe.refl _ | refine VLe.one (CLe.val ?_) | exact VLe.one (CLe.nil _) | exact VLe.one (CLe.emp _))))⟩
  replace j12 := Md.cond_f j12 q12
  refine aops_no rfl rfl rfl rfl rfl (by first | decide | (rw [q12]; decide)) ?_
  refine aops_no rfl rfl rfl rfl rfl (by first | decide | (rw [q12]; decide)) ?_
  refine aops_no rfl rfl rfl rfl rfl (by first | decide | (rw [q12]; decide)) ?_
  refine aops_no rfl rfl rfl rfl rfl (by first | decide | (rw [q12]; decide)) ?_
  refine aops_no rfl rfl rfl rfl rfl (by first | decide | (rw [q12]; decide)) ?_
  refine aops_step1 rfl (st_pick_no rfl (by first | rfl | exact q12) rfl rfl) ?_
  refine aops_nil ?_
  show ∃ _x : Bool, _ = _ ∧ Weak _ _
  exact ⟨false, Option.some.inj j12, (by (refine weak_mk rfl rfl ?_ ?_ rfl <;> repeat' (first | exact trivial | refine ⟨?_, ?_⟩ | exact VLe.refl _ | exact BLe.refl _ | refine VLe.one (CLe.val ?_) | exact VLe.one (CLe.nil _) | exact VLe.one (CLe.emp _))))⟩
set_option maxHeartbeats 2000000 in
theorem actorgridlaw27_JournalAppends_fn (k : Nat) (a0 : Disk) (a1 : JournalRecord) (r : Bool) (h : actorgridlaw27_JournalAppends k a0 a1 = some r) : FnC Try.prog 6 [.agg [CV.ls byC a0.Data, .val (.int .i64 a0.Capacity), .val (.bool a0.Armed), .val (.int .i64 a0.Writes), .val (.int .i64 a0.Keep), .val (.bool a0.Down)], .agg [.val (.int .i64 a1.Kind), CV.ls byC a1.Body]] [] (Det (.one (.val (.bool r))) []) := by
  unfold actorgridlaw27_JournalAppends at h
  refine fn_intro' 48 Try.func6 rfl rfl rfl ?_
  refine aw_seq ?_
  refine aw_region ?_
  refine aops_step1 rfl (st_box 0 rfl rfl rfl rfl) ?_
  refine aops_step1 rfl (st_box 1 rfl rfl rfl rfl) ?_
  refine aops_step1 rfl (st_assign rfl rfl) ?_
  refine aops_nil ?_
  refine aw_seq ?_
  refine aw_seq ?_
  refine aw_region ?_
  obtain ⟨x1, hx1, h⟩ := Md.bind_s h
  refine aops_step1 rfl (ev_call_v (actorgridlaw27_awake_fn k x1 hx1) rfl [] (by repeat' (first | exact All2.nil | refine All2.cons ?_ ?_ | refine ArgV.one ?_ | refine ArgV.agg ?_ | exact ArgC.mk rfl | exact ArgC.lend rfl (by simp) | exact ArgC.le (CLe.nil _) rfl | exact ArgC.le (CLe.emp _) rfl | exact ArgC.le (CLe.any _) rfl)) rfl rfl rfl (.inl rfl) rfl) ?_
  refine aops_step1 rfl (ev_not rfl rfl) ?_
  refine aops_nil ?_
  refine aw_cond rfl (fun c2 => ?_) (fun c2 => ?_)
  · replace h := Md.cond_t h c2
    refine aw_seq ?_
    refine aw_region ?_
    refine aops_step1 rfl (st_assign rfl rfl) ?_
    refine aops_nil ?_
    cases Option.some.inj h
    refine aw_ret ⟨rfl, ret_v (.inl ⟨_, rfl, rfl, fun _ e => nomatch e⟩) rfl rfl rfl ?_⟩
    (repeat' (first | exact TLe.refl _ | exact VLe.refl _ | exact CLe.refl _ | exact All2.nil | refine TLe.tup ?_ | refine TLe.v ?_ | refine All2.cons ?_ ?_ | refine VLe.agg ?_ | refine VLe.one ?_ | exact CLe.nil _ | exact CLe.emp _ | refine CLe.val ?_ | refine CLe.slc ?_ ?_))
  replace h := Md.cond_f h c2
  refine aw_skip ?_
  refine aw_seq ?_
  refine aw_seq ?_
  refine aw_region ?_
  refine aops_step1 rfl (ev_field rfl rfl rfl) ?_
  refine aops_step1 rfl (ev_load rfl rfl rfl rfl) ?_
  refine aops_step1 rfl (ev_len_slc rfl rfl) ?_
  refine aops_step1 rfl (ev_cmp rfl rfl rfl rfl) ?_
  refine aops_step1 rfl (st_move rfl rfl) ?_
  refine aops_mid 5 (⟨48, [], [(2, .one (.ptr 0 0)), (3, .one (.ptr 1 0)), (20, .one (.val (.bool ((decide (((a0.Data.length : Nat) : Int) > 3000)) || (decide (((a1.Body.length : Nat) : Int) > 3000))))))], [(0, some (.box [CV.ls byC a0.Data, .val (.int .i64 a0.Capacity), .val (.bool a0.Armed), .val (.int .i64 a0.Writes), .val (.int .i64 a0.Keep), .val (.bool a0.Down)])), (1, some (.box [.val (.int .i64 a1.Kind), CV.ls byC a1.Body]))]⟩ : ASt) ?_ ?_
  · rcases Md.bool_or ((decide (((a0.Data.length : Nat) : Int) > 3000))) with q3 | q3
    · skip
      refine aops_no rfl rfl rfl rfl rfl (by first | decide | (rw [q3]; decide)) ?_
      refine aops_no rfl rfl rfl rfl rfl (by first | decide | (rw [q3]; decide)) ?_
      refine aops_no rfl rfl rfl rfl rfl (by first | decide | (rw [q3]; decide)) ?_
      refine aops_no rfl rfl rfl rfl rfl (by first | decide | (rw [q3]; decide)) ?_
      refine aops_step1 rfl (st_pick_yes rfl (by first | rfl | exact q3) rfl rfl) ?_
      refine aops_nil ?_
      show Weak _ _
      (refine weak_mk rfl rfl ?_ ?_ rfl <;> repeat' (first | exact trivial | refine ⟨?_, ?_⟩ | exact VLe.refl _ | exact BLe.refl _ | refine VLe.one (CLe.val ?_) | exact VLe.one (CLe.nil _) | exact VLe.one (CLe.emp _))) <;> (first | (rw [q3]; done) | (rw [q3]; rfl) | (simp [q3]; done))
    refine aops_yes rfl rfl rfl rfl q3 (ev_field rfl rfl rfl) ?_
    refine aops_yes rfl rfl rfl rfl q3 (ev_load rfl rfl rfl rfl) ?_
    refine aops_yes rfl rfl rfl rfl q3 (ev_len_slc rfl rfl) ?_
    refine aops_yes rfl rfl rfl rfl q3 (ev_cmp rfl rfl rfl rfl) ?_
    refine aops_step1 rfl (st_pick_no rfl (by first | rfl | exact q3) rfl rfl) ?_
    refine aops_nil ?_
    show Weak _ _
    (refine weak_mk rfl rfl ?_ ?_ rfl <;> repeat' (first | exact trivial | refine ⟨?_, ?_⟩ | exact VLe.refl _ | exact BLe.refl _ | refine VLe.one (CLe.val ?_) | exact VLe.one (CLe.nil _) | exact VLe.one (CLe.emp _))) <;> (first | (rw [q3]; done) | (rw [q3]; rfl) | (simp [q3]; done))
  change AOps _ _ _ (⟨48, [], [(2, .one (.ptr 0 0)), (3, .one (.ptr 1 0)), (20, .one (.val (.bool ((decide (((a0.Data.length : Nat) : Int) > 3000)) || (decide (((a1.Body.length : Nat) : Int) > 3000))))))], [(0, some (.box [CV.ls byC a0.Data, .val (.int .i64 a0.Capacity), .val (.bool a0.Armed), .val (.int .i64 a0.Writes), .val (.int .i64 a0.Keep), .val (.bool a0.Down)])), (1, some (.box [.val (.int .i64 a1.Kind), CV.ls byC a1.Body]))]⟩ : ASt) _
  refine aops_nil ?_
  refine aw_cond rfl (fun c4 => ?_) (fun c4 => ?_)
  · replace h := Md.cond_t h c4
    refine aw_seq ?_
    refine aw_region ?_
    refine aops_step1 rfl (st_assign rfl rfl) ?_
    refine aops_nil ?_
    cases Option.some.inj h
    refine aw_ret ⟨rfl, ret_v (.inl ⟨_, rfl, rfl, fun _ e => nomatch e⟩) rfl rfl rfl ?_⟩
    (repeat' (first | exact TLe.refl _ | exact VLe.refl _ | exact CLe.refl _ | exact All2.nil | refine TLe.tup ?_ | refine TLe.v ?_ | refine All2.cons ?_ ?_ | refine VLe.agg ?_ | refine VLe.one ?_ | exact CLe.nil _ | exact CLe.emp _ | refine CLe.val ?_ | refine CLe.slc ?_ ?_))
  replace h := Md.cond_f h c4
  refine aw_skip ?_
  refine aw_seq ?_
  refine aw_region ?_
  refine aops_step1 rfl (ev_loads (ds := [_, _, _, _, _, _]) rfl rfl rfl rfl rfl) ?_
  refine aops_step1 rfl (ev_loads (ds := [_, _]) rfl rfl rfl rfl rfl) ?_
  obtain ⟨x5, hx5, h⟩ := Md.bind_s h
  refine aops_step1 rfl (ev_call_v (journal_Append_fn k a0 a1 x5 hx5) rfl [] (by repeat' (first | exact All2.nil | refine All2.cons ?_ ?_ | refine ArgV.one ?_ | refine ArgV.agg ?_ | exact ArgC.mk rfl | exact ArgC.lend rfl (by simp) | exact ArgC.le (CLe.nil _) rfl | exact ArgC.le (CLe.emp _) rfl | exact ArgC.le (CLe.any _) rfl)) rfl rfl rfl (.inl rfl) rfl) ?_
  refine aops_step1 rfl (st_movet rfl rfl) ?_
  refine aops_step1 rfl (ev_extract rfl rfl rfl) ?_
  refine aops_step1 rfl (ev_extract rfl rfl rfl) ?_
  refine aops_step1 rfl (st_alloc (cs := [.val (.slice none 0 0), .val (.int .i64 0), .val (.bool false), .val (.int .i64 0), .val (.int .i64 0), .val (.bool false)]) 2 rfl rfl rfl rfl rfl) ?_
  refine aops_step1 rfl (st_store (cs' := [_, _, _, _, _, _]) rfl rfl rfl rfl rfl rfl rfl rfl rfl) ?_
  refine aops_step1 rfl (st_assign rfl rfl) ?_
  refine aops_nil ?_
  refine aw_seq ?_
  refine aw_region ?_
  refine aops_step1 rfl (ev_loads (ds := [_, _, _, _, _, _]) rfl rfl rfl rfl rfl) ?_
  refine aops_step1 rfl (ev_loads (ds := [_, _]) rfl rfl rfl rfl rfl) ?_
  obtain ⟨x6, hx6, h⟩ := Md.bind_s h
  refine aops_step1 rfl (ev_call_v (actorgridref26_AppendRecord_fn k a0 a1 x6 hx6) rfl [] (by repeat' (first | exact All2.nil | refine All2.cons ?_ ?_ | refine ArgV.one ?_ | refine ArgV.agg ?_ | exact ArgC.mk rfl | exact ArgC.lend rfl (by simp) | exact ArgC.le (CLe.nil _) rfl | exact ArgC.le (CLe.emp _) rfl | exact ArgC.le (CLe.any _) rfl)) rfl rfl rfl (.inl rfl) rfl) ?_
  refine aops_step1 rfl (st_movet rfl rfl) ?_
  refine aops_step1 rfl (ev_extract rfl rfl rfl) ?_
  refine aops_step1 rfl (ev_extract rfl rfl rfl) ?_
  refine aops_step1 rfl (st_alloc (cs := [.val (.slice none 0 0), .val (.int .i64 0), .val (.bool false), .val (.int .i64 0), .val (.int .i64 0), .val (.bool false)]) 3 rfl rfl rfl rfl rfl) ?_
  refine aops_step1 rfl (st_store (cs' := [_, _, _, _, _, _]) rfl rfl rfl rfl rfl rfl rfl rfl rfl) ?_
  refine aops_step1 rfl (st_assign rfl rfl) ?_
  refine aops_nil ?_
  rcases Md.bool_or ((x5.2 == x6.2)) with q7 | q7
  · replace h := Md.cond_t h q7
    obtain ⟨x8, hx8, h⟩ := Md.bind_s h
    rcases Md.bool_or (x8) with q9 | q9
    · replace h := Md.cond_t h q9
      obtain ⟨x10, hx10, h⟩ := Md.bind_s h
      obtain ⟨x11, hx11, h⟩ := Md.bind_s h
      refine aw_seq ?_
      apply aw_draw 12 ((⟨[], .one (.val (.int .i64 x5.2))⟩ : Add) :: ⟨[], .one (.val (.int .i64 x6.2))⟩ :: ⟨[], .one (.val (.bool (x5.2 == x6.2)))⟩ :: ⟨[], .one (.val (.bool (x5.2 == x6.2)))⟩ :: ⟨[], .agg [CV.ls byC x5.1.Data, .val (.int .i64 x5.1.Capacity), .val (.bool x5.1.Armed), .val (.int .i64 x5.1.Writes), .val (.int .i64 x5.1.Keep), .val (.bool x5.1.Down)]⟩ :: ⟨[], .agg [CV.ls byC x6.1.Data, .val (.int .i64 x6.1.Capacity), .val (.bool x6.1.Armed), .val (.int .i64 x6.1.Writes), .val (.int .i64 x6.1.Keep), .val (.bool x6.1.Down)]⟩ :: ⟨[], .one (.val (.bool x8))⟩ :: ⟨[], .one (.val (.bool x8))⟩ :: ⟨[], .one (.val (.bool x8))⟩ :: ⟨[], .agg [.val (.int .i64 a1.Kind), CV.ls byC a1.Body]⟩ :: ⟨[], .one (.val (.bool x10))⟩ :: ⟨[], .agg [.val (.int .i64 a1.Kind), CV.ls byC a1.Body]⟩ :: []) (by decide) rfl ?hk1x ?hf1x ?ho1x ?hr1x
      case ho1x =>
       refine ⟨⟨[], (by decide +kernel), fun S hle hfr => ?_⟩, ?_⟩
       · exact .inl ⟨.inl ⟨rfl, rfl⟩, st_move (hle.ev rfl (by nofun)) (hle.d rfl)⟩
       refine ⟨⟨[], (by decide +kernel), fun S hle hfr => ?_⟩, ?_⟩
       · exact .inl ⟨.inl ⟨rfl, rfl⟩, st_move (hle.ev rfl (by nofun)) (hle.d rfl)⟩
       refine ⟨⟨0 :: 1 :: [], (by decide +kernel), fun S hle hfr => ?_⟩, ?_⟩
       · exact .inl ⟨.inl ⟨rfl, rfl⟩, ev_cmp (hle.ev rfl (by nofun)) (hle.ev rfl (by nofun)) (hle.d rfl) rfl⟩
       refine ⟨⟨2 :: 0 :: 1 :: [], (by decide +kernel), fun S hle hfr => ?_⟩, ?_⟩
       · exact .inl ⟨.inl ⟨rfl, rfl⟩, st_move (hle.ev rfl (by nofun)) (hle.d rfl)⟩
       refine ⟨⟨3 :: 2 :: 0 :: 1 :: [], (by decide +kernel), fun S hle hfr => ?_⟩, ?_⟩
       · exact .inl ⟨.inr (.inl ⟨_, _, _, _, rfl, rfl, (hle.ev (x := .tmp _) rfl (by nofun)), (by rw [hle.nt]; rfl), (by first | rfl | (rw [q7]; rfl))⟩), ev_loads (ds := [_, _, _, _, _, _]) (hle.ev rfl (by nofun)) (hle.heap _ _ rfl) rfl rfl (hle.d rfl)⟩
       refine ⟨⟨3 :: 2 :: 0 :: 1 :: [], (by decide +kernel), fun S hle hfr => ?_⟩, ?_⟩
       · exact .inl ⟨.inr (.inl ⟨_, _, _, _, rfl, rfl, (hle.ev (x := .tmp _) rfl (by nofun)), (by rw [hle.nt]; rfl), (by first | rfl | (rw [q7]; rfl))⟩), ev_loads (ds := [_, _, _, _, _, _]) (hle.ev rfl (by nofun)) (hle.heap _ _ rfl) rfl rfl (hle.d rfl)⟩
       refine ⟨⟨4 :: 5 :: 3 :: 2 :: 0 :: 1 :: [], (by decide +kernel), fun S hle hfr => ?_⟩, ?_⟩
       · exact .inl ⟨.inr (.inl ⟨_, _, _, _, rfl, rfl, (hle.ev (x := .tmp _) rfl (by nofun)), (by rw [hle.nt]; rfl), (by first | rfl | (rw [q7]; rfl))⟩), ev_call_v (actorgridref26_SameDisk_fn k x5.1 x6.1 x8 hx8) (map_ev (.cons (hle.ev rfl (by nofun)) (.cons (hle.ev rfl (by nofun)) (.nil)))) [] (by repeat' (first | exact All2.nil | refine All2.cons ?_ ?_ | refine ArgV.one ?_ | refine ArgV.agg ?_ | exact ArgC.mk rfl | exact ArgC.lend (hle.heap _ _ rfl) (by simp) | exact ArgC.le (CLe.nil _) rfl | exact ArgC.le (CLe.emp _) rfl | exact ArgC.le (CLe.any _) rfl)) rfl rfl rfl (.inl rfl) (hle.d rfl)⟩
       refine ⟨⟨3 :: 6 :: 2 :: 4 :: 5 :: 0 :: 1 :: [], (by decide +kernel), fun S hle hfr => ?_⟩, ?_⟩
       · exact .inl ⟨.inl ⟨rfl, rfl⟩, st_pick_yes (hle.ev rfl (by nofun)) (by first | rfl | exact q7) (hle.ev rfl (by nofun)) (hle.d rfl)⟩
       refine ⟨⟨7 :: 6 :: 3 :: 4 :: 5 :: 2 :: 0 :: 1 :: [], (by decide +kernel), fun S hle hfr => ?_⟩, ?_⟩
       · exact .inl ⟨.inl ⟨rfl, rfl⟩, st_move (hle.ev rfl (by nofun)) (hle.d rfl)⟩
       refine ⟨⟨8 :: 7 :: 6 :: 3 :: 4 :: 5 :: 2 :: 0 :: 1 :: [], (by decide +kernel), fun S hle hfr => ?_⟩, ?_⟩
       · exact .inl ⟨.inr (.inl ⟨_, _, _, _, rfl, rfl, (hle.ev (x := .tmp _) rfl (by nofun)), (by rw [hle.nt]; rfl), (by first | rfl | (rw [q9]; rfl))⟩), ev_loads (ds := [_, _]) (hle.ev rfl (by nofun)) (hle.heap _ _ rfl) rfl rfl (hle.d rfl)⟩
       refine ⟨⟨9 :: 8 :: 7 :: 6 :: 3 :: 4 :: 5 :: 2 :: 0 :: 1 :: [], (by decide +kernel), fun S hle hfr => ?_⟩, ?_⟩
       · exact .inl ⟨.inr (.inl ⟨_, _, _, _, rfl, rfl, (hle.ev (x := .tmp _) rfl (by nofun)), (by rw [hle.nt]; rfl), (by first | rfl | (rw [q9]; rfl))⟩), ev_call_v (journal_ValidRecord_fn k a1 x10 hx10) (map_ev (.cons (hle.ev rfl (by nofun)) (.nil))) [] (by repeat' (first | exact All2.nil | refine All2.cons ?_ ?_ | refine ArgV.one ?_ | refine ArgV.agg ?_ | exact ArgC.mk rfl | exact ArgC.lend (hle.heap _ _ rfl) (by simp) | exact ArgC.le (CLe.nil _) rfl | exact ArgC.le (CLe.emp _) rfl | exact ArgC.le (CLe.any _) rfl)) rfl rfl rfl (.inl rfl) (hle.d rfl)⟩
       refine ⟨⟨8 :: 7 :: 6 :: 3 :: 4 :: 5 :: 2 :: 0 :: 1 :: [], (by decide +kernel), fun S hle hfr => ?_⟩, ?_⟩
       · exact .inl ⟨.inr (.inl ⟨_, _, _, _, rfl, rfl, (hle.ev (x := .tmp _) rfl (by nofun)), (by rw [hle.nt]; rfl), (by first | rfl | (rw [q9]; rfl))⟩), ev_loads (ds := [_, _]) (hle.ev rfl (by nofun)) (hle.heap _ _ rfl) rfl rfl (hle.d rfl)⟩
       exact trivial
      case hk1x => rfl
      case hf1x => rfl
      refine aops_yes rfl rfl rfl rfl q9 (ev_call_v (actorgridref26_ValidRecord_fn k a1 x11 hx11) rfl [] (by repeat' (first | exact All2.nil | refine All2.cons ?_ ?_ | refine ArgV.one ?_ | refine ArgV.agg ?_ | exact ArgC.mk rfl | exact ArgC.lend rfl (by simp) | exact ArgC.le (CLe.nil _) rfl | exact ArgC.le (CLe.emp _) rfl | exact ArgC.le (CLe.any _) rfl)) rfl rfl rfl (.inl rfl) rfl) ?_
      refine aops_yes rfl rfl rfl rfl q9 (ev_bool_eq rfl rfl rfl Try.underlying4 rfl) ?_
      refine aops_step1 rfl (st_pick_yes rfl (by first | rfl | exact q9) rfl rfl) ?_
      refine aops_step1 rfl (st_assign rfl rfl) ?_
      refine aops_nil ?_
      cases Option.some.inj h
      refine aw_ret ⟨rfl, ret_v (.inl ⟨_, rfl, rfl, fun _ e => nomatch e⟩) rfl rfl rfl ?_⟩
      (repeat' (first | exact TLe.refl _ | exact VLe.refl _ | exact CLe.refl _ | exact All2.nil | refine TLe.tup ?_ | refine TLe.v ?_ | refine All2.cons ?_ ?_ | refine VLe.agg ?_ | refine VLe.one ?_ | exact CLe.nil _ | exact CLe.emp _ | refine CLe.val ?_ | refine CLe.slc ?_ ?_))
    replace h := Md.cond_f h q9
    refine aw_seq ?_
    apply aw_draw 12 ((⟨[], .one (.val (.int .i64 x5.2))⟩ : Add) :: ⟨[], .one (.val (.int .i64 x6.2))⟩ :: ⟨[], .one (.val (.bool (x5.2 == x6.2)))⟩ :: ⟨[], .one (.val (.bool (x5.2 == x6.2)))⟩ :: ⟨[], .agg [CV.ls byC x5.1.Data, .val (.int .i64 x5.1.Capacity), .val (.bool x5.1.Armed), .val (.int .i64 x5.1.Writes), .val (.int .i64 x5.1.Keep), .val (.bool x5.1.Down)]⟩ :: ⟨[], .agg [CV.ls byC x6.1.Data, .val (.int .i64 x6.1.Capacity), .val (.bool x6.1.Armed), .val (.int .i64 x6.1.Writes), .val (.int .i64 x6.1.Keep), .val (.bool x6.1.Down)]⟩ :: ⟨[], .one (.val (.bool x8))⟩ :: ⟨[], .one (.val (.bool x8))⟩ :: ⟨[], .one (.val (.bool x8))⟩ :: ⟨[], .tup []⟩ :: ⟨[], .tup []⟩ :: ⟨[], .tup []⟩ :: []) (by decide) rfl ?hk2x ?hf2x ?ho2x ?hr2x
    case ho2x =>
     refine ⟨⟨[], (by decide +kernel), fun S hle hfr => ?_⟩, ?_⟩
     · exact .inl ⟨.inl ⟨rfl, rfl⟩, st_move (hle.ev rfl (by nofun)) (hle.d rfl)⟩
     refine ⟨⟨[], (by decide +kernel), fun S hle hfr => ?_⟩, ?_⟩
     · exact .inl ⟨.inl ⟨rfl, rfl⟩, st_move (hle.ev rfl (by nofun)) (hle.d rfl)⟩
     refine ⟨⟨0 :: 1 :: [], (by decide +kernel), fun S hle hfr => ?_⟩, ?_⟩
     · exact .inl ⟨.inl ⟨rfl, rfl⟩, ev_cmp (hle.ev rfl (by nofun)) (hle.ev rfl (by nofun)) (hle.d rfl) rfl⟩
     refine ⟨⟨2 :: 0 :: 1 :: [], (by decide +kernel), fun S hle hfr => ?_⟩, ?_⟩
     · exact .inl ⟨.inl ⟨rfl, rfl⟩, st_move (hle.ev rfl (by nofun)) (hle.d rfl)⟩
     refine ⟨⟨3 :: 2 :: 0 :: 1 :: [], (by decide +kernel), fun S hle hfr => ?_⟩, ?_⟩
     · exact .inl ⟨.inr (.inl ⟨_, _, _, _, rfl, rfl, (hle.ev (x := .tmp _) rfl (by nofun)), (by rw [hle.nt]; rfl), (by first | rfl | (rw [q7]; rfl))⟩), ev_loads (ds := [_, _, _, _, _, _]) (hle.ev rfl (by nofun)) (hle.heap _ _ rfl) rfl rfl (hle.d rfl)⟩
     refine ⟨⟨3 :: 2 :: 0 :: 1 :: [], (by decide +kernel), fun S hle hfr => ?_⟩, ?_⟩
     · exact .inl ⟨.inr (.inl ⟨_, _, _, _, rfl, rfl, (hle.ev (x := .tmp _) rfl (by nofun)), (by rw [hle.nt]; rfl), (by first | rfl | (rw [q7]; rfl))⟩), ev_loads (ds := [_, _, _, _, _, _]) (hle.ev rfl (by nofun)) (hle.heap _ _ rfl) rfl rfl (hle.d rfl)⟩
     refine ⟨⟨4 :: 5 :: 3 :: 2 :: 0 :: 1 :: [], (by decide +kernel), fun S hle hfr => ?_⟩, ?_⟩
     · exact .inl ⟨.inr (.inl ⟨_, _, _, _, rfl, rfl, (hle.ev (x := .tmp _) rfl (by nofun)), (by rw [hle.nt]; rfl), (by first | rfl | (rw [q7]; rfl))⟩), ev_call_v (actorgridref26_SameDisk_fn k x5.1 x6.1 x8 hx8) (map_ev (.cons (hle.ev rfl (by nofun)) (.cons (hle.ev rfl (by nofun)) (.nil)))) [] (by repeat' (first | exact All2.nil | refine All2.cons ?_ ?_ | refine ArgV.one ?_ | refine ArgV.agg ?_ | exact ArgC.mk rfl | exact ArgC.lend (hle.heap _ _ rfl) (by simp) | exact ArgC.le (CLe.nil _) rfl | exact ArgC.le (CLe.emp _) rfl | exact ArgC.le (CLe.any _) rfl)) rfl rfl rfl (.inl rfl) (hle.d rfl)⟩
     refine ⟨⟨3 :: 6 :: 2 :: 4 :: 5 :: 0 :: 1 :: [], (by decide +kernel), fun S hle hfr => ?_⟩, ?_⟩
     · exact .inl ⟨.inl ⟨rfl, rfl⟩, st_pick_yes (hle.ev rfl (by nofun)) (by first | rfl | exact q7) (hle.ev rfl (by nofun)) (hle.d rfl)⟩
     refine ⟨⟨7 :: 6 :: 3 :: 4 :: 5 :: 2 :: 0 :: 1 :: [], (by decide +kernel), fun S hle hfr => ?_⟩, ?_⟩
     · exact .inl ⟨.inl ⟨rfl, rfl⟩, st_move (hle.ev rfl (by nofun)) (hle.d rfl)⟩
     refine ⟨⟨8 :: 7 :: 6 :: 3 :: 4 :: 5 :: 2 :: 0 :: 1 :: [], (by decide +kernel), fun S hle hfr => ?_⟩, ?_⟩
     · exact .inr ⟨.inr (.inl ⟨_, _, _, _, rfl, rfl, (hle.ev (x := .tmp _) rfl (by nofun)), (by rw [hle.nt]; rfl), (by first | rfl | (rw [q9]; rfl))⟩), rfl, hle.d rfl⟩
     refine ⟨⟨9 :: 8 :: 7 :: 6 :: 3 :: 4 :: 5 :: 2 :: 0 :: 1 :: [], (by decide +kernel), fun S hle hfr => ?_⟩, ?_⟩
     · exact .inr ⟨.inr (.inl ⟨_, _, _, _, rfl, rfl, (hle.ev (x := .tmp _) rfl (by nofun)), (by rw [hle.nt]; rfl), (by first | rfl | (rw [q9]; rfl))⟩), rfl, hle.d rfl⟩
     refine ⟨⟨8 :: 7 :: 6 :: 3 :: 4 :: 5 :: 2 :: 0 :: 1 :: [], (by decide +kernel), fun S hle hfr => ?_⟩, ?_⟩
     · exact .inr ⟨.inr (.inl ⟨_, _, _, _, rfl, rfl, (hle.ev (x := .tmp _) rfl (by nofun)), (by rw [hle.nt]; rfl), (by first | rfl | (rw [q9]; rfl))⟩), rfl, hle.d rfl⟩
     exact trivial
    case hk2x => rfl
    case hf2x => rfl
    refine aops_no rfl rfl rfl rfl rfl (by first | decide | (rw [q9]; decide)) ?_
    refine aops_no rfl rfl rfl rfl rfl (by first | decide | (rw [q9]; decide)) ?_
    refine aops_step1 rfl (st_pick_no rfl (by first | rfl | exact q9) rfl rfl) ?_
    refine aops_step1 rfl (st_assign rfl rfl) ?_
    refine aops_nil ?_
    cases Option.some.inj h
    refine aw_ret ⟨rfl, ret_v (.inl ⟨_, rfl, rfl, fun _ e => nomatch e⟩) rfl rfl rfl ?_⟩
    (repeat' (first | exact TLe.refl _ | exact VLe.refl _ | exact CLe.refl _ | exact All2.nil | refine TLe.tup ?_ | refine TLe.v ?_ | refine All2.cons ?_ ?_ | refine VLe.agg ?_ | refine VLe.one ?_ | exact CLe.nil _ | exact CLe.emp _ | refine CLe.val ?_ | refine CLe.slc ?_ ?_))
  replace h := Md.cond_f h q7
  refine aw_seq ?_
  apply aw_draw 12 ((⟨[], .one (.val (.int .i64 x5.2))⟩ : Add) :: ⟨[], .one (.val (.int .i64 x6.2))⟩ :: ⟨[], .one (.val (.bool (x5.2 == x6.2)))⟩ :: ⟨[], .one (.val (.bool (x5.2 == x6.2)))⟩ :: ⟨[], .tup []⟩ :: ⟨[], .tup []⟩ :: ⟨[], .tup []⟩ :: ⟨[], .one (.val (.bool false))⟩ :: ⟨[], .one (.val (.bool false))⟩ :: ⟨[], .tup []⟩ :: ⟨[], .tup []⟩ :: ⟨[], .tup []⟩ :: []) (by decide) rfl ?hk3x ?hf3x ?ho3x ?hr3x
  case ho3x =>
   refine ⟨⟨[], (by decide +kernel), fun S hle hfr => ?_⟩, ?_⟩
   · exact .inl ⟨.inl ⟨rfl, rfl⟩, st_move (hle.ev rfl (by nofun)) (hle.d rfl)⟩
   refine ⟨⟨[], (by decide +kernel), fun S hle hfr => ?_⟩, ?_⟩
   · exact .inl ⟨.inl ⟨rfl, rfl⟩, st_move (hle.ev rfl (by nofun)) (hle.d rfl)⟩
   refine ⟨⟨0 :: 1 :: [], (by decide +kernel), fun S hle hfr => ?_⟩, ?_⟩
   · exact .inl ⟨.inl ⟨rfl, rfl⟩, ev_cmp (hle.ev rfl (by nofun)) (hle.ev rfl (by nofun)) (hle.d rfl) rfl⟩
   refine ⟨⟨2 :: 0 :: 1 :: [], (by decide +kernel), fun S hle hfr => ?_⟩, ?_⟩
   · exact .inl ⟨.inl ⟨rfl, rfl⟩, st_move (hle.ev rfl (by nofun)) (hle.d rfl)⟩
   refine ⟨⟨3 :: 2 :: 0 :: 1 :: [], (by decide +kernel), fun S hle hfr => ?_⟩, ?_⟩
   · exact .inr ⟨.inr (.inl ⟨_, _, _, _, rfl, rfl, (hle.ev (x := .tmp _) rfl (by nofun)), (by rw [hle.nt]; rfl), (by first | rfl | (rw [q7]; rfl))⟩), rfl, hle.d rfl⟩
   refine ⟨⟨3 :: 2 :: 0 :: 1 :: [], (by decide +kernel), fun S hle hfr => ?_⟩, ?_⟩
   · exact .inr ⟨.inr (.inl ⟨_, _, _, _, rfl, rfl, (hle.ev (x := .tmp _) rfl (by nofun)), (by rw [hle.nt]; rfl), (by first | rfl | (rw [q7]; rfl))⟩), rfl, hle.d rfl⟩
   refine ⟨⟨4 :: 5 :: 3 :: 2 :: 0 :: 1 :: [], (by decide +kernel), fun S hle hfr => ?_⟩, ?_⟩
   · exact .inr ⟨.inr (.inl ⟨_, _, _, _, rfl, rfl, (hle.ev (x := .tmp _) rfl (by nofun)), (by rw [hle.nt]; rfl), (by first | rfl | (rw [q7]; rfl))⟩), rfl, hle.d rfl⟩
   refine ⟨⟨3 :: 6 :: 2 :: 4 :: 5 :: 0 :: 1 :: [], (by decide +kernel), fun S hle hfr => ?_⟩, ?_⟩
   · exact .inl ⟨.inl ⟨rfl, rfl⟩, st_pick_no (hle.ev rfl (by nofun)) (by first | rfl | exact q7) (hle.ev rfl (by nofun)) (hle.d rfl)⟩
   refine ⟨⟨7 :: 6 :: 3 :: 4 :: 5 :: 2 :: 0 :: 1 :: [], (by decide +kernel), fun S hle hfr => ?_⟩, ?_⟩
   · exact .inl ⟨.inl ⟨rfl, rfl⟩, st_move (hle.ev rfl (by nofun)) (hle.d rfl)⟩
   refine ⟨⟨8 :: 7 :: 6 :: 3 :: 4 :: 5 :: 2 :: 0 :: 1 :: [], (by decide +kernel), fun S hle hfr => ?_⟩, ?_⟩
   · exact .inr ⟨.inr (.inl ⟨_, _, _, _, rfl, rfl, (hle.ev (x := .tmp _) rfl (by nofun)), (by rw [hle.nt]; rfl), (by first | rfl | (rw [rfl]; rfl))⟩), rfl, hle.d rfl⟩
   refine ⟨⟨9 :: 8 :: 7 :: 6 :: 3 :: 4 :: 5 :: 2 :: 0 :: 1 :: [], (by decide +kernel), fun S hle hfr => ?_⟩, ?_⟩
   · exact .inr ⟨.inr (.inl ⟨_, _, _, _, rfl, rfl, (hle.ev (x := .tmp _) rfl (by nofun)), (by rw [hle.nt]; rfl), (by first | rfl | (rw [rfl]; rfl))⟩), rfl, hle.d rfl⟩
   refine ⟨⟨8 :: 7 :: 6 :: 3 :: 4 :: 5 :: 2 :: 0 :: 1 :: [], (by decide +kernel), fun S hle hfr => ?_⟩, ?_⟩
   · exact .inr ⟨.inr (.inl ⟨_, _, _, _, rfl, rfl, (hle.ev (x := .tmp _) rfl (by nofun)), (by rw [hle.nt]; rfl), (by first | rfl | (rw [rfl]; rfl))⟩), rfl, hle.d rfl⟩
   exact trivial
  case hk3x => rfl
  case hf3x => rfl
  refine aops_no rfl rfl rfl rfl rfl (by decide) ?_
  refine aops_no rfl rfl rfl rfl rfl (by decide) ?_
  refine aops_step1 rfl (st_pick_no rfl (by first | rfl | exact rfl) rfl rfl) ?_
  refine aops_step1 rfl (st_assign rfl rfl) ?_
  refine aops_nil ?_
  cases Option.some.inj h
  refine aw_ret ⟨rfl, ret_v (.inl ⟨_, rfl, rfl, fun _ e => nomatch e⟩) rfl rfl rfl ?_⟩
  (repeat' (first | exact TLe.refl _ | exact VLe.refl _ | exact CLe.refl _ | exact All2.nil | refine TLe.tup ?_ | refine TLe.v ?_ | refine All2.cons ?_ ?_ | refine VLe.agg ?_ | refine VLe.one ?_ | exact CLe.nil _ | exact CLe.emp _ | refine CLe.val ?_ | refine CLe.slc ?_ ?_))
set_option maxHeartbeats 2000000 in
theorem actorgridlaw27_JournalScans_fn (k : Nat) (a0 : List JournalRecord) (a1 : List UInt8) (a2 : UInt16) (r : Bool) (h : actorgridlaw27_JournalScans k a0 a1 a2 = some r) : FnC Try.prog 7 [.one (CV.ls c_JournalRecord a0), .one (CV.ls byC a1), .one (.val (.int .u16 (a2.toNat : Int)))] [] (Det (.one (.val (.bool r))) []) := by
  unfold actorgridlaw27_JournalScans at h
  refine fn_intro' 118 Try.func7 rfl rfl rfl ?_
  refine aw_seq ?_
  refine aw_region ?_
  refine aops_step1 rfl (st_alloc (cs := [.val (.bool false)]) 0 rfl rfl rfl rfl rfl) ?_
  refine aops_nil ?_
  refine aw_seq ?_
  refine aw_seq ?_
  refine aw_region ?_
  obtain ⟨x1, hx1, h⟩ := Md.bind_s h
  refine aops_step1 rfl (ev_call_v (actorgridlaw27_awake_fn k x1 hx1) rfl [] (by repeat' (first | exact All2.nil | refine All2.cons ?_ ?_ | refine ArgV.one ?_ | refine ArgV.agg ?_ | exact ArgC.mk rfl | exact ArgC.lend rfl (by simp) | exact ArgC.le (CLe.nil _) rfl | exact ArgC.le (CLe.emp _) rfl | exact ArgC.le (CLe.any _) rfl)) rfl rfl rfl (.inl rfl) rfl) ?_
  refine aops_step1 rfl (ev_not rfl rfl) ?_
  refine aops_nil ?_
  refine aw_cond rfl (fun c2 => ?_) (fun c2 => ?_)
  · replace h := Md.cond_t h c2
    refine aw_seq ?_
    refine aw_region ?_
    refine aops_step1 rfl (st_store (cs' := [_]) rfl rfl rfl rfl rfl rfl rfl rfl rfl) ?_
    refine aops_nil ?_
    cases Option.some.inj h
    refine aw_ret ⟨rfl, ret_v (.inl ⟨_, rfl, ⟨_, _, _, _, _, rfl, rfl, TVar.h, rfl, _, rfl, rfl⟩, fun _ e => nomatch e⟩) rfl rfl rfl ?_⟩
    (repeat' (first | exact TLe.refl _ | exact VLe.refl _ | exact CLe.refl _ | exact All2.nil | refine TLe.tup ?_ | refine TLe.v ?_ | refine All2.cons ?_ ?_ | refine VLe.agg ?_ | refine VLe.one ?_ | exact CLe.nil _ | exact CLe.emp _ | refine CLe.val ?_ | refine CLe.slc ?_ ?_))
  replace h := Md.cond_f h c2
  refine aw_skip ?_
  refine aw_seq ?_
  refine aw_seq ?_
  refine aw_region ?_
  refine aops_step1 rfl (st_move rfl rfl) ?_
  refine aops_step1 rfl (ev_len_slc rfl rfl) ?_
  refine aops_step1 rfl (ev_cmp rfl rfl rfl rfl) ?_
  refine aops_step1 rfl (st_move rfl rfl) ?_
  refine aops_mid 4 (⟨118, [], [(0, .one (CV.ls c_JournalRecord a0)), (1, .one (CV.ls byC a1)), (2, .one (.val (.int .u16 (a2.toNat : Int)))), (6, .one (.ptr 0 0)), (27, .one (.val (.bool ((decide (((a0.length : Nat) : Int) > 20)) || (decide (((a1.length : Nat) : Int) > 500))))))], [(0, some (.box [.val (.bool false)]))]⟩ : ASt) ?_ ?_
  · rcases Md.bool_or ((decide (((a0.length : Nat) : Int) > 20))) with q3 | q3
    · skip
      refine aops_no rfl rfl rfl rfl rfl (by first | decide | (rw [q3]; decide)) ?_
      refine aops_no rfl rfl rfl rfl rfl (by first | decide | (rw [q3]; decide)) ?_
      refine aops_no rfl rfl rfl rfl rfl (by first | decide | (rw [q3]; decide)) ?_
      refine aops_step1 rfl (st_pick_yes rfl (by first | rfl | exact q3) rfl rfl) ?_
      refine aops_nil ?_
      show Weak _ _
      (refine weak_mk rfl rfl ?_ ?_ rfl <;> repeat' (first | exact trivial | refine ⟨?_, ?_⟩ | exact VLe.refl _ | exact BLe.refl _ | refine VLe.one (CLe.val ?_) | exact VLe.one (CLe.nil _) | exact VLe.one (CLe.emp _))) <;> (first | (rw [q3]; done) | (rw [q3]; rfl) | (simp [q3]; done))
    refine aops_yes rfl rfl rfl rfl q3 (st_move rfl rfl) ?_
    refine aops_yes rfl rfl rfl rfl q3 (ev_len_slc rfl rfl) ?_
    refine aops_yes rfl rfl rfl rfl q3 (ev_cmp rfl rfl rfl rfl) ?_
    refine aops_step1 rfl (st_pick_no rfl (by first | rfl | exact q3) rfl rfl) ?_
    refine aops_nil ?_
    show Weak _ _
    (refine weak_mk rfl rfl ?_ ?_ rfl <;> repeat' (first | exact trivial | refine ⟨?_, ?_⟩ | exact VLe.refl _ | exact BLe.refl _ | refine VLe.one (CLe.val ?_) | exact VLe.one (CLe.nil _) | exact VLe.one (CLe.emp _))) <;> (first | (rw [q3]; done) | (rw [q3]; rfl) | (simp [q3]; done))
  change AOps _ _ _ (⟨118, [], [(0, .one (CV.ls c_JournalRecord a0)), (1, .one (CV.ls byC a1)), (2, .one (.val (.int .u16 (a2.toNat : Int)))), (6, .one (.ptr 0 0)), (27, .one (.val (.bool ((decide (((a0.length : Nat) : Int) > 20)) || (decide (((a1.length : Nat) : Int) > 500))))))], [(0, some (.box [.val (.bool false)]))]⟩ : ASt) _
  refine aops_nil ?_
  refine aw_cond rfl (fun c4 => ?_) (fun c4 => ?_)
  · replace h := Md.cond_t h c4
    refine aw_seq ?_
    refine aw_region ?_
    refine aops_step1 rfl (st_store (cs' := [_]) rfl rfl rfl rfl rfl rfl rfl rfl rfl) ?_
    refine aops_nil ?_
    cases Option.some.inj h
    refine aw_ret ⟨rfl, ret_v (.inl ⟨_, rfl, ⟨_, _, _, _, _, rfl, rfl, TVar.h, rfl, _, rfl, rfl⟩, fun _ e => nomatch e⟩) rfl rfl rfl ?_⟩
    (repeat' (first | exact TLe.refl _ | exact VLe.refl _ | exact CLe.refl _ | exact All2.nil | refine TLe.tup ?_ | refine TLe.v ?_ | refine All2.cons ?_ ?_ | refine VLe.agg ?_ | refine VLe.one ?_ | exact CLe.nil _ | exact CLe.emp _ | refine CLe.val ?_ | refine CLe.slc ?_ ?_))
  replace h := Md.cond_f h c4
  refine aw_skip ?_
  refine aw_seq ?_
  refine aw_seq ?_
  refine aw_region ?_
  refine aops_step1 rfl (st_assign rfl rfl) ?_
  refine aops_nil ?_
  refine aw_block ?_
  obtain ⟨o5, ho5, h⟩ := Md.bind_s h
  refine aw_loop_x (ι := {p : Nat × Nat // actorgridlaw27_JournalScans_loop1 k a0 p.1 p.2 = some o5}) (fun p => (⟨118, [], [(0, .one (CV.ls c_JournalRecord a0)), (1, .one (CV.ls byC a1)), (2, .one (.val (.int .u16 (a2.toNat : Int)))), (6, .one (.ptr 0 0)), (7, .one (.val (.int .i64 ((p.1.2 : Nat) : Int))))], [(0, some (.box [.val (.bool false)]))]⟩ : ASt)) (fun p => p.1.1) ⟨(k, 0), ho5⟩ (by (refine weak_mk rfl rfl ?_ ?_ rfl <;> repeat' (first | exact trivial | refine ⟨?_, ?_⟩ | exact VLe.refl _ | exact BLe.refl _ | refine VLe.one (CLe.val ?_) | exact VLe.one (CLe.nil _) | exact VLe.one (CLe.emp _)))) 0 (ε := Unit) (fun x => (⟨118, [], [(0, .one (CV.ls c_JournalRecord a0)), (1, .one (CV.ls byC a1)), (2, .one (.val (.int .u16 (a2.toNat : Int)))), (6, .one (.ptr 0 0))], [(0, some (.box [.val (.bool false)]))]⟩ : ASt)) (fun x => Sum.inl x = o5) (fun _ _ w h => aw_weak w h) ?_ ?_
  · intro x5_0 hI5
    subst hI5
    replace h := Md.onS_l h
    change AW _ _ (⟨118, [], [(0, .one (CV.ls c_JournalRecord a0)), (1, .one (CV.ls byC a1)), (2, .one (.val (.int .u16 (a2.toNat : Int)))), (6, .one (.ptr 0 0))], [(0, some (.box [.val (.bool false)]))]⟩ : ASt) _
    refine aw_seq ?_
    refine aw_region ?_
    refine aops_step1 rfl (st_move rfl rfl) ?_
    refine aops_step1 rfl (st_move rfl rfl) ?_
    obtain ⟨x6, hx6, h⟩ := Md.bind_s h
    refine aops_step1 rfl (st_call_r (r' := .one (.own 1)) 1 rfl (actorgridlaw27_bytes_fn k a0 a1 x6 hx6) rfl [] (by repeat' (first | exact All2.nil | refine All2.cons ?_ ?_ | refine ArgV.one ?_ | refine ArgV.agg ?_ | exact ArgC.mk rfl | exact ArgC.lend rfl (by simp) | exact ArgC.le (CLe.nil _) rfl | exact ArgC.le (CLe.emp _) rfl | exact ArgC.le (CLe.any _) rfl)) rfl rfl rfl (.inl rfl) rfl rfl) ?_
    refine aops_step1 rfl (st_assign rfl rfl) ?_
    refine aops_nil ?_
    refine aw_seq ?_
    refine aw_region ?_
    refine aops_step1 rfl (st_move rfl rfl) ?_
    refine aops_step1 rfl (st_move rfl rfl) ?_
    refine aops_step1 rfl (ev_len_own rfl rfl rfl) ?_
    refine aops_step1 rfl (st_move rfl rfl) ?_
    refine aops_step1 rfl (st_conv_int rfl rfl Try.underlying40 Try.underlying3 (Md.conv_u16_i64 a2)) ?_
    refine aops_step1 rfl (ev_min rfl rfl rfl (Md.nat_min _ _)) ?_
    obtain ⟨g7, h⟩ := Md.ifp_s h
    refine aops_freeze 1 rfl ?_
    refine aops_step1 rfl (st_cut_hi (f := byC) (fun _ => rfl) rfl ⟨_, _, rfl, rfl⟩ g7 rfl) ?_
    refine aops_step1 rfl (st_assign rfl rfl) ?_
    refine aops_nil ?_
    refine aw_seq ?_
    refine aw_region ?_
    refine aops_step1 rfl (st_move rfl rfl) ?_
    obtain ⟨x8, hx8, h⟩ := Md.bind_s h
    refine aops_step1 rfl (st_call_r (r' := .tup [.one (.own 2), .one (.val (.int .i64 x8.2))]) 2 rfl (journal_Scan_fn k (x6.take (min x6.length a2.toNat)) x8 hx8) rfl [] (by repeat' (first | exact All2.nil | refine All2.cons ?_ ?_ | refine ArgV.one ?_ | refine ArgV.agg ?_ | exact ArgC.mk rfl | exact ArgC.lend rfl (by simp) | exact ArgC.le (CLe.nil _) rfl | exact ArgC.le (CLe.emp _) rfl | exact ArgC.le (CLe.any _) rfl)) rfl rfl rfl (.inl rfl) rfl rfl) ?_
    refine aops_step1 rfl (st_movet rfl rfl) ?_
    refine aops_step1 rfl (ev_extract rfl rfl rfl) ?_
    refine aops_step1 rfl (ev_extract rfl rfl rfl) ?_
    refine aops_step1 rfl (st_assign rfl rfl) ?_
    refine aops_step1 rfl (st_assign rfl rfl) ?_
    refine aops_nil ?_
    refine aw_seq ?_
    refine aw_region ?_
    refine aops_step1 rfl (st_move rfl rfl) ?_
    obtain ⟨x9, hx9, h⟩ := Md.bind_s h
    refine aops_step1 rfl (ev_call_v (actorgridref26_Scan_fn k (x6.take (min x6.length a2.toNat)) x9 hx9) rfl [] (by repeat' (first | exact All2.nil | refine All2.cons ?_ ?_ | refine ArgV.one ?_ | refine ArgV.agg ?_ | exact ArgC.mk rfl | exact ArgC.lend rfl (by simp) | exact ArgC.le (CLe.nil _) rfl | exact ArgC.le (CLe.emp _) rfl | exact ArgC.le (CLe.any _) rfl)) rfl rfl rfl (.inl rfl) rfl) ?_
    refine aops_step1 rfl (st_movet rfl rfl) ?_
    refine aops_step1 rfl (ev_extract rfl rfl rfl) ?_
    refine aops_step1 rfl (ev_extract rfl rfl rfl) ?_
    refine aops_step1 rfl (ev_extract rfl rfl rfl) ?_
    refine aops_step1 rfl (st_alloc (cs := [.val (.slice none 0 0)]) 3 rfl rfl rfl rfl rfl) ?_
    refine aops_step1 rfl (st_alloc (cs := [.val (.slice none 0 0)]) 4 rfl rfl rfl rfl rfl) ?_
    refine aops_step1 rfl (st_store (cs' := [_]) rfl rfl rfl rfl rfl rfl rfl rfl rfl) ?_
    refine aops_step1 rfl (st_store (cs' := [_]) rfl rfl rfl rfl rfl rfl rfl rfl rfl) ?_
    refine aops_step1 rfl (st_assign rfl rfl) ?_
    refine aops_nil ?_
    refine aw_seq ?_
    refine aw_seq ?_
    refine aw_region ?_
    refine aops_step1 rfl (st_move rfl rfl) ?_
    refine aops_step1 rfl (st_move rfl rfl) ?_
    refine aops_step1 rfl (ev_cmp rfl rfl rfl rfl) ?_
    refine aops_step1 rfl (st_move rfl rfl) ?_
    obtain ⟨o10, j10, h⟩ := Md.bind_s h
    refine aops_cut 5 (ε := Bool) (fun x10 => (⟨118, [], [(6, .one (.ptr 0 0)), (8, .one (CV.ls byC (x6.take (min x6.length a2.toNat)))), (11, .one (.ptr 3 0)), (12, .one (.ptr 4 0)), (70, .one (.val (.bool x10)))], [(0, some (.box [.val (.bool false)])), (3, some (.box [CV.ls c_JournalRecord x9.1])), (4, some (.box [CV.ls c_Int x9.2.1]))]⟩ : ASt)) (fun x10 => x10 = o10) ?_ ?_
    · intro x10 hI10
      subst hI10
      change AOps _ _ _ (⟨118, [], [(6, .one (.ptr 0 0)), (8, .one (CV.ls byC (x6.take (min x6.length a2.toNat)))), (11, .one (.ptr 3 0)), (12, .one (.ptr 4 0)), (70, .one (.val (.bool x10)))], [(0, some (.box [.val (.bool false)])), (3, some (.box [CV.ls c_JournalRecord x9.1])), (4, some (.box [CV.ls c_Int x9.2.1]))]⟩ : ASt) _
      refine aops_nil ?_
      refine aw_cond rfl (fun c11 => ?_) (fun c11 => ?_)
      · replace h := Md.cond_t h c11
        refine aw_seq ?_
        refine aw_region ?_
        refine aops_step1 rfl (st_store (cs' := [_]) rfl rfl rfl rfl rfl rfl rfl rfl rfl) ?_
        refine aops_nil ?_
        cases Option.some.inj h
        refine aw_ret ⟨rfl, ret_v (.inl ⟨_, rfl, ⟨_, _, _, _, _, rfl, rfl, TVar.h, rfl, _, rfl, rfl⟩, fun _ e => nomatch e⟩) rfl rfl rfl ?_⟩
        (repeat' (first | exact TLe.refl _ | exact VLe.refl _ | exact CLe.refl _ | exact All2.nil | refine TLe.tup ?_ | refine TLe.v ?_ | refine All2.cons ?_ ?_ | refine VLe.agg ?_ | refine VLe.one ?_ | exact CLe.nil _ | exact CLe.emp _ | refine CLe.val ?_ | refine CLe.slc ?_ ?_))
      replace h := Md.cond_f h c11
      refine aw_skip ?_
      refine aw_seq ?_
      refine aw_region ?_
      refine aops_step1 rfl (st_alloc (cs := [.val (.int .i64 0)]) 5 rfl rfl rfl rfl rfl) ?_
      refine aops_step1 rfl (st_store (cs' := [_]) rfl rfl rfl rfl rfl rfl rfl rfl rfl) ?_
      refine aops_nil ?_
      refine aw_seq ?_
      refine aw_region ?_
      refine aops_step1 rfl (st_move rfl rfl) ?_
      refine aops_step1 rfl (ev_call_v (journal_Walk_fn (x6.take (min x6.length a2.toNat))) rfl [] (by repeat' (first | exact All2.nil | refine All2.cons ?_ ?_ | refine ArgV.one ?_ | refine ArgV.agg ?_ | exact ArgC.mk rfl | exact ArgC.lend rfl (by simp) | exact ArgC.le (CLe.nil _) rfl | exact ArgC.le (CLe.emp _) rfl | exact ArgC.le (CLe.any _) rfl)) rfl rfl rfl (.inl rfl) rfl) ?_
      refine aops_step1 rfl (st_assign rfl rfl) ?_
      refine aops_nil ?_
      refine aw_seq ?_
      refine aw_seq ?_
      refine aw_region ?_
      refine aops_step1 rfl (st_move rfl rfl) ?_
      refine aops_step1 rfl (ev_fn_eq rfl rfl rfl Try.underlying60) ?_
      refine aops_nil ?_
      refine aw_no rfl (rfl) ?_
      refine aw_skip ?_
      refine aw_seq ?_
      refine aw_seq ?_
      refine aw_region ?_
      refine aops_step1 rfl (st_move rfl rfl) ?_
      refine aops_nil ?_
      refine aw_block ?_
      obtain ⟨x12, hx12, h⟩ := Md.bind_s h
      refine aw_weak (s' := (⟨118, [], [(6, .one (.ptr 0 0)), (11, .one (.ptr 3 0)), (12, .one (.ptr 4 0)), (14, .one (.ptr 5 0)), (75, .one (.fn 68 [.cptr [CV.ls byC (x6.take (min x6.length a2.toNat))]]))], [(0, some (.box [.val (.bool false)])), (3, some (.box [CV.ls c_JournalRecord x9.1])), (4, some (.box [CV.ls c_Int x9.2.1])), (5, some (.box [.val (.int .i64 0)]))]⟩ : ASt)) (by (refine weak_mk rfl rfl ?_ ?_ rfl <;> repeat' (first | exact trivial | refine ⟨?_, ?_⟩ | exact VLe.refl _ | exact BLe.refl _ | refine VLe.one (CLe.val ?_) | exact VLe.one (CLe.nil _) | exact VLe.one (CLe.emp _)))) ?_
      obtain ⟨o13, ho13, h⟩ := Md.bind_s h
      refine aw_range_l (ι := Nat) (fun (x : Int × JournalRecord) => [.one (.val (.int .i64 x.1)), .agg [.val (.int .i64 x.2.Kind), CV.ls byC x.2.Body]]) x12 (fun p => ([(0, some (.box [.val (.bool false)])), (3, some (.box [CV.ls c_JournalRecord x9.1])), (4, some (.box [CV.ls c_Int x9.2.1])), (5, some (.box [.val (.int .i64 ((p : Nat) : Int))]))] : Heap)) (fun ys p => actorgridlaw27_JournalScans_loop2 k x9 ys p = some o13) 0 rfl rfl (journal_Walk_1_it k (x6.take (min x6.length a2.toNat)) x12 hx12) rfl ho13 (fun _ => rfl) rfl ?_ ?_
      · intro y13 ys13 p13 l13
        generalize p13 = s13_0 at l13 ⊢
        refine aw_weak (s' := (⟨118, [0, 3, 4, 5], [(6, .one (.ptr 0 0)), (11, .one (.ptr 3 0)), (12, .one (.ptr 4 0)), (14, .one (.ptr 5 0)), (75, .one (.fn 68 [.cptr [CV.ls byC (x6.take (min x6.length a2.toNat))]])), (76, .one (.val (.int .i64 y13.1))), (77, .agg [.val (.int .i64 y13.2.Kind), CV.ls byC y13.2.Body])], [(0, some (.box [.val (.bool false)])), (3, some (.box [CV.ls c_JournalRecord x9.1])), (4, some (.box [CV.ls c_Int x9.2.1])), (5, some (.box [.val (.int .i64 ((s13_0 : Nat) : Int))]))]⟩ : ASt)) (by (refine weak_mk rfl rfl ?_ ?_ rfl <;> repeat' (first | exact trivial | refine ⟨?_, ?_⟩ | exact VLe.refl _ | exact BLe.refl _ | refine VLe.one (CLe.val ?_) | exact VLe.one (CLe.nil _) | exact VLe.one (CLe.emp _)))) ?_
        replace l13 : actorgridlaw27_JournalScans_loop2 k x9 (y13 :: ys13) s13_0 = some o13 := l13
        rw [actorgridlaw27_JournalScans_loop2] at l13
        refine aw_seq ?_
        refine aw_region ?_
        refine aops_step1 rfl (st_assign rfl rfl) ?_
        refine aops_nil ?_
        refine aw_region ?_
        refine aops_step1 rfl (st_alloc (cs := [.val (.int .i64 0), .val (.slice none 0 0)]) 6 rfl rfl rfl rfl rfl) ?_
        refine aops_step1 rfl (st_store (cs' := [_, _]) rfl rfl rfl rfl rfl rfl rfl rfl rfl) ?_
        refine aops_nil ?_
        refine aw_weak (s' := (⟨118, [0, 3, 4, 5], [(6, .one (.ptr 0 0)), (11, .one (.ptr 3 0)), (12, .one (.ptr 4 0)), (14, .one (.ptr 5 0)), (16, .one (.val (.int .i64 y13.1))), (17, .one (.ptr 6 0)), (75, .one (.fn 68 [.cptr [CV.ls byC (x6.take (min x6.length a2.toNat))]])), (76, .one (.val (.int .i64 y13.1))), (77, .agg [.val (.int .i64 y13.2.Kind), CV.ls byC y13.2.Body])], [(0, some (.box [.val (.bool false)])), (3, some (.box [CV.ls c_JournalRecord x9.1])), (4, some (.box [CV.ls c_Int x9.2.1])), (5, some (.box [.val (.int .i64 ((s13_0 : Nat) : Int))])), (6, some (.box [.val (.int .i64 y13.2.Kind), CV.ls byC y13.2.Body]))]⟩ : ASt)) (by (refine weak_mk rfl rfl ?_ ?_ rfl <;> repeat' (first | exact trivial | refine ⟨?_, ?_⟩ | exact VLe.refl _ | exact BLe.refl _ | refine VLe.one (CLe.val ?_) | exact VLe.one (CLe.nil _) | exact VLe.one (CLe.emp _)))) ?_
        refine aw_block ?_
        refine aw_seq ?_
        rcases Md.bool_or ((decide (((s13_0 : Nat) : Int) ≥ ((x9.1.length : Nat) : Int)))) with q14 | q14
        · replace l13 := Md.cond_t l13 q14
          refine aw_seq ?_
          apply aw_draw 32 ((⟨[], .one (.val (.int .i64 ((s13_0 : Nat) : Int)))⟩ : Add) :: ⟨[], .one (CV.ls c_JournalRecord x9.1)⟩ :: ⟨[], .one (.val (.int .i64 ((x9.1.length : Nat) : Int)))⟩ :: ⟨[], .one (.val (.bool (decide (((s13_0 : Nat) : Int) ≥ ((x9.1.length : Nat) : Int)))))⟩ :: ⟨[], .one (.val (.bool (decide (((s13_0 : Nat) : Int) ≥ ((x9.1.length : Nat) : Int)))))⟩ :: ⟨[], .tup []⟩ :: ⟨[], .tup []⟩ :: ⟨[], .tup []⟩ :: ⟨[], .tup []⟩ :: ⟨[], .tup []⟩ :: ⟨[], .tup []⟩ :: ⟨[], .one (.val (.bool true))⟩ :: ⟨[], .one (.val (.bool true))⟩ :: ⟨[], .tup []⟩ :: ⟨[], .tup []⟩ :: ⟨[], .tup []⟩ :: ⟨[], .tup []⟩ :: ⟨[], .tup []⟩ :: ⟨[], .tup []⟩ :: ⟨[], .tup []⟩ :: ⟨[], .tup []⟩ :: ⟨[], .one (.val (.bool true))⟩ :: ⟨[], .one (.val (.bool true))⟩ :: ⟨[], .tup []⟩ :: ⟨[], .tup []⟩ :: ⟨[], .tup []⟩ :: ⟨[], .tup []⟩ :: ⟨[], .tup []⟩ :: ⟨[], .tup []⟩ :: ⟨[], .tup []⟩ :: ⟨[], .tup []⟩ :: ⟨[], .tup []⟩ :: []) (by decide) rfl ?hk9x ?hf9x ?ho9x ?hr9x
          case ho9x =>
           refine ⟨⟨[], (by decide +kernel), fun S hle hfr => ?_⟩, ?_⟩
           · exact .inl ⟨.inl ⟨rfl, rfl⟩, ev_load (hle.ev rfl (by nofun)) (hle.heap _ _ rfl) rfl (hle.d rfl)⟩
           refine ⟨⟨[], (by decide +kernel), fun S hle hfr => ?_⟩, ?_⟩
           · exact .inl ⟨.inl ⟨rfl, rfl⟩, ev_load (hle.ev rfl (by nofun)) (hle.heap _ _ rfl) rfl (hle.d rfl)⟩
           refine ⟨⟨1 :: [], (by decide +kernel), fun S hle hfr => ?_⟩, ?_⟩
           · exact .inl ⟨.inl ⟨rfl, rfl⟩, ev_len_slc (hle.ev rfl (by nofun)) (hle.d rfl)⟩
           refine ⟨⟨0 :: 2 :: 1 :: [], (by decide +kernel), fun S hle hfr => ?_⟩, ?_⟩
           · exact .inl ⟨.inl ⟨rfl, rfl⟩, ev_cmp (hle.ev rfl (by nofun)) (hle.ev rfl (by nofun)) (hle.d rfl) rfl⟩
           refine ⟨⟨3 :: 0 :: 2 :: 1 :: [], (by decide +kernel), fun S hle hfr => ?_⟩, ?_⟩
           · exact .inl ⟨.inl ⟨rfl, rfl⟩, st_move (hle.ev rfl (by nofun)) (hle.d rfl)⟩
           refine ⟨⟨4 :: 3 :: 0 :: 2 :: 1 :: [], (by decide +kernel), fun S hle hfr => ?_⟩, ?_⟩
           · exact .inr ⟨.inr (.inl ⟨_, _, _, _, rfl, rfl, (hle.ev (x := .tmp _) rfl (by nofun)), (by rw [hle.nt]; rfl), (by first | rfl | (rw [q14]; rfl))⟩), rfl, hle.d rfl⟩
           refine ⟨⟨4 :: 3 :: 0 :: 2 :: 1 :: [], (by decide +kernel), fun S hle hfr => ?_⟩, ?_⟩
           · exact .inr ⟨.inr (.inl ⟨_, _, _, _, rfl, rfl, (hle.ev (x := .tmp _) rfl (by nofun)), (by rw [hle.nt]; rfl), (by first | rfl | (rw [q14]; rfl))⟩), rfl, hle.d rfl⟩
           refine ⟨⟨4 :: 3 :: 0 :: 2 :: 1 :: [], (by decide +kernel), fun S hle hfr => ?_⟩, ?_⟩
           · exact .inr ⟨.inr (.inl ⟨_, _, _, _, rfl, rfl, (hle.ev (x := .tmp _) rfl (by nofun)), (by rw [hle.nt]; rfl), (by first | rfl | (rw [q14]; rfl))⟩), rfl, hle.d rfl⟩
           refine ⟨⟨6 :: 7 :: 4 :: 3 :: 0 :: 2 :: 1 :: [], (by decide +kernel), fun S hle hfr => ?_⟩, ?_⟩
           · exact .inr ⟨.inr (.inl ⟨_, _, _, _, rfl, rfl, (hle.ev (x := .tmp _) rfl (by nofun)), (by rw [hle.nt]; rfl), (by first | rfl | (rw [q14]; rfl))⟩), rfl, hle.d rfl⟩
           refine ⟨⟨8 :: 4 :: 6 :: 7 :: 3 :: 0 :: 2 :: 1 :: [], (by decide +kernel), fun S hle hfr => ?_⟩, ?_⟩
           · exact .inr ⟨.inr (.inl ⟨_, _, _, _, rfl, rfl, (hle.ev (x := .tmp _) rfl (by nofun)), (by rw [hle.nt]; rfl), (by first | rfl | (rw [q14]; rfl))⟩), rfl, hle.d rfl⟩
           refine ⟨⟨5 :: 9 :: 4 :: 8 :: 3 :: 6 :: 7 :: 0 :: 2 :: 1 :: [], (by decide +kernel), fun S hle hfr => ?_⟩, ?_⟩
           · exact .inr ⟨.inr (.inl ⟨_, _, _, _, rfl, rfl, (hle.ev (x := .tmp _) rfl (by nofun)), (by rw [hle.nt]; rfl), (by first | rfl | (rw [q14]; rfl))⟩), rfl, hle.d rfl⟩
           refine ⟨⟨4 :: 10 :: 3 :: 5 :: 9 :: 0 :: 2 :: 8 :: 1 :: 6 :: 7 :: [], (by decide +kernel), fun S hle hfr => ?_⟩, ?_⟩
           · exact .inl ⟨.inl ⟨rfl, rfl⟩, st_pick_yes (hle.ev rfl (by nofun)) (by first | rfl | exact q14) (hle.ev rfl (by nofun)) (hle.d rfl)⟩
           refine ⟨⟨11 :: 4 :: 10 :: 3 :: 5 :: 9 :: 0 :: 2 :: 8 :: 1 :: 6 :: 7 :: [], (by decide +kernel), fun S hle hfr => ?_⟩, ?_⟩
           · exact .inl ⟨.inl ⟨rfl, rfl⟩, st_move (hle.ev rfl (by nofun)) (hle.d rfl)⟩
           refine ⟨⟨12 :: 11 :: 4 :: 10 :: 3 :: 5 :: 9 :: 0 :: 2 :: 8 :: 1 :: 6 :: 7 :: [], (by decide +kernel), fun S hle hfr => ?_⟩, ?_⟩
           · exact .inr ⟨.inr (.inl ⟨_, _, _, _, rfl, rfl, (hle.ev (x := .tmp _) rfl (by nofun)), (by rw [hle.nt]; rfl), (by first | rfl | (rw [rfl]; rfl))⟩), rfl, hle.d rfl⟩
           refine ⟨⟨13 :: 12 :: 11 :: 4 :: 10 :: 3 :: 5 :: 9 :: 0 :: 2 :: 8 :: 1 :: 6 :: 7 :: [], (by decide +kernel), fun S hle hfr => ?_⟩, ?_⟩
           · exact .inr ⟨.inr (.inl ⟨_, _, _, _, rfl, rfl, (hle.ev (x := .tmp _) rfl (by nofun)), (by rw [hle.nt]; rfl), (by first | rfl | (rw [rfl]; rfl))⟩), rfl, hle.d rfl⟩
           refine ⟨⟨12 :: 11 :: 4 :: 10 :: 3 :: 5 :: 9 :: 0 :: 2 :: 8 :: 1 :: 6 :: 7 :: [], (by decide +kernel), fun S hle hfr => ?_⟩, ?_⟩
           · exact .inr ⟨.inr (.inl ⟨_, _, _, _, rfl, rfl, (hle.ev (x := .tmp _) rfl (by nofun)), (by rw [hle.nt]; rfl), (by first | rfl | (rw [rfl]; rfl))⟩), rfl, hle.d rfl⟩
           refine ⟨⟨12 :: 11 :: 4 :: 10 :: 3 :: 5 :: 9 :: 0 :: 2 :: 8 :: 1 :: 6 :: 7 :: [], (by decide +kernel), fun S hle hfr => ?_⟩, ?_⟩
           · exact .inr ⟨.inr (.inl ⟨_, _, _, _, rfl, rfl, (hle.ev (x := .tmp _) rfl (by nofun)), (by rw [hle.nt]; rfl), (by first | rfl | (rw [rfl]; rfl))⟩), rfl, hle.d rfl⟩
           refine ⟨⟨15 :: 16 :: 12 :: 11 :: 4 :: 10 :: 3 :: 5 :: 9 :: 0 :: 2 :: 8 :: 1 :: 6 :: 7 :: [], (by decide +kernel), fun S hle hfr => ?_⟩, ?_⟩
           · exact .inr ⟨.inr (.inl ⟨_, _, _, _, rfl, rfl, (hle.ev (x := .tmp _) rfl (by nofun)), (by rw [hle.nt]; rfl), (by first | rfl | (rw [rfl]; rfl))⟩), rfl, hle.d rfl⟩
           refine ⟨⟨17 :: 12 :: 15 :: 16 :: 11 :: 4 :: 10 :: 3 :: 5 :: 9 :: 0 :: 2 :: 8 :: 1 :: 6 :: 7 :: [], (by decide +kernel), fun S hle hfr => ?_⟩, ?_⟩
           · exact .inr ⟨.inr (.inl ⟨_, _, _, _, rfl, rfl, (hle.ev (x := .tmp _) rfl (by nofun)), (by rw [hle.nt]; rfl), (by first | rfl | (rw [rfl]; rfl))⟩), rfl, hle.d rfl⟩
           refine ⟨⟨18 :: 12 :: 17 :: 11 :: 4 :: 15 :: 16 :: 10 :: 3 :: 5 :: 9 :: 0 :: 2 :: 8 :: 1 :: 6 :: 7 :: [], (by decide +kernel), fun S hle hfr => ?_⟩, ?_⟩
           · exact .inr ⟨.inr (.inl ⟨_, _, _, _, rfl, rfl, (hle.ev (x := .tmp _) rfl (by nofun)), (by rw [hle.nt]; rfl), (by first | rfl | (rw [rfl]; rfl))⟩), rfl, hle.d rfl⟩
           refine ⟨⟨14 :: 19 :: 12 :: 13 :: 18 :: 11 :: 4 :: 17 :: 10 :: 3 :: 15 :: 16 :: 5 :: 9 :: 0 :: 2 :: 8 :: 1 :: 6 :: 7 :: [], (by decide +kernel), fun S hle hfr => ?_⟩, ?_⟩
           · exact .inr ⟨.inr (.inl ⟨_, _, _, _, rfl, rfl, (hle.ev (x := .tmp _) rfl (by nofun)), (by rw [hle.nt]; rfl), (by first | rfl | (rw [rfl]; rfl))⟩), rfl, hle.d rfl⟩
           refine ⟨⟨12 :: 20 :: 11 :: 4 :: 14 :: 19 :: 10 :: 3 :: 13 :: 18 :: 5 :: 9 :: 0 :: 2 :: 17 :: 8 :: 1 :: 15 :: 16 :: 6 :: 7 :: [], (by decide +kernel), fun S hle hfr => ?_⟩, ?_⟩
           · exact .inl ⟨.inl ⟨rfl, rfl⟩, st_pick_yes (hle.ev rfl (by nofun)) (by first | rfl | exact rfl) (hle.ev rfl (by nofun)) (hle.d rfl)⟩
           refine ⟨⟨21 :: 12 :: 20 :: 11 :: 4 :: 14 :: 19 :: 10 :: 3 :: 13 :: 18 :: 5 :: 9 :: 0 :: 2 :: 17 :: 8 :: 1 :: 15 :: 16 :: 6 :: 7 :: [], (by decide +kernel), fun S hle hfr => ?_⟩, ?_⟩
           · exact .inl ⟨.inl ⟨rfl, rfl⟩, st_move (hle.ev rfl (by nofun)) (hle.d rfl)⟩
           refine ⟨⟨22 :: 21 :: 12 :: 20 :: 11 :: 4 :: 14 :: 19 :: 10 :: 3 :: 13 :: 18 :: 5 :: 9 :: 0 :: 2 :: 17 :: 8 :: 1 :: 15 :: 16 :: 6 :: 7 :: [], (by decide +kernel), fun S hle hfr => ?_⟩, ?_⟩
           · exact .inr ⟨.inr (.inl ⟨_, _, _, _, rfl, rfl, (hle.ev (x := .tmp _) rfl (by nofun)), (by rw [hle.nt]; rfl), (by first | rfl | (rw [rfl]; rfl))⟩), rfl, hle.d rfl⟩
           refine ⟨⟨23 :: 22 :: 21 :: 12 :: 20 :: 11 :: 4 :: 14 :: 19 :: 10 :: 3 :: 13 :: 18 :: 5 :: 9 :: 0 :: 2 :: 17 :: 8 :: 1 :: 15 :: 16 :: 6 :: 7 :: [], (by decide +kernel), fun S hle hfr => ?_⟩, ?_⟩
           · exact .inr ⟨.inr (.inl ⟨_, _, _, _, rfl, rfl, (hle.ev (x := .tmp _) rfl (by nofun)), (by rw [hle.nt]; rfl), (by first | rfl | (rw [rfl]; rfl))⟩), rfl, hle.d rfl⟩
           refine ⟨⟨24 :: 22 :: 23 :: 21 :: 12 :: 20 :: 11 :: 4 :: 14 :: 19 :: 10 :: 3 :: 13 :: 18 :: 5 :: 9 :: 0 :: 2 :: 17 :: 8 :: 1 :: 15 :: 16 :: 6 :: 7 :: [], (by decide +kernel), fun S hle hfr => ?_⟩, ?_⟩
           · exact .inr ⟨.inr (.inl ⟨_, _, _, _, rfl, rfl, (hle.ev (x := .tmp _) rfl (by nofun)), (by rw [hle.nt]; rfl), (by first | rfl | (rw [rfl]; rfl))⟩), rfl, hle.d rfl⟩
           refine ⟨⟨22 :: 21 :: 12 :: 20 :: 11 :: 4 :: 14 :: 19 :: 10 :: 3 :: 13 :: 18 :: 5 :: 9 :: 0 :: 2 :: 17 :: 8 :: 1 :: 15 :: 16 :: 6 :: 7 :: [], (by decide +kernel), fun S hle hfr => ?_⟩, ?_⟩
           · exact .inr ⟨.inr (.inl ⟨_, _, _, _, rfl, rfl, (hle.ev (x := .tmp _) rfl (by nofun)), (by rw [hle.nt]; rfl), (by first | rfl | (rw [rfl]; rfl))⟩), rfl, hle.d rfl⟩
           refine ⟨⟨22 :: 21 :: 12 :: 20 :: 11 :: 4 :: 14 :: 19 :: 10 :: 3 :: 13 :: 18 :: 5 :: 9 :: 0 :: 2 :: 17 :: 8 :: 1 :: 15 :: 16 :: 6 :: 7 :: [], (by decide +kernel), fun S hle hfr => ?_⟩, ?_⟩
           · exact .inr ⟨.inr (.inl ⟨_, _, _, _, rfl, rfl, (hle.ev (x := .tmp _) rfl (by nofun)), (by rw [hle.nt]; rfl), (by first | rfl | (rw [rfl]; rfl))⟩), rfl, hle.d rfl⟩
           refine ⟨⟨26 :: 27 :: 22 :: 21 :: 12 :: 20 :: 11 :: 4 :: 14 :: 19 :: 10 :: 3 :: 13 :: 18 :: 5 :: 9 :: 0 :: 2 :: 17 :: 8 :: 1 :: 15 :: 16 :: 6 :: 7 :: [], (by decide +kernel), fun S hle hfr => ?_⟩, ?_⟩
           · exact .inr ⟨.inr (.inl ⟨_, _, _, _, rfl, rfl, (hle.ev (x := .tmp _) rfl (by nofun)), (by rw [hle.nt]; rfl), (by first | rfl | (rw [rfl]; rfl))⟩), rfl, hle.d rfl⟩
           refine ⟨⟨28 :: 22 :: 26 :: 27 :: 21 :: 12 :: 20 :: 11 :: 4 :: 14 :: 19 :: 10 :: 3 :: 13 :: 18 :: 5 :: 9 :: 0 :: 2 :: 17 :: 8 :: 1 :: 15 :: 16 :: 6 :: 7 :: [], (by decide +kernel), fun S hle hfr => ?_⟩, ?_⟩
           · exact .inr ⟨.inr (.inl ⟨_, _, _, _, rfl, rfl, (hle.ev (x := .tmp _) rfl (by nofun)), (by rw [hle.nt]; rfl), (by first | rfl | (rw [rfl]; rfl))⟩), rfl, hle.d rfl⟩
           refine ⟨⟨29 :: 22 :: 28 :: 21 :: 12 :: 26 :: 27 :: 20 :: 11 :: 4 :: 14 :: 19 :: 10 :: 3 :: 13 :: 18 :: 5 :: 9 :: 0 :: 2 :: 17 :: 8 :: 1 :: 15 :: 16 :: 6 :: 7 :: [], (by decide +kernel), fun S hle hfr => ?_⟩, ?_⟩
           · exact .inr ⟨.inr (.inl ⟨_, _, _, _, rfl, rfl, (hle.ev (x := .tmp _) rfl (by nofun)), (by rw [hle.nt]; rfl), (by first | rfl | (rw [rfl]; rfl))⟩), rfl, hle.d rfl⟩
           refine ⟨⟨30 :: 22 :: 29 :: 21 :: 12 :: 28 :: 20 :: 11 :: 4 :: 26 :: 27 :: 14 :: 19 :: 10 :: 3 :: 13 :: 18 :: 5 :: 9 :: 0 :: 2 :: 17 :: 8 :: 1 :: 15 :: 16 :: 6 :: 7 :: [], (by decide +kernel), fun S hle hfr => ?_⟩, ?_⟩
           · exact .inr ⟨.inr (.inl ⟨_, _, _, _, rfl, rfl, (hle.ev (x := .tmp _) rfl (by nofun)), (by rw [hle.nt]; rfl), (by first | rfl | (rw [rfl]; rfl))⟩), rfl, hle.d rfl⟩
           exact trivial
          case hk9x => rfl
          case hf9x => rfl
          refine aops_no rfl rfl rfl rfl rfl (by decide) ?_
          refine aops_step1 rfl (st_pick_yes rfl (by first | rfl | exact rfl) rfl rfl) ?_
          refine aops_nil ?_
          refine aw_yes rfl (rfl) ?_
          refine aw_seq ?_
          refine aw_region ?_
          refine aops_step1 rfl (st_store (cs' := [_]) rfl rfl rfl rfl rfl rfl rfl rfl rfl) ?_
          refine aops_nil ?_
          cases Option.some.inj l13
          replace h := Md.onS_r h
          cases Option.some.inj h
          refine aw_ret ⟨rfl, ?_⟩
          refine ⟨rfl, ret_v (.inl ⟨_, rfl, ⟨_, _, _, _, _, rfl, rfl, TVar.h, rfl, _, rfl, rfl⟩, fun _ e => nomatch e⟩) rfl rfl rfl ?_⟩
          (repeat' (first | exact TLe.refl _ | exact VLe.refl _ | exact CLe.refl _ | exact All2.nil | refine TLe.tup ?_ | refine TLe.v ?_ | refine All2.cons ?_ ?_ | refine VLe.agg ?_ | refine VLe.one ?_ | exact CLe.nil _ | exact CLe.emp _ | refine CLe.val ?_ | refine CLe.slc ?_ ?_))
        replace l13 := Md.cond_f l13 q14
        obtain ⟨g15, l13⟩ := Md.ifp_s l13
        rcases Md.bool_or ((y13.1 != (x9.2.1.getD s13_0 default))) with q16 | q16
        · replace l13 := Md.cond_t l13 q16
          refine aw_seq ?_
          apply aw_draw 32 ((⟨[], .one (.val (.int .i64 ((s13_0 : Nat) : Int)))⟩ : Add) :: ⟨[], .one (CV.ls c_JournalRecord x9.1)⟩ :: ⟨[], .one (.val (.int .i64 ((x9.1.length : Nat) : Int)))⟩ :: ⟨[], .one (.val (.bool (decide (((s13_0 : Nat) : Int) ≥ ((x9.1.length : Nat) : Int)))))⟩ :: ⟨[], .one (.val (.bool (decide (((s13_0 : Nat) : Int) ≥ ((x9.1.length : Nat) : Int)))))⟩ :: ⟨[], .one (.val (.int .i64 y13.1))⟩ :: ⟨[], .one (CV.ls c_Int x9.2.1)⟩ :: ⟨[], .one (.val (.int .i64 ((s13_0 : Nat) : Int)))⟩ :: ⟨[], .one (.cptr _)⟩ :: ⟨[], .one (.val (.int .i64 (x9.2.1.getD s13_0 default)))⟩ :: ⟨[], .one (.val (.bool (y13.1 != (x9.2.1.getD s13_0 default))))⟩ :: ⟨[], .one (.val (.bool (y13.1 != (x9.2.1.getD s13_0 default))))⟩ :: ⟨[], .one (.val (.bool (y13.1 != (x9.2.1.getD s13_0 default))))⟩ :: ⟨[], .tup []⟩ :: ⟨[], .tup []⟩ :: ⟨[], .tup []⟩ :: ⟨[], .tup []⟩ :: ⟨[], .tup []⟩ :: ⟨[], .tup []⟩ :: ⟨[], .tup []⟩ :: ⟨[], .tup []⟩ :: ⟨[], .one (.val (.bool true))⟩ :: ⟨[], .one (.val (.bool true))⟩ :: ⟨[], .tup []⟩ :: ⟨[], .tup []⟩ :: ⟨[], .tup []⟩ :: ⟨[], .tup []⟩ :: ⟨[], .tup []⟩ :: ⟨[], .tup []⟩ :: ⟨[], .tup []⟩ :: ⟨[], .tup []⟩ :: ⟨[], .tup []⟩ :: []) (by decide) rfl ?hk10x ?hf10x ?ho10x ?hr10x
          case ho10x =>
           refine ⟨⟨[], (by decide +kernel), fun S hle hfr => ?_⟩, ?_⟩
           · exact .inl ⟨.inl ⟨rfl, rfl⟩, ev_load (hle.ev rfl (by nofun)) (hle.heap _ _ rfl) rfl (hle.d rfl)⟩
           refine ⟨⟨[], (by decide +kernel), fun S hle hfr => ?_⟩, ?_⟩
           · exact .inl ⟨.inl ⟨rfl, rfl⟩, ev_load (hle.ev rfl (by nofun)) (hle.heap _ _ rfl) rfl (hle.d rfl)⟩
           refine ⟨⟨1 :: [], (by decide +kernel), fun S hle hfr => ?_⟩, ?_⟩
           · exact .inl ⟨.inl ⟨rfl, rfl⟩, ev_len_slc (hle.ev rfl (by nofun)) (hle.d rfl)⟩
           refine ⟨⟨0 :: 2 :: 1 :: [], (by decide +kernel), fun S hle hfr => ?_⟩, ?_⟩
           · exact .inl ⟨.inl ⟨rfl, rfl⟩, ev_cmp (hle.ev rfl (by nofun)) (hle.ev rfl (by nofun)) (hle.d rfl) rfl⟩
           refine ⟨⟨3 :: 0 :: 2 :: 1 :: [], (by decide +kernel), fun S hle hfr => ?_⟩, ?_⟩
           · exact .inl ⟨.inl ⟨rfl, rfl⟩, st_move (hle.ev rfl (by nofun)) (hle.d rfl)⟩
           refine ⟨⟨4 :: 3 :: 0 :: 2 :: 1 :: [], (by decide +kernel), fun S hle hfr => ?_⟩, ?_⟩
           · exact .inl ⟨.inr (.inl ⟨_, _, _, _, rfl, rfl, (hle.ev (x := .tmp _) rfl (by nofun)), (by rw [hle.nt]; rfl), (by first | rfl | (rw [q14]; rfl))⟩), st_move (hle.ev rfl (by nofun)) (hle.d rfl)⟩
           refine ⟨⟨4 :: 3 :: 0 :: 2 :: 1 :: [], (by decide +kernel), fun S hle hfr => ?_⟩, ?_⟩
           · exact .inl ⟨.inr (.inl ⟨_, _, _, _, rfl, rfl, (hle.ev (x := .tmp _) rfl (by nofun)), (by rw [hle.nt]; rfl), (by first | rfl | (rw [q14]; rfl))⟩), ev_load (hle.ev rfl (by nofun)) (hle.heap _ _ rfl) rfl (hle.d rfl)⟩
           refine ⟨⟨4 :: 3 :: 0 :: 2 :: 1 :: [], (by decide +kernel), fun S hle hfr => ?_⟩, ?_⟩
           · exact .inl ⟨.inr (.inl ⟨_, _, _, _, rfl, rfl, (hle.ev (x := .tmp _) rfl (by nofun)), (by rw [hle.nt]; rfl), (by first | rfl | (rw [q14]; rfl))⟩), ev_load (hle.ev rfl (by nofun)) (hle.heap _ _ rfl) rfl (hle.d rfl)⟩
           refine ⟨⟨6 :: 7 :: 4 :: 3 :: 0 :: 2 :: 1 :: [], (by decide +kernel), fun S hle hfr => ?_⟩, ?_⟩
           · exact .inl ⟨.inr (.inl ⟨_, _, _, _, rfl, rfl, (hle.ev (x := .tmp _) rfl (by nofun)), (by rw [hle.nt]; rfl), (by first | rfl | (rw [q14]; rfl))⟩), ev_index_in (hle.ev rfl (by nofun)) (hle.ev rfl (by nofun)) rfl g15 rfl (hle.d rfl)⟩
           refine ⟨⟨8 :: 4 :: 6 :: 7 :: 3 :: 0 :: 2 :: 1 :: [], (by decide +kernel), fun S hle hfr => ?_⟩, ?_⟩
           · exact .inl ⟨.inr (.inl ⟨_, _, _, _, rfl, rfl, (hle.ev (x := .tmp _) rfl (by nofun)), (by rw [hle.nt]; rfl), (by first | rfl | (rw [q14]; rfl))⟩), ev_load_in (hle.ev rfl (by nofun)) rfl (hle.d rfl)⟩
           refine ⟨⟨5 :: 9 :: 4 :: 8 :: 3 :: 6 :: 7 :: 0 :: 2 :: 1 :: [], (by decide +kernel), fun S hle hfr => ?_⟩, ?_⟩
           · exact .inl ⟨.inr (.inl ⟨_, _, _, _, rfl, rfl, (hle.ev (x := .tmp _) rfl (by nofun)), (by rw [hle.nt]; rfl), (by first | rfl | (rw [q14]; rfl))⟩), ev_cmp (hle.ev rfl (by nofun)) (hle.ev rfl (by nofun)) (hle.d rfl) rfl⟩
           refine ⟨⟨4 :: 10 :: 3 :: 5 :: 9 :: 0 :: 2 :: 8 :: 1 :: 6 :: 7 :: [], (by decide +kernel), fun S hle hfr => ?_⟩, ?_⟩
           · exact .inl ⟨.inl ⟨rfl, rfl⟩, st_pick_no (hle.ev rfl (by nofun)) (by first | rfl | exact q14) (hle.ev rfl (by nofun)) (hle.d rfl)⟩
           refine ⟨⟨11 :: 4 :: 10 :: 3 :: 5 :: 9 :: 0 :: 2 :: 8 :: 1 :: 6 :: 7 :: [], (by decide +kernel), fun S hle hfr => ?_⟩, ?_⟩
           · exact .inl ⟨.inl ⟨rfl, rfl⟩, st_move (hle.ev rfl (by nofun)) (hle.d rfl)⟩
           refine ⟨⟨12 :: 11 :: 4 :: 10 :: 3 :: 5 :: 9 :: 0 :: 2 :: 8 :: 1 :: 6 :: 7 :: [], (by decide +kernel), fun S hle hfr => ?_⟩, ?_⟩
           · exact .inr ⟨.inr (.inl ⟨_, _, _, _, rfl, rfl, (hle.ev (x := .tmp _) rfl (by nofun)), (by rw [hle.nt]; rfl), (by first | rfl | (rw [q16]; rfl))⟩), rfl, hle.d rfl⟩
           refine ⟨⟨13 :: 12 :: 11 :: 4 :: 10 :: 3 :: 5 :: 9 :: 0 :: 2 :: 8 :: 1 :: 6 :: 7 :: [], (by decide +kernel), fun S hle hfr => ?_⟩, ?_⟩
           · exact .inr ⟨.inr (.inl ⟨_, _, _, _, rfl, rfl, (hle.ev (x := .tmp _) rfl (by nofun)), (by rw [hle.nt]; rfl), (by first | rfl | (rw [q16]; rfl))⟩), rfl, hle.d rfl⟩
           refine ⟨⟨12 :: 11 :: 4 :: 10 :: 3 :: 5 :: 9 :: 0 :: 2 :: 8 :: 1 :: 6 :: 7 :: [], (by decide +kernel), fun S hle hfr => ?_⟩, ?_⟩
           · exact .inr ⟨.inr (.inl ⟨_, _, _, _, rfl, rfl, (hle.ev (x := .tmp _) rfl (by nofun)), (by rw [hle.nt]; rfl), (by first | rfl | (rw [q16]; rfl))⟩), rfl, hle.d rfl⟩
           refine ⟨⟨12 :: 11 :: 4 :: 10 :: 3 :: 5 :: 9 :: 0 :: 2 :: 8 :: 1 :: 6 :: 7 :: [], (by decide +kernel), fun S hle hfr => ?_⟩, ?_⟩
           · exact .inr ⟨.inr (.inl ⟨_, _, _, _, rfl, rfl, (hle.ev (x := .tmp _) rfl (by nofun)), (by rw [hle.nt]; rfl), (by first | rfl | (rw [q16]; rfl))⟩), rfl, hle.d rfl⟩
           refine ⟨⟨15 :: 16 :: 12 :: 11 :: 4 :: 10 :: 3 :: 5 :: 9 :: 0 :: 2 :: 8 :: 1 :: 6 :: 7 :: [], (by decide +kernel), fun S hle hfr => ?_⟩, ?_⟩
           · exact .inr ⟨.inr (.inl ⟨_, _, _, _, rfl, rfl, (hle.ev (x := .tmp _) rfl (by nofun)), (by rw [hle.nt]; rfl), (by first | rfl | (rw [q16]; rfl))⟩), rfl, hle.d rfl⟩
           refine ⟨⟨17 :: 12 :: 15 :: 16 :: 11 :: 4 :: 10 :: 3 :: 5 :: 9 :: 0 :: 2 :: 8 :: 1 :: 6 :: 7 :: [], (by decide +kernel), fun S hle hfr => ?_⟩, ?_⟩
           · exact .inr ⟨.inr (.inl ⟨_, _, _, _, rfl, rfl, (hle.ev (x := .tmp _) rfl (by nofun)), (by rw [hle.nt]; rfl), (by first | rfl | (rw [q16]; rfl))⟩), rfl, hle.d rfl⟩
           refine ⟨⟨18 :: 12 :: 17 :: 11 :: 4 :: 15 :: 16 :: 10 :: 3 :: 5 :: 9 :: 0 :: 2 :: 8 :: 1 :: 6 :: 7 :: [], (by decide +kernel), fun S hle hfr => ?_⟩, ?_⟩
           · exact .inr ⟨.inr (.inl ⟨_, _, _, _, rfl, rfl, (hle.ev (x := .tmp _) rfl (by nofun)), (by rw [hle.nt]; rfl), (by first | rfl | (rw [q16]; rfl))⟩), rfl, hle.d rfl⟩
           refine ⟨⟨14 :: 19 :: 12 :: 13 :: 18 :: 11 :: 4 :: 17 :: 10 :: 3 :: 15 :: 16 :: 5 :: 9 :: 0 :: 2 :: 8 :: 1 :: 6 :: 7 :: [], (by decide +kernel), fun S hle hfr => ?_⟩, ?_⟩
           · exact .inr ⟨.inr (.inl ⟨_, _, _, _, rfl, rfl, (hle.ev (x := .tmp _) rfl (by nofun)), (by rw [hle.nt]; rfl), (by first | rfl | (rw [q16]; rfl))⟩), rfl, hle.d rfl⟩
           refine ⟨⟨12 :: 20 :: 11 :: 4 :: 14 :: 19 :: 10 :: 3 :: 13 :: 18 :: 5 :: 9 :: 0 :: 2 :: 17 :: 8 :: 1 :: 15 :: 16 :: 6 :: 7 :: [], (by decide +kernel), fun S hle hfr => ?_⟩, ?_⟩
           · exact .inl ⟨.inl ⟨rfl, rfl⟩, st_pick_yes (hle.ev rfl (by nofun)) (by first | rfl | exact q16) (hle.ev rfl (by nofun)) (hle.d rfl)⟩
           refine ⟨⟨21 :: 12 :: 20 :: 11 :: 4 :: 14 :: 19 :: 10 :: 3 :: 13 :: 18 :: 5 :: 9 :: 0 :: 2 :: 17 :: 8 :: 1 :: 15 :: 16 :: 6 :: 7 :: [], (by decide +kernel), fun S hle hfr => ?_⟩, ?_⟩
           · exact .inl ⟨.inl ⟨rfl, rfl⟩, st_move (hle.ev rfl (by nofun)) (hle.d rfl)⟩
           refine ⟨⟨22 :: 21 :: 12 :: 20 :: 11 :: 4 :: 14 :: 19 :: 10 :: 3 :: 13 :: 18 :: 5 :: 9 :: 0 :: 2 :: 17 :: 8 :: 1 :: 15 :: 16 :: 6 :: 7 :: [], (by decide +kernel), fun S hle hfr => ?_⟩, ?_⟩
           · exact .inr ⟨.inr (.inl ⟨_, _, _, _, rfl, rfl, (hle.ev (x := .tmp _) rfl (by nofun)), (by rw [hle.nt]; rfl), (by first | rfl | (rw [rfl]; rfl))⟩), rfl, hle.d rfl⟩
           refine ⟨⟨23 :: 22 :: 21 :: 12 :: 20 :: 11 :: 4 :: 14 :: 19 :: 10 :: 3 :: 13 :: 18 :: 5 :: 9 :: 0 :: 2 :: 17 :: 8 :: 1 :: 15 :: 16 :: 6 :: 7 :: [], (by decide +kernel), fun S hle hfr => ?_⟩, ?_⟩
           · exact .inr ⟨.inr (.inl ⟨_, _, _, _, rfl, rfl, (hle.ev (x := .tmp _) rfl (by nofun)), (by rw [hle.nt]; rfl), (by first | rfl | (rw [rfl]; rfl))⟩), rfl, hle.d rfl⟩
           refine ⟨⟨24 :: 22 :: 23 :: 21 :: 12 :: 20 :: 11 :: 4 :: 14 :: 19 :: 10 :: 3 :: 13 :: 18 :: 5 :: 9 :: 0 :: 2 :: 17 :: 8 :: 1 :: 15 :: 16 :: 6 :: 7 :: [], (by decide +kernel), fun S hle hfr => ?_⟩, ?_⟩
           · exact .inr ⟨.inr (.inl ⟨_, _, _, _, rfl, rfl, (hle.ev (x := .tmp _) rfl (by nofun)), (by rw [hle.nt]; rfl), (by first | rfl | (rw [rfl]; rfl))⟩), rfl, hle.d rfl⟩
           refine ⟨⟨22 :: 21 :: 12 :: 20 :: 11 :: 4 :: 14 :: 19 :: 10 :: 3 :: 13 :: 18 :: 5 :: 9 :: 0 :: 2 :: 17 :: 8 :: 1 :: 15 :: 16 :: 6 :: 7 :: [], (by decide +kernel), fun S hle hfr => ?_⟩, ?_⟩
           · exact .inr ⟨.inr (.inl ⟨_, _, _, _, rfl, rfl, (hle.ev (x := .tmp _) rfl (by nofun)), (by rw [hle.nt]; rfl), (by first | rfl | (rw [rfl]; rfl))⟩), rfl, hle.d rfl⟩
           refine ⟨⟨22 :: 21 :: 12 :: 20 :: 11 :: 4 :: 14 :: 19 :: 10 :: 3 :: 13 :: 18 :: 5 :: 9 :: 0 :: 2 :: 17 :: 8 :: 1 :: 15 :: 16 :: 6 :: 7 :: [], (by decide +kernel), fun S hle hfr => ?_⟩, ?_⟩
           · exact .inr ⟨.inr (.inl ⟨_, _, _, _, rfl, rfl, (hle.ev (x := .tmp _) rfl (by nofun)), (by rw [hle.nt]; rfl), (by first | rfl | (rw [rfl]; rfl))⟩), rfl, hle.d rfl⟩
           refine ⟨⟨26 :: 27 :: 22 :: 21 :: 12 :: 20 :: 11 :: 4 :: 14 :: 19 :: 10 :: 3 :: 13 :: 18 :: 5 :: 9 :: 0 :: 2 :: 17 :: 8 :: 1 :: 15 :: 16 :: 6 :: 7 :: [], (by decide +kernel), fun S hle hfr => ?_⟩, ?_⟩
           · exact .inr ⟨.inr (.inl ⟨_, _, _, _, rfl, rfl, (hle.ev (x := .tmp _) rfl (by nofun)), (by rw [hle.nt]; rfl), (by first | rfl | (rw [rfl]; rfl))⟩), rfl, hle.d rfl⟩
           refine ⟨⟨28 :: 22 :: 26 :: 27 :: 21 :: 12 :: 20 :: 11 :: 4 :: 14 :: 19 :: 10 :: 3 :: 13 :: 18 :: 5 :: 9 :: 0 :: 2 :: 17 :: 8 :: 1 :: 15 :: 16 :: 6 :: 7 :: [], (by decide +kernel), fun S hle hfr => ?_⟩, ?_⟩
           · exact .inr ⟨.inr (.inl ⟨_, _, _, _, rfl, rfl, (hle.ev (x := .tmp _) rfl (by nofun)), (by rw [hle.nt]; rfl), (by first | rfl | (rw [rfl]; rfl))⟩), rfl, hle.d rfl⟩
           refine ⟨⟨29 :: 22 :: 28 :: 21 :: 12 :: 26 :: 27 :: 20 :: 11 :: 4 :: 14 :: 19 :: 10 :: 3 :: 13 :: 18 :: 5 :: 9 :: 0 :: 2 :: 17 :: 8 :: 1 :: 15 :: 16 :: 6 :: 7 :: [], (by decide +kernel), fun S hle hfr => ?_⟩, ?_⟩
           · exact .inr ⟨.inr (.inl ⟨_, _, _, _, rfl, rfl, (hle.ev (x := .tmp _) rfl (by nofun)), (by rw [hle.nt]; rfl), (by first | rfl | (rw [rfl]; rfl))⟩), rfl, hle.d rfl⟩
           refine ⟨⟨30 :: 22 :: 29 :: 21 :: 12 :: 28 :: 20 :: 11 :: 4 :: 26 :: 27 :: 14 :: 19 :: 10 :: 3 :: 13 :: 18 :: 5 :: 9 :: 0 :: 2 :: 17 :: 8 :: 1 :: 15 :: 16 :: 6 :: 7 :: [], (by decide +kernel), fun S hle hfr => ?_⟩, ?_⟩
           · exact .inr ⟨.inr (.inl ⟨_, _, _, _, rfl, rfl, (hle.ev (x := .tmp _) rfl (by nofun)), (by rw [hle.nt]; rfl), (by first | rfl | (rw [rfl]; rfl))⟩), rfl, hle.d rfl⟩
           exact trivial
          case hk10x => rfl
          case hf10x => rfl
          refine aops_no rfl rfl rfl rfl rfl (by decide) ?_
          refine aops_step1 rfl (st_pick_yes rfl (by first | rfl | exact rfl) rfl rfl) ?_
          refine aops_nil ?_
          refine aw_yes rfl (rfl) ?_
          refine aw_seq ?_
          refine aw_region ?_
          refine aops_step1 rfl (st_store (cs' := [_]) rfl rfl rfl rfl rfl rfl rfl rfl rfl) ?_
          refine aops_nil ?_
          cases Option.some.inj l13
          replace h := Md.onS_r h
          cases Option.some.inj h
          refine aw_ret ⟨rfl, ?_⟩
          refine ⟨rfl, ret_v (.inl ⟨_, rfl, ⟨_, _, _, _, _, rfl, rfl, TVar.h, rfl, _, rfl, rfl⟩, fun _ e => nomatch e⟩) rfl rfl rfl ?_⟩
          (repeat' (first | exact TLe.refl _ | exact VLe.refl _ | exact CLe.refl _ | exact All2.nil | refine TLe.tup ?_ | refine TLe.v ?_ | refine All2.cons ?_ ?_ | refine VLe.agg ?_ | refine VLe.one ?_ | exact CLe.nil _ | exact CLe.emp _ | refine CLe.val ?_ | refine CLe.slc ?_ ?_))
        replace l13 := Md.cond_f l13 q16
        obtain ⟨g17, l13⟩ := Md.ifp_s l13
        rcases Md.bool_or ((y13.2.Kind != ((x9.1.getD s13_0 default).Kind))) with q18 | q18
        · replace l13 := Md.cond_t l13 q18
          refine aw_seq ?_
          apply aw_draw 32 ((⟨[], .one (.val (.int .i64 ((s13_0 : Nat) : Int)))⟩ : Add) :: ⟨[], .one (CV.ls c_JournalRecord x9.1)⟩ :: ⟨[], .one (.val (.int .i64 ((x9.1.length : Nat) : Int)))⟩ :: ⟨[], .one (.val (.bool (decide (((s13_0 : Nat) : Int) ≥ ((x9.1.length : Nat) : Int)))))⟩ :: ⟨[], .one (.val (.bool (decide (((s13_0 : Nat) : Int) ≥ ((x9.1.length : Nat) : Int)))))⟩ :: ⟨[], .one (.val (.int .i64 y13.1))⟩ :: ⟨[], .one (CV.ls c_Int x9.2.1)⟩ :: ⟨[], .one (.val (.int .i64 ((s13_0 : Nat) : Int)))⟩ :: ⟨[], .one (.cptr _)⟩ :: ⟨[], .one (.val (.int .i64 (x9.2.1.getD s13_0 default)))⟩ :: ⟨[], .one (.val (.bool (y13.1 != (x9.2.1.getD s13_0 default))))⟩ :: ⟨[], .one (.val (.bool (y13.1 != (x9.2.1.getD s13_0 default))))⟩ :: ⟨[], .one (.val (.bool (y13.1 != (x9.2.1.getD s13_0 default))))⟩ :: ⟨[], .one (.ptr 6 _)⟩ :: ⟨[], .one (.val (.int .i64 y13.2.Kind))⟩ :: ⟨[], .one (CV.ls c_JournalRecord x9.1)⟩ :: ⟨[], .one (.val (.int .i64 ((s13_0 : Nat) : Int)))⟩ :: ⟨[], .one (.cptr _)⟩ :: ⟨[], .one (.cptr _)⟩ :: ⟨[], .one (.val (.int .i64 ((x9.1.getD s13_0 default).Kind)))⟩ :: ⟨[], .one (.val (.bool (y13.2.Kind != ((x9.1.getD s13_0 default).Kind))))⟩ :: ⟨[], .one (.val (.bool (y13.2.Kind != ((x9.1.getD s13_0 default).Kind))))⟩ :: ⟨[], .one (.val (.bool (y13.2.Kind != ((x9.1.getD s13_0 default).Kind))))⟩ :: ⟨[], .tup []⟩ :: ⟨[], .tup []⟩ :: ⟨[], .tup []⟩ :: ⟨[], .tup []⟩ :: ⟨[], .tup []⟩ :: ⟨[], .tup []⟩ :: ⟨[], .tup []⟩ :: ⟨[], .tup []⟩ :: ⟨[], .tup []⟩ :: []) (by decide) rfl ?hk11x ?hf11x ?ho11x ?hr11x
          case ho11x =>
           refine ⟨⟨[], (by decide +kernel), fun S hle hfr => ?_⟩, ?_⟩
           · exact .inl ⟨.inl ⟨rfl, rfl⟩, ev_load (hle.ev rfl (by nofun)) (hle.heap _ _ rfl) rfl (hle.d rfl)⟩
           refine ⟨⟨[], (by decide +kernel), fun S hle hfr => ?_⟩, ?_⟩
           · exact .inl ⟨.inl ⟨rfl, rfl⟩, ev_load (hle.ev rfl (by nofun)) (hle.heap _ _ rfl) rfl (hle.d rfl)⟩
           refine ⟨⟨1 :: [], (by decide +kernel), fun S hle hfr => ?_⟩, ?_⟩
           · exact .inl ⟨.inl ⟨rfl, rfl⟩, ev_len_slc (hle.ev rfl (by nofun)) (hle.d rfl)⟩
           refine ⟨⟨0 :: 2 :: 1 :: [], (by decide +kernel), fun S hle hfr => ?_⟩, ?_⟩
           · exact .inl ⟨.inl ⟨rfl, rfl⟩, ev_cmp (hle.ev rfl (by nofun)) (hle.ev rfl (by nofun)) (hle.d rfl) rfl⟩
           refine ⟨⟨3 :: 0 :: 2 :: 1 :: [], (by decide +kernel), fun S hle hfr => ?_⟩, ?_⟩
           · exact .inl ⟨.inl ⟨rfl, rfl⟩, st_move (hle.ev rfl (by nofun)) (hle.d rfl)⟩
           refine ⟨⟨4 :: 3 :: 0 :: 2 :: 1 :: [], (by decide +kernel), fun S hle hfr => ?_⟩, ?_⟩
           · exact .inl ⟨.inr (.inl ⟨_, _, _, _, rfl, rfl, (hle.ev (x := .tmp _) rfl (by nofun)), (by rw [hle.nt]; rfl), (by first | rfl | (rw [q14]; rfl))⟩), st_move (hle.ev rfl (by nofun)) (hle.d rfl)⟩
           refine ⟨⟨4 :: 3 :: 0 :: 2 :: 1 :: [], (by decide +kernel), fun S hle hfr => ?_⟩, ?_⟩
           · exact .inl ⟨.inr (.inl ⟨_, _, _, _, rfl, rfl, (hle.ev (x := .tmp _) rfl (by nofun)), (by rw [hle.nt]; rfl), (by first | rfl | (rw [q14]; rfl))⟩), ev_load (hle.ev rfl (by nofun)) (hle.heap _ _ rfl) rfl (hle.d rfl)⟩
           refine ⟨⟨4 :: 3 :: 0 :: 2 :: 1 :: [], (by decide +kernel), fun S hle hfr => ?_⟩, ?_⟩
           · exact .inl ⟨.inr (.inl ⟨_, _, _, _, rfl, rfl, (hle.ev (x := .tmp _) rfl (by nofun)), (by rw [hle.nt]; rfl), (by first | rfl | (rw [q14]; rfl))⟩), ev_load (hle.ev rfl (by nofun)) (hle.heap _ _ rfl) rfl (hle.d rfl)⟩
           refine ⟨⟨6 :: 7 :: 4 :: 3 :: 0 :: 2 :: 1 :: [], (by decide +kernel), fun S hle hfr => ?_⟩, ?_⟩
           · exact .inl ⟨.inr (.inl ⟨_, _, _, _, rfl, rfl, (hle.ev (x := .tmp _) rfl (by nofun)), (by rw [hle.nt]; rfl), (by first | rfl | (rw [q14]; rfl))⟩), ev_index_in (hle.ev rfl (by nofun)) (hle.ev rfl (by nofun)) rfl g15 rfl (hle.d rfl)⟩
           refine ⟨⟨8 :: 4 :: 6 :: 7 :: 3 :: 0 :: 2 :: 1 :: [], (by decide +kernel), fun S hle hfr => ?_⟩, ?_⟩
           · exact .inl ⟨.inr (.inl ⟨_, _, _, _, rfl, rfl, (hle.ev (x := .tmp _) rfl (by nofun)), (by rw [hle.nt]; rfl), (by first | rfl | (rw [q14]; rfl))⟩), ev_load_in (hle.ev rfl (by nofun)) rfl (hle.d rfl)⟩
           refine ⟨⟨5 :: 9 :: 4 :: 8 :: 3 :: 6 :: 7 :: 0 :: 2 :: 1 :: [], (by decide +kernel), fun S hle hfr => ?_⟩, ?_⟩
           · exact .inl ⟨.inr (.inl ⟨_, _, _, _, rfl, rfl, (hle.ev (x := .tmp _) rfl (by nofun)), (by rw [hle.nt]; rfl), (by first | rfl | (rw [q14]; rfl))⟩), ev_cmp (hle.ev rfl (by nofun)) (hle.ev rfl (by nofun)) (hle.d rfl) rfl⟩
           refine ⟨⟨4 :: 10 :: 3 :: 5 :: 9 :: 0 :: 2 :: 8 :: 1 :: 6 :: 7 :: [], (by decide +kernel), fun S hle hfr => ?_⟩, ?_⟩
           · exact .inl ⟨.inl ⟨rfl, rfl⟩, st_pick_no (hle.ev rfl (by nofun)) (by first | rfl | exact q14) (hle.ev rfl (by nofun)) (hle.d rfl)⟩
           refine ⟨⟨11 :: 4 :: 10 :: 3 :: 5 :: 9 :: 0 :: 2 :: 8 :: 1 :: 6 :: 7 :: [], (by decide +kernel), fun S hle hfr => ?_⟩, ?_⟩
           · exact .inl ⟨.inl ⟨rfl, rfl⟩, st_move (hle.ev rfl (by nofun)) (hle.d rfl)⟩
           refine ⟨⟨12 :: 11 :: 4 :: 10 :: 3 :: 5 :: 9 :: 0 :: 2 :: 8 :: 1 :: 6 :: 7 :: [], (by decide +kernel), fun S hle hfr => ?_⟩, ?_⟩
           · exact .inl ⟨.inr (.inl ⟨_, _, _, _, rfl, rfl, (hle.ev (x := .tmp _) rfl (by nofun)), (by rw [hle.nt]; rfl), (by first | rfl | (rw [q16]; rfl))⟩), ev_field (hle.ev rfl (by nofun)) rfl (hle.d rfl)⟩
           refine ⟨⟨13 :: 12 :: 11 :: 4 :: 10 :: 3 :: 5 :: 9 :: 0 :: 2 :: 8 :: 1 :: 6 :: 7 :: [], (by decide +kernel), fun S hle hfr => ?_⟩, ?_⟩
           · exact .inl ⟨.inr (.inl ⟨_, _, _, _, rfl, rfl, (hle.ev (x := .tmp _) rfl (by nofun)), (by rw [hle.nt]; rfl), (by first | rfl | (rw [q16]; rfl))⟩), ev_load (hle.ev rfl (by nofun)) (hle.heap _ _ rfl) rfl (hle.d rfl)⟩
           refine ⟨⟨12 :: 11 :: 4 :: 10 :: 3 :: 5 :: 9 :: 0 :: 2 :: 8 :: 1 :: 6 :: 7 :: [], (by decide +kernel), fun S hle hfr => ?_⟩, ?_⟩
           · exact .inl ⟨.inr (.inl ⟨_, _, _, _, rfl, rfl, (hle.ev (x := .tmp _) rfl (by nofun)), (by rw [hle.nt]; rfl), (by first | rfl | (rw [q16]; rfl))⟩), ev_load (hle.ev rfl (by nofun)) (hle.heap _ _ rfl) rfl (hle.d rfl)⟩
           refine ⟨⟨12 :: 11 :: 4 :: 10 :: 3 :: 5 :: 9 :: 0 :: 2 :: 8 :: 1 :: 6 :: 7 :: [], (by decide +kernel), fun S hle hfr => ?_⟩, ?_⟩
           · exact .inl ⟨.inr (.inl ⟨_, _, _, _, rfl, rfl, (hle.ev (x := .tmp _) rfl (by nofun)), (by rw [hle.nt]; rfl), (by first | rfl | (rw [q16]; rfl))⟩), ev_load (hle.ev rfl (by nofun)) (hle.heap _ _ rfl) rfl (hle.d rfl)⟩
           refine ⟨⟨15 :: 16 :: 12 :: 11 :: 4 :: 10 :: 3 :: 5 :: 9 :: 0 :: 2 :: 8 :: 1 :: 6 :: 7 :: [], (by decide +kernel), fun S hle hfr => ?_⟩, ?_⟩
           · exact .inl ⟨.inr (.inl ⟨_, _, _, _, rfl, rfl, (hle.ev (x := .tmp _) rfl (by nofun)), (by rw [hle.nt]; rfl), (by first | rfl | (rw [q16]; rfl))⟩), ev_index_in (hle.ev rfl (by nofun)) (hle.ev rfl (by nofun)) rfl g17 rfl (hle.d rfl)⟩
           refine ⟨⟨17 :: 12 :: 15 :: 16 :: 11 :: 4 :: 10 :: 3 :: 5 :: 9 :: 0 :: 2 :: 8 :: 1 :: 6 :: 7 :: [], (by decide +kernel), fun S hle hfr => ?_⟩, ?_⟩
           · exact .inl ⟨.inr (.inl ⟨_, _, _, _, rfl, rfl, (hle.ev (x := .tmp _) rfl (by nofun)), (by rw [hle.nt]; rfl), (by first | rfl | (rw [q16]; rfl))⟩), ev_field_in (hle.ev rfl (by nofun)) rfl (hle.d rfl)⟩
           refine ⟨⟨18 :: 12 :: 17 :: 11 :: 4 :: 15 :: 16 :: 10 :: 3 :: 5 :: 9 :: 0 :: 2 :: 8 :: 1 :: 6 :: 7 :: [], (by decide +kernel), fun S hle hfr => ?_⟩, ?_⟩
           · exact .inl ⟨.inr (.inl ⟨_, _, _, _, rfl, rfl, (hle.ev (x := .tmp _) rfl (by nofun)), (by rw [hle.nt]; rfl), (by first | rfl | (rw [q16]; rfl))⟩), ev_load_in (hle.ev rfl (by nofun)) rfl (hle.d rfl)⟩
           refine ⟨⟨14 :: 19 :: 12 :: 13 :: 18 :: 11 :: 4 :: 17 :: 10 :: 3 :: 15 :: 16 :: 5 :: 9 :: 0 :: 2 :: 8 :: 1 :: 6 :: 7 :: [], (by decide +kernel), fun S hle hfr => ?_⟩, ?_⟩
           · exact .inl ⟨.inr (.inl ⟨_, _, _, _, rfl, rfl, (hle.ev (x := .tmp _) rfl (by nofun)), (by rw [hle.nt]; rfl), (by first | rfl | (rw [q16]; rfl))⟩), ev_cmp (hle.ev rfl (by nofun)) (hle.ev rfl (by nofun)) (hle.d rfl) rfl⟩
           refine ⟨⟨12 :: 20 :: 11 :: 4 :: 14 :: 19 :: 10 :: 3 :: 13 :: 18 :: 5 :: 9 :: 0 :: 2 :: 17 :: 8 :: 1 :: 15 :: 16 :: 6 :: 7 :: [], (by decide +kernel), fun S hle hfr => ?_⟩, ?_⟩
           · exact .inl ⟨.inl ⟨rfl, rfl⟩, st_pick_no (hle.ev rfl (by nofun)) (by first | rfl | exact q16) (hle.ev rfl (by nofun)) (hle.d rfl)⟩
           refine ⟨⟨21 :: 12 :: 20 :: 11 :: 4 :: 14 :: 19 :: 10 :: 3 :: 13 :: 18 :: 5 :: 9 :: 0 :: 2 :: 17 :: 8 :: 1 :: 15 :: 16 :: 6 :: 7 :: [], (by decide +kernel), fun S hle hfr => ?_⟩, ?_⟩
           · exact .inl ⟨.inl ⟨rfl, rfl⟩, st_move (hle.ev rfl (by nofun)) (hle.d rfl)⟩
           refine ⟨⟨22 :: 21 :: 12 :: 20 :: 11 :: 4 :: 14 :: 19 :: 10 :: 3 :: 13 :: 18 :: 5 :: 9 :: 0 :: 2 :: 17 :: 8 :: 1 :: 15 :: 16 :: 6 :: 7 :: [], (by decide +kernel), fun S hle hfr => ?_⟩, ?_⟩
           · exact .inr ⟨.inr (.inl ⟨_, _, _, _, rfl, rfl, (hle.ev (x := .tmp _) rfl (by nofun)), (by rw [hle.nt]; rfl), (by first | rfl | (rw [q18]; rfl))⟩), rfl, hle.d rfl⟩
           refine ⟨⟨23 :: 22 :: 21 :: 12 :: 20 :: 11 :: 4 :: 14 :: 19 :: 10 :: 3 :: 13 :: 18 :: 5 :: 9 :: 0 :: 2 :: 17 :: 8 :: 1 :: 15 :: 16 :: 6 :: 7 :: [], (by decide +kernel), fun S hle hfr => ?_⟩, ?_⟩
           · exact .inr ⟨.inr (.inl ⟨_, _, _, _, rfl, rfl, (hle.ev (x := .tmp _) rfl (by nofun)), (by rw [hle.nt]; rfl), (by first | rfl | (rw [q18]; rfl))⟩), rfl, hle.d rfl⟩
           refine ⟨⟨24 :: 22 :: 23 :: 21 :: 12 :: 20 :: 11 :: 4 :: 14 :: 19 :: 10 :: 3 :: 13 :: 18 :: 5 :: 9 :: 0 :: 2 :: 17 :: 8 :: 1 :: 15 :: 16 :: 6 :: 7 :: [], (by decide +kernel), fun S hle hfr => ?_⟩, ?_⟩
           · exact .inr ⟨.inr (.inl ⟨_, _, _, _, rfl, rfl, (hle.ev (x := .tmp _) rfl (by nofun)), (by rw [hle.nt]; rfl), (by first | rfl | (rw [q18]; rfl))⟩), rfl, hle.d rfl⟩
           refine ⟨⟨22 :: 21 :: 12 :: 20 :: 11 :: 4 :: 14 :: 19 :: 10 :: 3 :: 13 :: 18 :: 5 :: 9 :: 0 :: 2 :: 17 :: 8 :: 1 :: 15 :: 16 :: 6 :: 7 :: [], (by decide +kernel), fun S hle hfr => ?_⟩, ?_⟩
           · exact .inr ⟨.inr (.inl ⟨_, _, _, _, rfl, rfl, (hle.ev (x := .tmp _) rfl (by nofun)), (by rw [hle.nt]; rfl), (by first | rfl | (rw [q18]; rfl))⟩), rfl, hle.d rfl⟩
           refine ⟨⟨22 :: 21 :: 12 :: 20 :: 11 :: 4 :: 14 :: 19 :: 10 :: 3 :: 13 :: 18 :: 5 :: 9 :: 0 :: 2 :: 17 :: 8 :: 1 :: 15 :: 16 :: 6 :: 7 :: [], (by decide +kernel), fun S hle hfr => ?_⟩, ?_⟩
           · exact .inr ⟨.inr (.inl ⟨_, _, _, _, rfl, rfl, (hle.ev (x := .tmp _) rfl (by nofun)), (by rw [hle.nt]; rfl), (by first | rfl | (rw [q18]; rfl))⟩), rfl, hle.d rfl⟩
           refine ⟨⟨26 :: 27 :: 22 :: 21 :: 12 :: 20 :: 11 :: 4 :: 14 :: 19 :: 10 :: 3 :: 13 :: 18 :: 5 :: 9 :: 0 :: 2 :: 17 :: 8 :: 1 :: 15 :: 16 :: 6 :: 7 :: [], (by decide +kernel), fun S hle hfr => ?_⟩, ?_⟩
           · exact .inr ⟨.inr (.inl ⟨_, _, _, _, rfl, rfl, (hle.ev (x := .tmp _) rfl (by nofun)), (by rw [hle.nt]; rfl), (by first | rfl | (rw [q18]; rfl))⟩), rfl, hle.d rfl⟩
           refine ⟨⟨28 :: 22 :: 26 :: 27 :: 21 :: 12 :: 20 :: 11 :: 4 :: 14 :: 19 :: 10 :: 3 :: 13 :: 18 :: 5 :: 9 :: 0 :: 2 :: 17 :: 8 :: 1 :: 15 :: 16 :: 6 :: 7 :: [], (by decide +kernel), fun S hle hfr => ?_⟩, ?_⟩
           · exact .inr ⟨.inr (.inl ⟨_, _, _, _, rfl, rfl, (hle.ev (x := .tmp _) rfl (by nofun)), (by rw [hle.nt]; rfl), (by first | rfl | (rw [q18]; rfl))⟩), rfl, hle.d rfl⟩
           refine ⟨⟨29 :: 22 :: 28 :: 21 :: 12 :: 26 :: 27 :: 20 :: 11 :: 4 :: 14 :: 19 :: 10 :: 3 :: 13 :: 18 :: 5 :: 9 :: 0 :: 2 :: 17 :: 8 :: 1 :: 15 :: 16 :: 6 :: 7 :: [], (by decide +kernel), fun S hle hfr => ?_⟩, ?_⟩
           · exact .inr ⟨.inr (.inl ⟨_, _, _, _, rfl, rfl, (hle.ev (x := .tmp _) rfl (by nofun)), (by rw [hle.nt]; rfl), (by first | rfl | (rw [q18]; rfl))⟩), rfl, hle.d rfl⟩
           refine ⟨⟨30 :: 22 :: 29 :: 21 :: 12 :: 28 :: 20 :: 11 :: 4 :: 26 :: 27 :: 14 :: 19 :: 10 :: 3 :: 13 :: 18 :: 5 :: 9 :: 0 :: 2 :: 17 :: 8 :: 1 :: 15 :: 16 :: 6 :: 7 :: [], (by decide +kernel), fun S hle hfr => ?_⟩, ?_⟩
           · exact .inr ⟨.inr (.inl ⟨_, _, _, _, rfl, rfl, (hle.ev (x := .tmp _) rfl (by nofun)), (by rw [hle.nt]; rfl), (by first | rfl | (rw [q18]; rfl))⟩), rfl, hle.d rfl⟩
           exact trivial
          case hk11x => rfl
          case hf11x => rfl
          refine aops_no rfl rfl rfl rfl rfl (by first | decide | (rw [q18]; decide)) ?_
          refine aops_step1 rfl (st_pick_yes rfl (by first | rfl | exact q18) rfl rfl) ?_
          refine aops_nil ?_
          refine aw_yes rfl (rfl) ?_
          refine aw_seq ?_
          refine aw_region ?_
          refine aops_step1 rfl (st_store (cs' := [_]) rfl rfl rfl rfl rfl rfl rfl rfl rfl) ?_
          refine aops_nil ?_
          cases Option.some.inj l13
          replace h := Md.onS_r h
          cases Option.some.inj h
          refine aw_ret ⟨rfl, ?_⟩
          refine ⟨rfl, ret_v (.inl ⟨_, rfl, ⟨_, _, _, _, _, rfl, rfl, TVar.h, rfl, _, rfl, rfl⟩, fun _ e => nomatch e⟩) rfl rfl rfl ?_⟩
          (repeat' (first | exact TLe.refl _ | exact VLe.refl _ | exact CLe.refl _ | exact All2.nil | refine TLe.tup ?_ | refine TLe.v ?_ | refine All2.cons ?_ ?_ | refine VLe.agg ?_ | refine VLe.one ?_ | exact CLe.nil _ | exact CLe.emp _ | refine CLe.val ?_ | refine CLe.slc ?_ ?_))
        replace l13 := Md.cond_f l13 q18
        obtain ⟨g19, l13⟩ := Md.ifp_s l13
        refine aw_seq ?_
        apply aw_draw 32 ((⟨[], .one (.val (.int .i64 ((s13_0 : Nat) : Int)))⟩ : Add) :: ⟨[], .one (CV.ls c_JournalRecord x9.1)⟩ :: ⟨[], .one (.val (.int .i64 ((x9.1.length : Nat) : Int)))⟩ :: ⟨[], .one (.val (.bool (decide (((s13_0 : Nat) : Int) ≥ ((x9.1.length : Nat) : Int)))))⟩ :: ⟨[], .one (.val (.bool (decide (((s13_0 : Nat) : Int) ≥ ((x9.1.length : Nat) : Int)))))⟩ :: ⟨[], .one (.val (.int .i64 y13.1))⟩ :: ⟨[], .one (CV.ls c_Int x9.2.1)⟩ :: ⟨[], .one (.val (.int .i64 ((s13_0 : Nat) : Int)))⟩ :: ⟨[], .one (.cptr _)⟩ :: ⟨[], .one (.val (.int .i64 (x9.2.1.getD s13_0 default)))⟩ :: ⟨[], .one (.val (.bool (y13.1 != (x9.2.1.getD s13_0 default))))⟩ :: ⟨[], .one (.val (.bool (y13.1 != (x9.2.1.getD s13_0 default))))⟩ :: ⟨[], .one (.val (.bool (y13.1 != (x9.2.1.getD s13_0 default))))⟩ :: ⟨[], .one (.ptr 6 _)⟩ :: ⟨[], .one (.val (.int .i64 y13.2.Kind))⟩ :: ⟨[], .one (CV.ls c_JournalRecord x9.1)⟩ :: ⟨[], .one (.val (.int .i64 ((s13_0 : Nat) : Int)))⟩ :: ⟨[], .one (.cptr _)⟩ :: ⟨[], .one (.cptr _)⟩ :: ⟨[], .one (.val (.int .i64 ((x9.1.getD s13_0 default).Kind)))⟩ :: ⟨[], .one (.val (.bool (y13.2.Kind != ((x9.1.getD s13_0 default).Kind))))⟩ :: ⟨[], .one (.val (.bool (y13.2.Kind != ((x9.1.getD s13_0 default).Kind))))⟩ :: ⟨[], .one (.val (.bool (y13.2.Kind != ((x9.1.getD s13_0 default).Kind))))⟩ :: ⟨[], .one (.ptr 6 _)⟩ :: ⟨[], .one (CV.ls byC y13.2.Body)⟩ :: ⟨[], .one (.val (Sv y13.2.Body))⟩ :: ⟨[], .one (CV.ls c_JournalRecord x9.1)⟩ :: ⟨[], .one (.val (.int .i64 ((s13_0 : Nat) : Int)))⟩ :: ⟨[], .one (.cptr _)⟩ :: ⟨[], .one (.cptr _)⟩ :: ⟨[], .one (CV.ls byC ((x9.1.getD s13_0 default).Body))⟩ :: ⟨[], .one (.val (Sv ((x9.1.getD s13_0 default).Body)))⟩ :: []) (by decide) rfl ?hk12x ?hf12x ?ho12x ?hr12x
        case ho12x =>
         refine ⟨⟨[], (by decide +kernel), fun S hle hfr => ?_⟩, ?_⟩
         · exact .inl ⟨.inl ⟨rfl, rfl⟩, ev_load (hle.ev rfl (by nofun)) (hle.heap _ _ rfl) rfl (hle.d rfl)⟩
         refine ⟨⟨[], (by decide +kernel), fun S hle hfr => ?_⟩, ?_⟩
         · exact .inl ⟨.inl ⟨rfl, rfl⟩, ev_load (hle.ev rfl (by nofun)) (hle.heap _ _ rfl) rfl (hle.d rfl)⟩
         refine ⟨⟨1 :: [], (by decide +kernel), fun S hle hfr => ?_⟩, ?_⟩
         · exact .inl ⟨.inl ⟨rfl, rfl⟩, ev_len_slc (hle.ev rfl (by nofun)) (hle.d rfl)⟩
         refine ⟨⟨0 :: 2 :: 1 :: [], (by decide +kernel), fun S hle hfr => ?_⟩, ?_⟩
         · exact .inl ⟨.inl ⟨rfl, rfl⟩, ev_cmp (hle.ev rfl (by nofun)) (hle.ev rfl (by nofun)) (hle.d rfl) rfl⟩
         refine ⟨⟨3 :: 0 :: 2 :: 1 :: [], (by decide +kernel), fun S hle hfr => ?_⟩, ?_⟩
         · exact .inl ⟨.inl ⟨rfl, rfl⟩, st_move (hle.ev rfl (by nofun)) (hle.d rfl)⟩
         refine ⟨⟨4 :: 3 :: 0 :: 2 :: 1 :: [], (by decide +kernel), fun S hle hfr => ?_⟩, ?_⟩
         · exact .inl ⟨.inr (.inl ⟨_, _, _, _, rfl, rfl, (hle.ev (x := .tmp _) rfl (by nofun)), (by rw [hle.nt]; rfl), (by first | rfl | (rw [q14]; rfl))⟩), st_move (hle.ev rfl (by nofun)) (hle.d rfl)⟩
         refine ⟨⟨4 :: 3 :: 0 :: 2 :: 1 :: [], (by decide +kernel), fun S hle hfr => ?_⟩, ?_⟩
         · exact .inl ⟨.inr (.inl ⟨_, _, _, _, rfl, rfl, (hle.ev (x := .tmp _) rfl (by nofun)), (by rw [hle.nt]; rfl), (by first | rfl | (rw [q14]; rfl))⟩), ev_load (hle.ev rfl (by nofun)) (hle.heap _ _ rfl) rfl (hle.d rfl)⟩
         refine ⟨⟨4 :: 3 :: 0 :: 2 :: 1 :: [], (by decide +kernel), fun S hle hfr => ?_⟩, ?_⟩
         · exact .inl ⟨.inr (.inl ⟨_, _, _, _, rfl, rfl, (hle.ev (x := .tmp _) rfl (by nofun)), (by rw [hle.nt]; rfl), (by first | rfl | (rw [q14]; rfl))⟩), ev_load (hle.ev rfl (by nofun)) (hle.heap _ _ rfl) rfl (hle.d rfl)⟩
         refine ⟨⟨6 :: 7 :: 4 :: 3 :: 0 :: 2 :: 1 :: [], (by decide +kernel), fun S hle hfr => ?_⟩, ?_⟩
         · exact .inl ⟨.inr (.inl ⟨_, _, _, _, rfl, rfl, (hle.ev (x := .tmp _) rfl (by nofun)), (by rw [hle.nt]; rfl), (by first | rfl | (rw [q14]; rfl))⟩), ev_index_in (hle.ev rfl (by nofun)) (hle.ev rfl (by nofun)) rfl g15 rfl (hle.d rfl)⟩
         refine ⟨⟨8 :: 4 :: 6 :: 7 :: 3 :: 0 :: 2 :: 1 :: [], (by decide +kernel), fun S hle hfr => ?_⟩, ?_⟩
         · exact .inl ⟨.inr (.inl ⟨_, _, _, _, rfl, rfl, (hle.ev (x := .tmp _) rfl (by nofun)), (by rw [hle.nt]; rfl), (by first | rfl | (rw [q14]; rfl))⟩), ev_load_in (hle.ev rfl (by nofun)) rfl (hle.d rfl)⟩
         refine ⟨⟨5 :: 9 :: 4 :: 8 :: 3 :: 6 :: 7 :: 0 :: 2 :: 1 :: [], (by decide +kernel), fun S hle hfr => ?_⟩, ?_⟩
         · exact .inl ⟨.inr (.inl ⟨_, _, _, _, rfl, rfl, (hle.ev (x := .tmp _) rfl (by nofun)), (by rw [hle.nt]; rfl), (by first | rfl | (rw [q14]; rfl))⟩), ev_cmp (hle.ev rfl (by nofun)) (hle.ev rfl (by nofun)) (hle.d rfl) rfl⟩
         refine ⟨⟨4 :: 10 :: 3 :: 5 :: 9 :: 0 :: 2 :: 8 :: 1 :: 6 :: 7 :: [], (by decide +kernel), fun S hle hfr => ?_⟩, ?_⟩
         · exact .inl ⟨.inl ⟨rfl, rfl⟩, st_pick_no (hle.ev rfl (by nofun)) (by first | rfl | exact q14) (hle.ev rfl (by nofun)) (hle.d rfl)⟩
         refine ⟨⟨11 :: 4 :: 10 :: 3 :: 5 :: 9 :: 0 :: 2 :: 8 :: 1 :: 6 :: 7 :: [], (by decide +kernel), fun S hle hfr => ?_⟩, ?_⟩
         · exact .inl ⟨.inl ⟨rfl, rfl⟩, st_move (hle.ev rfl (by nofun)) (hle.d rfl)⟩
         refine ⟨⟨12 :: 11 :: 4 :: 10 :: 3 :: 5 :: 9 :: 0 :: 2 :: 8 :: 1 :: 6 :: 7 :: [], (by decide +kernel), fun S hle hfr => ?_⟩, ?_⟩
         · exact .inl ⟨.inr (.inl ⟨_, _, _, _, rfl, rfl, (hle.ev (x := .tmp _) rfl (by nofun)), (by rw [hle.nt]; rfl), (by first | rfl | (rw [q16]; rfl))⟩), ev_field (hle.ev rfl (by nofun)) rfl (hle.d rfl)⟩
         refine ⟨⟨13 :: 12 :: 11 :: 4 :: 10 :: 3 :: 5 :: 9 :: 0 :: 2 :: 8 :: 1 :: 6 :: 7 :: [], (by decide +kernel), fun S hle hfr => ?_⟩, ?_⟩
         · exact .inl ⟨.inr (.inl ⟨_, _, _, _, rfl, rfl, (hle.ev (x := .tmp _) rfl (by nofun)), (by rw [hle.nt]; rfl), (by first | rfl | (rw [q16]; rfl))⟩), ev_load (hle.ev rfl (by nofun)) (hle.heap _ _ rfl) rfl (hle.d rfl)⟩
         refine ⟨⟨12 :: 11 :: 4 :: 10 :: 3 :: 5 :: 9 :: 0 :: 2 :: 8 :: 1 :: 6 :: 7 :: [], (by decide +kernel), fun S hle hfr => ?_⟩, ?_⟩
         · exact .inl ⟨.inr (.inl ⟨_, _, _, _, rfl, rfl, (hle.ev (x := .tmp _) rfl (by nofun)), (by rw [hle.nt]; rfl), (by first | rfl | (rw [q16]; rfl))⟩), ev_load (hle.ev rfl (by nofun)) (hle.heap _ _ rfl) rfl (hle.d rfl)⟩
         refine ⟨⟨12 :: 11 :: 4 :: 10 :: 3 :: 5 :: 9 :: 0 :: 2 :: 8 :: 1 :: 6 :: 7 :: [], (by decide +kernel), fun S hle hfr => ?_⟩, ?_⟩
         · exact .inl ⟨.inr (.inl ⟨_, _, _, _, rfl, rfl, (hle.ev (x := .tmp _) rfl (by nofun)), (by rw [hle.nt]; rfl), (by first | rfl | (rw [q16]; rfl))⟩), ev_load (hle.ev rfl (by nofun)) (hle.heap _ _ rfl) rfl (hle.d rfl)⟩
         refine ⟨⟨15 :: 16 :: 12 :: 11 :: 4 :: 10 :: 3 :: 5 :: 9 :: 0 :: 2 :: 8 :: 1 :: 6 :: 7 :: [], (by decide +kernel), fun S hle hfr => ?_⟩, ?_⟩
         · exact .inl ⟨.inr (.inl ⟨_, _, _, _, rfl, rfl, (hle.ev (x := .tmp _) rfl (by nofun)), (by rw [hle.nt]; rfl), (by first | rfl | (rw [q16]; rfl))⟩), ev_index_in (hle.ev rfl (by nofun)) (hle.ev rfl (by nofun)) rfl g17 rfl (hle.d rfl)⟩
         refine ⟨⟨17 :: 12 :: 15 :: 16 :: 11 :: 4 :: 10 :: 3 :: 5 :: 9 :: 0 :: 2 :: 8 :: 1 :: 6 :: 7 :: [], (by decide +kernel), fun S hle hfr => ?_⟩, ?_⟩
         · exact .inl ⟨.inr (.inl ⟨_, _, _, _, rfl, rfl, (hle.ev (x := .tmp _) rfl (by nofun)), (by rw [hle.nt]; rfl), (by first | rfl | (rw [q16]; rfl))⟩), ev_field_in (hle.ev rfl (by nofun)) rfl (hle.d rfl)⟩
         refine ⟨⟨18 :: 12 :: 17 :: 11 :: 4 :: 15 :: 16 :: 10 :: 3 :: 5 :: 9 :: 0 :: 2 :: 8 :: 1 :: 6 :: 7 :: [], (by decide +kernel), fun S hle hfr => ?_⟩, ?_⟩
         · exact .inl ⟨.inr (.inl ⟨_, _, _, _, rfl, rfl, (hle.ev (x := .tmp _) rfl (by nofun)), (by rw [hle.nt]; rfl), (by first | rfl | (rw [q16]; rfl))⟩), ev_load_in (hle.ev rfl (by nofun)) rfl (hle.d rfl)⟩
         refine ⟨⟨14 :: 19 :: 12 :: 13 :: 18 :: 11 :: 4 :: 17 :: 10 :: 3 :: 15 :: 16 :: 5 :: 9 :: 0 :: 2 :: 8 :: 1 :: 6 :: 7 :: [], (by decide +kernel), fun S hle hfr => ?_⟩, ?_⟩
         · exact .inl ⟨.inr (.inl ⟨_, _, _, _, rfl, rfl, (hle.ev (x := .tmp _) rfl (by nofun)), (by rw [hle.nt]; rfl), (by first | rfl | (rw [q16]; rfl))⟩), ev_cmp (hle.ev rfl (by nofun)) (hle.ev rfl (by nofun)) (hle.d rfl) rfl⟩
         refine ⟨⟨12 :: 20 :: 11 :: 4 :: 14 :: 19 :: 10 :: 3 :: 13 :: 18 :: 5 :: 9 :: 0 :: 2 :: 17 :: 8 :: 1 :: 15 :: 16 :: 6 :: 7 :: [], (by decide +kernel), fun S hle hfr => ?_⟩, ?_⟩
         · exact .inl ⟨.inl ⟨rfl, rfl⟩, st_pick_no (hle.ev rfl (by nofun)) (by first | rfl | exact q16) (hle.ev rfl (by nofun)) (hle.d rfl)⟩
         refine ⟨⟨21 :: 12 :: 20 :: 11 :: 4 :: 14 :: 19 :: 10 :: 3 :: 13 :: 18 :: 5 :: 9 :: 0 :: 2 :: 17 :: 8 :: 1 :: 15 :: 16 :: 6 :: 7 :: [], (by decide +kernel), fun S hle hfr => ?_⟩, ?_⟩
         · exact .inl ⟨.inl ⟨rfl, rfl⟩, st_move (hle.ev rfl (by nofun)) (hle.d rfl)⟩
         refine ⟨⟨22 :: 21 :: 12 :: 20 :: 11 :: 4 :: 14 :: 19 :: 10 :: 3 :: 13 :: 18 :: 5 :: 9 :: 0 :: 2 :: 17 :: 8 :: 1 :: 15 :: 16 :: 6 :: 7 :: [], (by decide +kernel), fun S hle hfr => ?_⟩, ?_⟩
         · exact .inl ⟨.inr (.inl ⟨_, _, _, _, rfl, rfl, (hle.ev (x := .tmp _) rfl (by nofun)), (by rw [hle.nt]; rfl), (by first | rfl | (rw [q18]; rfl))⟩), ev_field (hle.ev rfl (by nofun)) rfl (hle.d rfl)⟩
         refine ⟨⟨23 :: 22 :: 21 :: 12 :: 20 :: 11 :: 4 :: 14 :: 19 :: 10 :: 3 :: 13 :: 18 :: 5 :: 9 :: 0 :: 2 :: 17 :: 8 :: 1 :: 15 :: 16 :: 6 :: 7 :: [], (by decide +kernel), fun S hle hfr => ?_⟩, ?_⟩
         · exact .inl ⟨.inr (.inl ⟨_, _, _, _, rfl, rfl, (hle.ev (x := .tmp _) rfl (by nofun)), (by rw [hle.nt]; rfl), (by first | rfl | (rw [q18]; rfl))⟩), ev_load (hle.ev rfl (by nofun)) (hle.heap _ _ rfl) rfl (hle.d rfl)⟩
         refine ⟨⟨24 :: 22 :: 23 :: 21 :: 12 :: 20 :: 11 :: 4 :: 14 :: 19 :: 10 :: 3 :: 13 :: 18 :: 5 :: 9 :: 0 :: 2 :: 17 :: 8 :: 1 :: 15 :: 16 :: 6 :: 7 :: [], (by decide +kernel), fun S hle hfr => ?_⟩, ?_⟩
         · exact .inl ⟨.inr (.inl ⟨_, _, _, _, rfl, rfl, (hle.ev (x := .tmp _) rfl (by nofun)), (by rw [hle.nt]; rfl), (by first | rfl | (rw [q18]; rfl))⟩), ev_str_bytes (.inl (hle.ev rfl (by nofun))) Try.underlying24 Try.underlying5 Try.underlying9 (hle.d rfl)⟩
         refine ⟨⟨22 :: 21 :: 12 :: 20 :: 11 :: 4 :: 14 :: 19 :: 10 :: 3 :: 13 :: 18 :: 5 :: 9 :: 0 :: 2 :: 17 :: 8 :: 1 :: 15 :: 16 :: 6 :: 7 :: [], (by decide +kernel), fun S hle hfr => ?_⟩, ?_⟩
         · exact .inl ⟨.inr (.inl ⟨_, _, _, _, rfl, rfl, (hle.ev (x := .tmp _) rfl (by nofun)), (by rw [hle.nt]; rfl), (by first | rfl | (rw [q18]; rfl))⟩), ev_load (hle.ev rfl (by nofun)) (hle.heap _ _ rfl) rfl (hle.d rfl)⟩
         refine ⟨⟨22 :: 21 :: 12 :: 20 :: 11 :: 4 :: 14 :: 19 :: 10 :: 3 :: 13 :: 18 :: 5 :: 9 :: 0 :: 2 :: 17 :: 8 :: 1 :: 15 :: 16 :: 6 :: 7 :: [], (by decide +kernel), fun S hle hfr => ?_⟩, ?_⟩
         · exact .inl ⟨.inr (.inl ⟨_, _, _, _, rfl, rfl, (hle.ev (x := .tmp _) rfl (by nofun)), (by rw [hle.nt]; rfl), (by first | rfl | (rw [q18]; rfl))⟩), ev_load (hle.ev rfl (by nofun)) (hle.heap _ _ rfl) rfl (hle.d rfl)⟩
         refine ⟨⟨26 :: 27 :: 22 :: 21 :: 12 :: 20 :: 11 :: 4 :: 14 :: 19 :: 10 :: 3 :: 13 :: 18 :: 5 :: 9 :: 0 :: 2 :: 17 :: 8 :: 1 :: 15 :: 16 :: 6 :: 7 :: [], (by decide +kernel), fun S hle hfr => ?_⟩, ?_⟩
         · exact .inl ⟨.inr (.inl ⟨_, _, _, _, rfl, rfl, (hle.ev (x := .tmp _) rfl (by nofun)), (by rw [hle.nt]; rfl), (by first | rfl | (rw [q18]; rfl))⟩), ev_index_in (hle.ev rfl (by nofun)) (hle.ev rfl (by nofun)) rfl g19 rfl (hle.d rfl)⟩
         refine ⟨⟨28 :: 22 :: 26 :: 27 :: 21 :: 12 :: 20 :: 11 :: 4 :: 14 :: 19 :: 10 :: 3 :: 13 :: 18 :: 5 :: 9 :: 0 :: 2 :: 17 :: 8 :: 1 :: 15 :: 16 :: 6 :: 7 :: [], (by decide +kernel), fun S hle hfr => ?_⟩, ?_⟩
         · exact .inl ⟨.inr (.inl ⟨_, _, _, _, rfl, rfl, (hle.ev (x := .tmp _) rfl (by nofun)), (by rw [hle.nt]; rfl), (by first | rfl | (rw [q18]; rfl))⟩), ev_field_in (hle.ev rfl (by nofun)) rfl (hle.d rfl)⟩
         refine ⟨⟨29 :: 22 :: 28 :: 21 :: 12 :: 26 :: 27 :: 20 :: 11 :: 4 :: 14 :: 19 :: 10 :: 3 :: 13 :: 18 :: 5 :: 9 :: 0 :: 2 :: 17 :: 8 :: 1 :: 15 :: 16 :: 6 :: 7 :: [], (by decide +kernel), fun S hle hfr => ?_⟩, ?_⟩
         · exact .inl ⟨.inr (.inl ⟨_, _, _, _, rfl, rfl, (hle.ev (x := .tmp _) rfl (by nofun)), (by rw [hle.nt]; rfl), (by first | rfl | (rw [q18]; rfl))⟩), ev_load_in (hle.ev rfl (by nofun)) rfl (hle.d rfl)⟩
         refine ⟨⟨30 :: 22 :: 29 :: 21 :: 12 :: 28 :: 20 :: 11 :: 4 :: 26 :: 27 :: 14 :: 19 :: 10 :: 3 :: 13 :: 18 :: 5 :: 9 :: 0 :: 2 :: 17 :: 8 :: 1 :: 15 :: 16 :: 6 :: 7 :: [], (by decide +kernel), fun S hle hfr => ?_⟩, ?_⟩
         · exact .inl ⟨.inr (.inl ⟨_, _, _, _, rfl, rfl, (hle.ev (x := .tmp _) rfl (by nofun)), (by rw [hle.nt]; rfl), (by first | rfl | (rw [q18]; rfl))⟩), ev_str_bytes (.inl (hle.ev rfl (by nofun))) Try.underlying24 Try.underlying5 Try.underlying9 (hle.d rfl)⟩
         exact trivial
        case hk12x => rfl
        case hf12x => rfl
        refine aops_yes rfl rfl rfl rfl q18 (st_str_ne rfl rfl rfl) ?_
        refine aops_step1 rfl (st_pick_no rfl (by first | rfl | exact q18) rfl rfl) ?_
        refine aops_nil ?_
        refine aw_cond rfl (fun c20 => ?_) (fun c20 => ?_)
        · replace l13 := Md.cond_t l13 c20
          refine aw_seq ?_
          refine aw_region ?_
          refine aops_step1 rfl (st_store (cs' := [_]) rfl rfl rfl rfl rfl rfl rfl rfl rfl) ?_
          refine aops_nil ?_
          cases Option.some.inj l13
          replace h := Md.onS_r h
          cases Option.some.inj h
          refine aw_ret ⟨rfl, ?_⟩
          refine ⟨rfl, ret_v (.inl ⟨_, rfl, ⟨_, _, _, _, _, rfl, rfl, TVar.h, rfl, _, rfl, rfl⟩, fun _ e => nomatch e⟩) rfl rfl rfl ?_⟩
          (repeat' (first | exact TLe.refl _ | exact VLe.refl _ | exact CLe.refl _ | exact All2.nil | refine TLe.tup ?_ | refine TLe.v ?_ | refine All2.cons ?_ ?_ | refine VLe.agg ?_ | refine VLe.one ?_ | exact CLe.nil _ | exact CLe.emp _ | refine CLe.val ?_ | refine CLe.slc ?_ ?_))
        replace l13 := Md.cond_f l13 c20
        refine aw_skip ?_
        refine aw_region ?_
        refine aops_step1 rfl (ev_load rfl rfl rfl rfl) ?_
        obtain ⟨g21, l13⟩ := Md.ifp_s l13
        refine aops_step1 rfl (ev_add rfl rfl rfl (Md.nat_add g21)) ?_
        refine aops_step1 rfl (st_store (cs' := [_]) rfl rfl rfl rfl rfl rfl rfl rfl rfl) ?_
        refine aops_nil ?_
        exact ⟨rfl, (s13_0 + 1), l13, (by (refine weak_mk rfl rfl ?_ ?_ rfl <;> repeat' (first | exact trivial | refine ⟨?_, ?_⟩ | exact VLe.refl _ | exact BLe.refl _ | refine VLe.one (CLe.val ?_) | exact VLe.one (CLe.nil _) | exact VLe.one (CLe.emp _))))⟩
      intro p13 l13
      generalize p13 = x13_0 at l13 ⊢
      replace l13 : some (Sum.inl x13_0) = some o13 := l13
      have e13 := Option.some.inj l13
      subst e13
      replace h := Md.onS_l h
      change AW _ _ (⟨118, [], [(6, .one (.ptr 0 0)), (11, .one (.ptr 3 0)), (12, .one (.ptr 4 0)), (14, .one (.ptr 5 0)), (75, .one (.fn 68 [.cptr [CV.ls byC (x6.take (min x6.length a2.toNat))]]))], [(0, some (.box [.val (.bool false)])), (3, some (.box [CV.ls c_JournalRecord x9.1])), (4, some (.box [CV.ls c_Int x9.2.1])), (5, some (.box [.val (.int .i64 ((x13_0 : Nat) : Int))]))]⟩ : ASt) _
      refine aw_seq ?_
      refine aw_region ?_
      refine aops_step1 rfl (ev_load rfl rfl rfl rfl) ?_
      refine aops_step1 rfl (ev_load rfl rfl rfl rfl) ?_
      refine aops_step1 rfl (ev_len_slc rfl rfl) ?_
      refine aops_step1 rfl (ev_cmp rfl rfl rfl rfl) ?_
      refine aops_step1 rfl (st_store (cs' := [_]) rfl rfl rfl rfl rfl rfl rfl rfl rfl) ?_
      refine aops_nil ?_
      cases Option.some.inj h
      refine aw_ret ⟨rfl, ret_v (.inl ⟨_, rfl, ⟨_, _, _, _, _, rfl, rfl, TVar.h, rfl, _, rfl, rfl⟩, fun _ e => nomatch e⟩) rfl rfl rfl ?_⟩
      (repeat' (first | exact TLe.refl _ | exact VLe.refl _ | exact CLe.refl _ | exact All2.nil | refine TLe.tup ?_ | refine TLe.v ?_ | refine All2.cons ?_ ?_ | refine VLe.agg ?_ | refine VLe.one ?_ | exact CLe.nil _ | exact CLe.emp _ | refine CLe.val ?_ | refine CLe.slc ?_ ?_))
    rcases Md.bool_or ((x8.2 != x9.2.2)) with q10 | q10
    · replace j10 := Md.cond_t j10 q10
      refine aops_no rfl rfl rfl rfl rfl (by first | decide | (rw [q10]; decide)) ?_
      refine aops_no rfl rfl rfl rfl rfl (by first | decide | (rw [q10]; decide)) ?_
      refine aops_no rfl rfl rfl rfl rfl (by first | decide | (rw [q10]; decide)) ?_
      refine aops_no rfl rfl rfl rfl rfl (by first | decide | (rw [q10]; decide)) ?_
      refine aops_step1 rfl (st_pick_yes rfl (by first | rfl | exact q10) rfl rfl) ?_
      refine aops_nil ?_
      show ∃ _x : Bool, _ = _ ∧ Weak _ _
      exact ⟨true, Option.some.inj j10, (by (refine weak_mk rfl rfl ?_ ?_ rfl <;> repeat' (first | exact trivial | refine ⟨?_, ?_⟩ | exact VLe.refl _ | exact BLe.refl _ | refine VLe.one (CLe.val ?_) | exact VLe.one (CLe.nil _) | exact VLe.one (CLe.emp _))))⟩
    replace j10 := Md.cond_f j10 q10
    refine aops_yes rfl rfl rfl rfl q10 (st_move rfl rfl) ?_
    refine aops_yes rfl rfl rfl rfl q10 (ev_load rfl rfl rfl rfl) ?_
    obtain ⟨x22, hx22, j10⟩ := Md.bind_s j10
    refine aops_yes rfl rfl rfl rfl q10 (ev_call_v (actorgridref26_SameRecords_fn k x8.1 x9.1 x22 hx22) rfl [2] (by repeat' (first | exact All2.nil | refine All2.cons ?_ ?_ | refine ArgV.one ?_ | refine ArgV.agg ?_ | exact ArgC.mk rfl | exact ArgC.lend rfl (by simp) | exact ArgC.le (CLe.nil _) rfl | exact ArgC.le (CLe.emp _) rfl | exact ArgC.le (CLe.any _) rfl)) rfl rfl rfl (.inr rfl) rfl) ?_
    refine aops_yes rfl rfl rfl rfl q10 (ev_not rfl rfl) ?_
    refine aops_step1 rfl (st_pick_no rfl (by first | rfl | exact q10) rfl rfl) ?_
    refine aops_nil ?_
    show ∃ _x : Bool, _ = _ ∧ Weak _ _
    exact ⟨(!x22), Option.some.inj j10, (by (refine weak_mk rfl rfl ?_ ?_ rfl <;> repeat' (first | exact trivial | refine ⟨?_, ?_⟩ | exact VLe.refl _ | exact BLe.refl _ | refine VLe.one (CLe.val ?_) | exact VLe.one (CLe.nil _) | exact VLe.one (CLe.emp _))))⟩
  intro p5
  obtain ⟨⟨n5, s5_0⟩, l5⟩ := p5
  change AW _ _ (⟨118, [], [(0, .one (CV.ls c_JournalRecord a0)), (1, .one (CV.ls byC a1)), (2, .one (.val (.int .u16 (a2.toNat : Int)))), (6, .one (.ptr 0 0)), (7, .one (.val (.int .i64 ((s5_0 : Nat) : Int))))], [(0, some (.box [.val (.bool false)]))]⟩ : ASt) _
  replace l5 : actorgridlaw27_JournalScans_loop1 k a0 n5 s5_0 = some o5 := l5
  rcases n5 with _ | n5
  · exact absurd (show none = some o5 from l5) nofun
  rw [actorgridlaw27_JournalScans_loop1] at l5
  refine aw_seq ?_
  refine aw_seq ?_
  refine aw_region ?_
  refine aops_step1 rfl (st_move rfl rfl) ?_
  refine aops_step1 rfl (st_move rfl rfl) ?_
  refine aops_step1 rfl (ev_len_slc rfl rfl) ?_
  refine aops_step1 rfl (ev_cmp rfl rfl rfl rfl) ?_
  refine aops_nil ?_
  refine aw_cond rfl (fun c23 => ?_) (fun c23 => ?_)
  · replace l5 := Md.cond_t l5 c23
    refine aw_skip ?_
    refine aw_seq ?_
    refine aw_block ?_
    refine aw_seq ?_
    refine aw_region ?_
    refine aops_step1 rfl (st_move rfl rfl) ?_
    refine aops_step1 rfl (st_move rfl rfl) ?_
    obtain ⟨g24, l5⟩ := Md.ifp_s l5
    refine aops_step1 rfl (ev_index_in rfl rfl rfl g24 rfl rfl) ?_
    refine aops_step1 rfl (ev_field_in rfl rfl rfl) ?_
    refine aops_step1 rfl (ev_load_in rfl rfl rfl) ?_
    refine aops_step1 rfl (ev_len_slc rfl rfl) ?_
    refine aops_step1 rfl (ev_cmp rfl rfl rfl rfl) ?_
    refine aops_nil ?_
    refine aw_cond rfl (fun c25 => ?_) (fun c25 => ?_)
    · replace l5 := Md.cond_t l5 c25
      refine aw_seq ?_
      refine aw_region ?_
      refine aops_step1 rfl (st_store (cs' := [_]) rfl rfl rfl rfl rfl rfl rfl rfl rfl) ?_
      refine aops_nil ?_
      cases Option.some.inj l5
      replace h := Md.onS_r h
      cases Option.some.inj h
      refine aw_ret ⟨rfl, ret_v (.inl ⟨_, rfl, ⟨_, _, _, _, _, rfl, rfl, TVar.h, rfl, _, rfl, rfl⟩, fun _ e => nomatch e⟩) rfl rfl rfl ?_⟩
      (repeat' (first | exact TLe.refl _ | exact VLe.refl _ | exact CLe.refl _ | exact All2.nil | refine TLe.tup ?_ | refine TLe.v ?_ | refine All2.cons ?_ ?_ | refine VLe.agg ?_ | refine VLe.one ?_ | exact CLe.nil _ | exact CLe.emp _ | refine CLe.val ?_ | refine CLe.slc ?_ ?_))
    replace l5 := Md.cond_f l5 c25
    refine aw_skip ?_
    refine aw_region ?_
    refine aops_step1 rfl (st_move rfl rfl) ?_
    obtain ⟨g26, l5⟩ := Md.ifp_s l5
    refine aops_step1 rfl (ev_add rfl rfl rfl (Md.nat_add g26)) ?_
    refine aops_step1 rfl (st_assign rfl rfl) ?_
    refine aops_nil ?_
    exact ⟨⟨(n5, (s5_0 + 1)), l5⟩, Nat.lt_succ_self _, (by (refine weak_mk rfl rfl ?_ ?_ rfl <;> repeat' (first | exact trivial | refine ⟨?_, ?_⟩ | exact VLe.refl _ | exact BLe.refl _ | refine VLe.one (CLe.val ?_) | exact VLe.one (CLe.nil _) | exact VLe.one (CLe.emp _))))⟩
  replace l5 := Md.cond_f l5 c23
  refine aw_exit ?_
  show ∃ _x : Unit, _ = _ ∧ Weak _ _
  exact ⟨(), Option.some.inj l5, (by (refine weak_mk rfl rfl ?_ ?_ rfl <;> repeat' (first | exact trivial | refine ⟨?_, ?_⟩ | exact VLe.refl _ | exact BLe.refl _ | refine VLe.one (CLe.val ?_) | exact VLe.one (CLe.nil _) | exact VLe.one (CLe.emp _))))⟩
set_option maxHeartbeats 2000000 in
theorem actorgridlaw27_JournalRecovers_fn (k : Nat) (a0 : List JournalRecord) (a1 : List UInt8) (a2 : Disk) (r : Bool) (h : actorgridlaw27_JournalRecovers k a0 a1 a2 = some r) : FnC Try.prog 8 [.one (CV.ls c_JournalRecord a0), .one (CV.ls byC a1), .agg [CV.ls byC a2.Data, .val (.int .i64 a2.Capacity), .val (.bool a2.Armed), .val (.int .i64 a2.Writes), .val (.int .i64 a2.Keep), .val (.bool a2.Down)]] [] (Det (.one (.val (.bool r))) []) := by
  unfold actorgridlaw27_JournalRecovers at h
  refine fn_intro' 87 Try.func8 rfl rfl rfl ?_
  refine aw_seq ?_
  refine aw_region ?_
  refine aops_step1 rfl (st_box 0 rfl rfl rfl rfl) ?_
  refine aops_step1 rfl (st_assign rfl rfl) ?_
  refine aops_nil ?_
  refine aw_seq ?_
  refine aw_seq ?_
  refine aw_region ?_
  obtain ⟨x1, hx1, h⟩ := Md.bind_s h
  refine aops_step1 rfl (ev_call_v (actorgridlaw27_awake_fn k x1 hx1) rfl [] (by repeat' (first | exact All2.nil | refine All2.cons ?_ ?_ | refine ArgV.one ?_ | refine ArgV.agg ?_ | exact ArgC.mk rfl | exact ArgC.lend rfl (by simp) | exact ArgC.le (CLe.nil _) rfl | exact ArgC.le (CLe.emp _) rfl | exact ArgC.le (CLe.any _) rfl)) rfl rfl rfl (.inl rfl) rfl) ?_
  refine aops_step1 rfl (ev_not rfl rfl) ?_
  refine aops_nil ?_
  refine aw_cond rfl (fun c2 => ?_) (fun c2 => ?_)
  · replace h := Md.cond_t h c2
    refine aw_seq ?_
    refine aw_region ?_
    refine aops_step1 rfl (st_assign rfl rfl) ?_
    refine aops_nil ?_
    cases Option.some.inj h
    refine aw_ret ⟨rfl, ret_v (.inl ⟨_, rfl, rfl, fun _ e => nomatch e⟩) rfl rfl rfl ?_⟩
    (repeat' (first | exact TLe.refl _ | exact VLe.refl _ | exact CLe.refl _ | exact All2.nil | refine TLe.tup ?_ | refine TLe.v ?_ | refine All2.cons ?_ ?_ | refine VLe.agg ?_ | refine VLe.one ?_ | exact CLe.nil _ | exact CLe.emp _ | refine CLe.val ?_ | refine CLe.slc ?_ ?_))
  replace h := Md.cond_f h c2
  refine aw_skip ?_
  refine aw_seq ?_
  refine aw_seq ?_
  refine aw_region ?_
  refine aops_step1 rfl (st_move rfl rfl) ?_
  refine aops_step1 rfl (ev_len_slc rfl rfl) ?_
  refine aops_step1 rfl (ev_cmp rfl rfl rfl rfl) ?_
  refine aops_step1 rfl (st_move rfl rfl) ?_
  refine aops_mid 4 (⟨87, [], [(0, .one (CV.ls c_JournalRecord a0)), (1, .one (CV.ls byC a1)), (5, .one (.ptr 0 0)), (26, .one (.val (.bool ((decide (((a0.length : Nat) : Int) > 20)) || (decide (((a1.length : Nat) : Int) > 500))))))], [(0, some (.box [CV.ls byC a2.Data, .val (.int .i64 a2.Capacity), .val (.bool a2.Armed), .val (.int .i64 a2.Writes), .val (.int .i64 a2.Keep), .val (.bool a2.Down)]))]⟩ : ASt) ?_ ?_
  · rcases Md.bool_or ((decide (((a0.length : Nat) : Int) > 20))) with q3 | q3
    · skip
      refine aops_no rfl rfl rfl rfl rfl (by first | decide | (rw [q3]; decide)) ?_
      refine aops_no rfl rfl rfl rfl rfl (by first | decide | (rw [q3]; decide)) ?_
      refine aops_no rfl rfl rfl rfl rfl (by first | decide | (rw [q3]; decide)) ?_
      refine aops_step1 rfl (st_pick_yes rfl (by first | rfl | exact q3) rfl rfl) ?_
      refine aops_nil ?_
      show Weak _ _
      (refine weak_mk rfl rfl ?_ ?_ rfl <;> repeat' (first | exact trivial | refine ⟨?_, ?_⟩ | exact VLe.refl _ | exact BLe.refl _ | refine VLe.one (CLe.val ?_) | exact VLe.one (CLe.nil _) | exact VLe.one (CLe.emp _))) <;> (first | (rw [q3]; done) | (rw [q3]; rfl) | (simp [q3]; done))
    refine aops_yes rfl rfl rfl rfl q3 (st_move rfl rfl) ?_
    refine aops_yes rfl rfl rfl rfl q3 (ev_len_slc rfl rfl) ?_
    refine aops_yes rfl rfl rfl rfl q3 (ev_cmp rfl rfl rfl rfl) ?_
    refine aops_step1 rfl (st_pick_no rfl (by first | rfl | exact q3) rfl rfl) ?_
    refine aops_nil ?_
    show Weak _ _
    (refine weak_mk rfl rfl ?_ ?_ rfl <;> repeat' (first | exact trivial | refine ⟨?_, ?_⟩ | exact VLe.refl _ | exact BLe.refl _ | refine VLe.one (CLe.val ?_) | exact VLe.one (CLe.nil _) | exact VLe.one (CLe.emp _))) <;> (first | (rw [q3]; done) | (rw [q3]; rfl) | (simp [q3]; done))
  change AOps _ _ _ (⟨87, [], [(0, .one (CV.ls c_JournalRecord a0)), (1, .one (CV.ls byC a1)), (5, .one (.ptr 0 0)), (26, .one (.val (.bool ((decide (((a0.length : Nat) : Int) > 20)) || (decide (((a1.length : Nat) : Int) > 500))))))], [(0, some (.box [CV.ls byC a2.Data, .val (.int .i64 a2.Capacity), .val (.bool a2.Armed), .val (.int .i64 a2.Writes), .val (.int .i64 a2.Keep), .val (.bool a2.Down)]))]⟩ : ASt) _
  refine aops_step1 rfl (st_move rfl rfl) ?_
  refine aops_mid 5 (⟨87, [], [(0, .one (CV.ls c_JournalRecord a0)), (1, .one (CV.ls byC a1)), (5, .one (.ptr 0 0)), (32, .one (.val (.bool (((decide (((a0.length : Nat) : Int) > 20)) || (decide (((a1.length : Nat) : Int) > 500))) || (decide (((a2.Data.length : Nat) : Int) > 2000))))))], [(0, some (.box [CV.ls byC a2.Data, .val (.int .i64 a2.Capacity), .val (.bool a2.Armed), .val (.int .i64 a2.Writes), .val (.int .i64 a2.Keep), .val (.bool a2.Down)]))]⟩ : ASt) ?_ ?_
  · rcases Md.bool_or (((decide (((a0.length : Nat) : Int) > 20)) || (decide (((a1.length : Nat) : Int) > 500)))) with q4 | q4
    · skip
      refine aops_no rfl rfl rfl rfl rfl (by first | decide | (rw [q4]; decide)) ?_
      refine aops_no rfl rfl rfl rfl rfl (by first | decide | (rw [q4]; decide)) ?_
      refine aops_no rfl rfl rfl rfl rfl (by first | decide | (rw [q4]; decide)) ?_
      refine aops_no rfl rfl rfl rfl rfl (by first | decide | (rw [q4]; decide)) ?_
      refine aops_step1 rfl (st_pick_yes rfl (by first | rfl | exact q4) rfl rfl) ?_
      refine aops_nil ?_
      show Weak _ _
      (refine weak_mk rfl rfl ?_ ?_ rfl <;> repeat' (first | exact trivial | refine ⟨?_, ?_⟩ | exact VLe.refl _ | exact BLe.refl _ | refine VLe.one (CLe.val ?_) | exact VLe.one (CLe.nil _) | exact VLe.one (CLe.emp _))) <;> (first | (rw [q4]; done) | (rw [q4]; rfl) | (simp [q4]; done))
    refine aops_yes rfl rfl rfl rfl q4 (ev_field rfl rfl rfl) ?_
    refine aops_yes rfl rfl rfl rfl q4 (ev_load rfl rfl rfl rfl) ?_
    refine aops_yes rfl rfl rfl rfl q4 (ev_len_slc rfl rfl) ?_
    refine aops_yes rfl rfl rfl rfl q4 (ev_cmp rfl rfl rfl rfl) ?_
    refine aops_step1 rfl (st_pick_no rfl (by first | rfl | exact q4) rfl rfl) ?_
    refine aops_nil ?_
    show Weak _ _
    (refine weak_mk rfl rfl ?_ ?_ rfl <;> repeat' (first | exact trivial | refine ⟨?_, ?_⟩ | exact VLe.refl _ | exact BLe.refl _ | refine VLe.one (CLe.val ?_) | exact VLe.one (CLe.nil _) | exact VLe.one (CLe.emp _))) <;> (first | (rw [q4]; done) | (rw [q4]; rfl) | (simp [q4]; done))
  change AOps _ _ _ (⟨87, [], [(0, .one (CV.ls c_JournalRecord a0)), (1, .one (CV.ls byC a1)), (5, .one (.ptr 0 0)), (32, .one (.val (.bool (((decide (((a0.length : Nat) : Int) > 20)) || (decide (((a1.length : Nat) : Int) > 500))) || (decide (((a2.Data.length : Nat) : Int) > 2000))))))], [(0, some (.box [CV.ls byC a2.Data, .val (.int .i64 a2.Capacity), .val (.bool a2.Armed), .val (.int .i64 a2.Writes), .val (.int .i64 a2.Keep), .val (.bool a2.Down)]))]⟩ : ASt) _
  refine aops_nil ?_
  refine aw_cond rfl (fun c5 => ?_) (fun c5 => ?_)
  · replace h := Md.cond_t h c5
    refine aw_seq ?_
    refine aw_region ?_
    refine aops_step1 rfl (st_assign rfl rfl) ?_
    refine aops_nil ?_
    cases Option.some.inj h
    refine aw_ret ⟨rfl, ret_v (.inl ⟨_, rfl, rfl, fun _ e => nomatch e⟩) rfl rfl rfl ?_⟩
    (repeat' (first | exact TLe.refl _ | exact VLe.refl _ | exact CLe.refl _ | exact All2.nil | refine TLe.tup ?_ | refine TLe.v ?_ | refine All2.cons ?_ ?_ | refine VLe.agg ?_ | refine VLe.one ?_ | exact CLe.nil _ | exact CLe.emp _ | refine CLe.val ?_ | refine CLe.slc ?_ ?_))
  replace h := Md.cond_f h c5
  refine aw_skip ?_
  refine aw_seq ?_
  refine aw_seq ?_
  refine aw_region ?_
  refine aops_step1 rfl (st_assign rfl rfl) ?_
  refine aops_nil ?_
  refine aw_block ?_
  obtain ⟨o6, ho6, h⟩ := Md.bind_s h
  refine aw_loop_x (ι := {p : Nat × Nat // actorgridlaw27_JournalRecovers_loop1 k a0 p.1 p.2 = some o6}) (fun p => (⟨87, [], [(0, .one (CV.ls c_JournalRecord a0)), (1, .one (CV.ls byC a1)), (5, .one (.ptr 0 0)), (7, .one (.val (.int .i64 ((p.1.2 : Nat) : Int))))], [(0, some (.box [CV.ls byC a2.Data, .val (.int .i64 a2.Capacity), .val (.bool a2.Armed), .val (.int .i64 a2.Writes), .val (.int .i64 a2.Keep), .val (.bool a2.Down)]))]⟩ : ASt)) (fun p => p.1.1) ⟨(k, 0), ho6⟩ (by (refine weak_mk rfl rfl ?_ ?_ rfl <;> repeat' (first | exact trivial | refine ⟨?_, ?_⟩ | exact VLe.refl _ | exact BLe.refl _ | refine VLe.one (CLe.val ?_) | exact VLe.one (CLe.nil _) | exact VLe.one (CLe.emp _)))) 0 (ε := Unit) (fun x => (⟨87, [], [(0, .one (CV.ls c_JournalRecord a0)), (1, .one (CV.ls byC a1)), (5, .one (.ptr 0 0))], [(0, some (.box [CV.ls byC a2.Data, .val (.int .i64 a2.Capacity), .val (.bool a2.Armed), .val (.int .i64 a2.Writes), .val (.int .i64 a2.Keep), .val (.bool a2.Down)]))]⟩ : ASt)) (fun x => Sum.inl x = o6) (fun _ _ w h => aw_weak w h) ?_ ?_
  · intro x6_0 hI6
    subst hI6
    replace h := Md.onS_l h
    change AW _ _ (⟨87, [], [(0, .one (CV.ls c_JournalRecord a0)), (1, .one (CV.ls byC a1)), (5, .one (.ptr 0 0))], [(0, some (.box [CV.ls byC a2.Data, .val (.int .i64 a2.Capacity), .val (.bool a2.Armed), .val (.int .i64 a2.Writes), .val (.int .i64 a2.Keep), .val (.bool a2.Down)]))]⟩ : ASt) _
    refine aw_seq ?_
    refine aw_region ?_
    refine aops_step1 rfl (ev_loads (ds := [_, _, _, _, _, _]) rfl rfl rfl rfl rfl) ?_
    refine aops_step1 rfl (st_alloc (cs := [.val (.slice none 0 0), .val (.int .i64 0), .val (.bool false), .val (.int .i64 0), .val (.int .i64 0), .val (.bool false)]) 1 rfl rfl rfl rfl rfl) ?_
    refine aops_step1 rfl (st_store (cs' := [_, _, _, _, _, _]) rfl rfl rfl rfl rfl rfl rfl rfl rfl) ?_
    refine aops_nil ?_
    refine aw_seq ?_
    refine aw_region ?_
    refine aops_step1 rfl (st_move rfl rfl) ?_
    refine aops_step1 rfl (st_move rfl rfl) ?_
    obtain ⟨x7, hx7, h⟩ := Md.bind_s h
    refine aops_step1 rfl (st_call_r (r' := .one (.own 2)) 2 rfl (actorgridlaw27_bytes_fn k a0 a1 x7 hx7) rfl [] (by repeat' (first | exact All2.nil | refine All2.cons ?_ ?_ | refine ArgV.one ?_ | refine ArgV.agg ?_ | exact ArgC.mk rfl | exact ArgC.lend rfl (by simp) | exact ArgC.le (CLe.nil _) rfl | exact ArgC.le (CLe.emp _) rfl | exact ArgC.le (CLe.any _) rfl)) rfl rfl rfl (.inl rfl) rfl rfl) ?_
    refine aops_step1 rfl (ev_field rfl rfl rfl) ?_
    refine aops_step1 rfl (st_store (cs' := [_, _, _, _, _, _]) rfl rfl rfl rfl rfl rfl rfl rfl rfl) ?_
    refine aops_nil ?_
    refine aw_seq ?_
    refine aw_seq ?_
    refine aw_region ?_
    refine aops_step1 rfl (ev_loads (ds := [_, _, _, _, _, _]) rfl rfl rfl rfl rfl) ?_
    refine aops_step1 rfl (ev_loads (ds := [_, _, _, _, _, _]) rfl rfl rfl rfl rfl) ?_
    refine aops_freeze 2 rfl ?_
    refine aops_step1 rfl (st_slice_lit (el := lsEl c_Disk [a2, (⟨x7, a2.Capacity, a2.Armed, a2.Writes, a2.Keep, a2.Down⟩ : Disk)]) 3 rfl rfl rfl rfl rfl rfl rfl rfl (lit_el c_Disk 6 [a2, (⟨x7, a2.Capacity, a2.Armed, a2.Writes, a2.Keep, a2.Down⟩ : Disk)] (fun _ => rfl)) rfl) ?_
    refine aops_step1 rfl (ev_len_own rfl rfl rfl) ?_
    refine aops_step1 rfl (st_move rfl rfl) ?_
    refine aops_nil ?_
    refine aw_block ?_
    refine aw_freeze 3 rfl ?_
    obtain ⟨o8, ho8, h⟩ := Md.bind_s h
    refine aw_loop_x (ι := {p : Nat × Nat // actorgridlaw27_JournalRecovers_loop2 k a2 x7 p.1 p.2 = some o8}) (fun p => (⟨87, [], [(53, .one (CV.ls c_Disk [a2, (⟨x7, a2.Capacity, a2.Armed, a2.Writes, a2.Keep, a2.Down⟩ : Disk)])), (54, .one (.val (.int .i64 (([a2, (⟨x7, a2.Capacity, a2.Armed, a2.Writes, a2.Keep, a2.Down⟩ : Disk)].length : Nat) : Int)))), (55, .one (.val (.int .i64 ((p.1.2 : Nat) : Int))))], []⟩ : ASt)) (fun p => p.1.1) ⟨(k, 0), ho8⟩ (by (refine weak_mk rfl rfl ?_ ?_ rfl <;> repeat' (first | exact trivial | refine ⟨?_, ?_⟩ | exact VLe.refl _ | exact BLe.refl _ | refine VLe.one (CLe.val ?_) | exact VLe.one (CLe.nil _) | exact VLe.one (CLe.emp _)))) 2 (ε := Unit) (fun x => (⟨87, [], [], []⟩ : ASt)) (fun x => Sum.inl x = o8) (fun _ _ w h => aw_weak w h) ?_ ?_
    · intro x8_0 hI8
      subst hI8
      replace h := Md.onS_l h
      change AW _ _ (⟨87, [], [], []⟩ : ASt) _
      refine aw_seq ?_
      refine aw_region ?_
      refine aops_step1 rfl (st_assign rfl rfl) ?_
      refine aops_nil ?_
      cases Option.some.inj h
      refine aw_ret ⟨rfl, ret_v (.inl ⟨_, rfl, rfl, fun _ e => nomatch e⟩) rfl rfl rfl ?_⟩
      (repeat' (first | exact TLe.refl _ | exact VLe.refl _ | exact CLe.refl _ | exact All2.nil | refine TLe.tup ?_ | refine TLe.v ?_ | refine All2.cons ?_ ?_ | refine VLe.agg ?_ | refine VLe.one ?_ | exact CLe.nil _ | exact CLe.emp _ | refine CLe.val ?_ | refine CLe.slc ?_ ?_))
    intro p8
    obtain ⟨⟨n8, s8_0⟩, l8⟩ := p8
    change AW _ _ (⟨87, [], [(53, .one (CV.ls c_Disk [a2, (⟨x7, a2.Capacity, a2.Armed, a2.Writes, a2.Keep, a2.Down⟩ : Disk)])), (54, .one (.val (.int .i64 (([a2, (⟨x7, a2.Capacity, a2.Armed, a2.Writes, a2.Keep, a2.Down⟩ : Disk)].length : Nat) : Int)))), (55, .one (.val (.int .i64 ((s8_0 : Nat) : Int))))], []⟩ : ASt) _
    replace l8 : actorgridlaw27_JournalRecovers_loop2 k a2 x7 n8 s8_0 = some o8 := l8
    rcases n8 with _ | n8
    · exact absurd (show none = some o8 from l8) nofun
    rw [actorgridlaw27_JournalRecovers_loop2] at l8
    refine aw_seq ?_
    refine aw_region ?_
    refine aops_step1 rfl (ev_cmp rfl rfl rfl rfl) ?_
    refine aops_nil ?_
    refine aw_seq ?_
    refine aw_cond rfl (fun c9 => ?_) (fun c9 => ?_)
    · replace l8 := Md.cond_t l8 c9
      refine aw_skip ?_
      refine aw_seq ?_
      refine aw_block ?_
      refine aw_seq ?_
      refine aw_region ?_
      obtain ⟨g10, l8⟩ := Md.ifp_s l8
      refine aops_step1 rfl (ev_index_in rfl rfl rfl g10 rfl rfl) ?_
      refine aops_step1 rfl (ev_loads_in (ds := [_, _, _, _, _, _]) rfl rfl rfl rfl) ?_
      refine aops_step1 rfl (st_alloc (cs := [.val (.slice none 0 0), .val (.int .i64 0), .val (.bool false), .val (.int .i64 0), .val (.int .i64 0), .val (.bool false)]) 4 rfl rfl rfl rfl rfl) ?_
      refine aops_step1 rfl (st_store (cs' := [_, _, _, _, _, _]) rfl rfl rfl rfl rfl rfl rfl rfl rfl) ?_
      refine aops_nil ?_
      refine aw_seq ?_
      refine aw_region ?_
      refine aops_step1 rfl (ev_loads (ds := [_, _, _, _, _, _]) rfl rfl rfl rfl rfl) ?_
      obtain ⟨x11, hx11, l8⟩ := Md.bind_s l8
      refine aops_step1 rfl (st_call_r (r' := .tup [.one (.own 5), .agg [CV.ls byC x11.2.1.Data, .val (.int .i64 x11.2.1.Capacity), .val (.bool x11.2.1.Armed), .val (.int .i64 x11.2.1.Writes), .val (.int .i64 x11.2.1.Keep), .val (.bool x11.2.1.Down)], .one (.val (.int .i64 x11.2.2))]) 5 rfl (journal_Recover_fn k (⟨(([a2, (⟨x7, a2.Capacity, a2.Armed, a2.Writes, a2.Keep, a2.Down⟩ : Disk)].getD s8_0 default).Data), (([a2, (⟨x7, a2.Capacity, a2.Armed, a2.Writes, a2.Keep, a2.Down⟩ : Disk)].getD s8_0 default).Capacity), (([a2, (⟨x7, a2.Capacity, a2.Armed, a2.Writes, a2.Keep, a2.Down⟩ : Disk)].getD s8_0 default).Armed), (([a2, (⟨x7, a2.Capacity, a2.Armed, a2.Writes, a2.Keep, a2.Down⟩ : Disk)].getD s8_0 default).Writes), (([a2, (⟨x7, a2.Capacity, a2.Armed, a2.Writes, a2.Keep, a2.Down⟩ : Disk)].getD s8_0 default).Keep), (([a2, (⟨x7, a2.Capacity, a2.Armed, a2.Writes, a2.Keep, a2.Down⟩ : Disk)].getD s8_0 default).Down)⟩ : Disk) x11 hx11) rfl [] (by repeat' (first | exact All2.nil | refine All2.cons ?_ ?_ | refine ArgV.one ?_ | refine ArgV.agg ?_ | exact ArgC.mk rfl | exact ArgC.lend rfl (by simp) | exact ArgC.le (CLe.nil _) rfl | exact ArgC.le (CLe.emp _) rfl | exact ArgC.le (CLe.any _) rfl)) rfl rfl rfl (.inl rfl) rfl rfl) ?_
      refine aops_step1 rfl (st_movet rfl rfl) ?_
      refine aops_step1 rfl (ev_extract rfl rfl rfl) ?_
      refine aops_step1 rfl (ev_extract rfl rfl rfl) ?_
      refine aops_step1 rfl (ev_extract rfl rfl rfl) ?_
      refine aops_step1 rfl (st_alloc (cs := [.val (.slice none 0 0), .val (.int .i64 0), .val (.bool false), .val (.int .i64 0), .val (.int .i64 0), .val (.bool false)]) 6 rfl rfl rfl rfl rfl) ?_
      refine aops_step1 rfl (st_assign rfl rfl) ?_
      refine aops_step1 rfl (st_store (cs' := [_, _, _, _, _, _]) rfl rfl rfl rfl rfl rfl rfl rfl rfl) ?_
      refine aops_step1 rfl (st_assign rfl rfl) ?_
      refine aops_nil ?_
      refine aw_seq ?_
      refine aw_region ?_
      refine aops_step1 rfl (ev_loads (ds := [_, _, _, _, _, _]) rfl rfl rfl rfl rfl) ?_
      obtain ⟨x12, hx12, l8⟩ := Md.bind_s l8
      refine aops_step1 rfl (ev_call_v (actorgridref26_RecoverRecords_fn k (⟨(([a2, (⟨x7, a2.Capacity, a2.Armed, a2.Writes, a2.Keep, a2.Down⟩ : Disk)].getD s8_0 default).Data), (([a2, (⟨x7, a2.Capacity, a2.Armed, a2.Writes, a2.Keep, a2.Down⟩ : Disk)].getD s8_0 default).Capacity), (([a2, (⟨x7, a2.Capacity, a2.Armed, a2.Writes, a2.Keep, a2.Down⟩ : Disk)].getD s8_0 default).Armed), (([a2, (⟨x7, a2.Capacity, a2.Armed, a2.Writes, a2.Keep, a2.Down⟩ : Disk)].getD s8_0 default).Writes), (([a2, (⟨x7, a2.Capacity, a2.Armed, a2.Writes, a2.Keep, a2.Down⟩ : Disk)].getD s8_0 default).Keep), (([a2, (⟨x7, a2.Capacity, a2.Armed, a2.Writes, a2.Keep, a2.Down⟩ : Disk)].getD s8_0 default).Down)⟩ : Disk) x12 hx12) rfl [] (by repeat' (first | exact All2.nil | refine All2.cons ?_ ?_ | refine ArgV.one ?_ | refine ArgV.agg ?_ | exact ArgC.mk rfl | exact ArgC.lend rfl (by simp) | exact ArgC.le (CLe.nil _) rfl | exact ArgC.le (CLe.emp _) rfl | exact ArgC.le (CLe.any _) rfl)) rfl rfl rfl (.inl rfl) rfl) ?_
      refine aops_step1 rfl (st_movet rfl rfl) ?_
      refine aops_step1 rfl (ev_extract rfl rfl rfl) ?_
      refine aops_step1 rfl (ev_extract rfl rfl rfl) ?_
      refine aops_step1 rfl (ev_extract rfl rfl rfl) ?_
      refine aops_step1 rfl (st_alloc (cs := [.val (.slice none 0 0), .val (.int .i64 0), .val (.bool false), .val (.int .i64 0), .val (.int .i64 0), .val (.bool false)]) 7 rfl rfl rfl rfl rfl) ?_
      refine aops_step1 rfl (st_assign rfl rfl) ?_
      refine aops_step1 rfl (st_store (cs' := [_, _, _, _, _, _]) rfl rfl rfl rfl rfl rfl rfl rfl rfl) ?_
      refine aops_step1 rfl (st_assign rfl rfl) ?_
      refine aops_nil ?_
      refine aw_seq ?_
      refine aw_region ?_
      refine aops_step1 rfl (st_move rfl rfl) ?_
      refine aops_step1 rfl (st_move rfl rfl) ?_
      refine aops_step1 rfl (ev_cmp rfl rfl rfl rfl) ?_
      refine aops_step1 rfl (st_move rfl rfl) ?_
      obtain ⟨o13, j13, l8⟩ := Md.bind_s l8
      refine aops_cut 5 (ε := Bool) (fun x13 => (⟨87, [], [(12, .one (.ptr 6 0)), (15, .one (.ptr 7 0)), (53, .one (CV.ls c_Disk [a2, (⟨x7, a2.Capacity, a2.Armed, a2.Writes, a2.Keep, a2.Down⟩ : Disk)])), (54, .one (.val (.int .i64 (([a2, (⟨x7, a2.Capacity, a2.Armed, a2.Writes, a2.Keep, a2.Down⟩ : Disk)].length : Nat) : Int)))), (55, .one (.val (.int .i64 ((s8_0 : Nat) : Int)))), (79, .one (.val (.bool x13)))], [(6, some (.box [CV.ls byC x11.2.1.Data, .val (.int .i64 x11.2.1.Capacity), .val (.bool x11.2.1.Armed), .val (.int .i64 x11.2.1.Writes), .val (.int .i64 x11.2.1.Keep), .val (.bool x11.2.1.Down)])), (7, some (.box [CV.ls byC x12.2.1.Data, .val (.int .i64 x12.2.1.Capacity), .val (.bool x12.2.1.Armed), .val (.int .i64 x12.2.1.Writes), .val (.int .i64 x12.2.1.Keep), .val (.bool x12.2.1.Down)]))]⟩ : ASt)) (fun x13 => x13 = o13) ?_ ?_
      · intro x13 hI13
        subst hI13
        change AOps _ _ _ (⟨87, [], [(12, .one (.ptr 6 0)), (15, .one (.ptr 7 0)), (53, .one (CV.ls c_Disk [a2, (⟨x7, a2.Capacity, a2.Armed, a2.Writes, a2.Keep, a2.Down⟩ : Disk)])), (54, .one (.val (.int .i64 (([a2, (⟨x7, a2.Capacity, a2.Armed, a2.Writes, a2.Keep, a2.Down⟩ : Disk)].length : Nat) : Int)))), (55, .one (.val (.int .i64 ((s8_0 : Nat) : Int)))), (79, .one (.val (.bool x13)))], [(6, some (.box [CV.ls byC x11.2.1.Data, .val (.int .i64 x11.2.1.Capacity), .val (.bool x11.2.1.Armed), .val (.int .i64 x11.2.1.Writes), .val (.int .i64 x11.2.1.Keep), .val (.bool x11.2.1.Down)])), (7, some (.box [CV.ls byC x12.2.1.Data, .val (.int .i64 x12.2.1.Capacity), .val (.bool x12.2.1.Armed), .val (.int .i64 x12.2.1.Writes), .val (.int .i64 x12.2.1.Keep), .val (.bool x12.2.1.Down)]))]⟩ : ASt) _
        refine aops_step1 rfl (st_move rfl rfl) ?_
        obtain ⟨o14, j14, l8⟩ := Md.bind_s l8
        refine aops_cut 5 (ε := Bool) (fun x14 => (⟨87, [], [(53, .one (CV.ls c_Disk [a2, (⟨x7, a2.Capacity, a2.Armed, a2.Writes, a2.Keep, a2.Down⟩ : Disk)])), (54, .one (.val (.int .i64 (([a2, (⟨x7, a2.Capacity, a2.Armed, a2.Writes, a2.Keep, a2.Down⟩ : Disk)].length : Nat) : Int)))), (55, .one (.val (.int .i64 ((s8_0 : Nat) : Int)))), (85, .one (.val (.bool x14)))], []⟩ : ASt)) (fun x14 => x14 = o14) ?_ ?_
        · intro x14 hI14
          subst hI14
          change AOps _ _ _ (⟨87, [], [(53, .one (CV.ls c_Disk [a2, (⟨x7, a2.Capacity, a2.Armed, a2.Writes, a2.Keep, a2.Down⟩ : Disk)])), (54, .one (.val (.int .i64 (([a2, (⟨x7, a2.Capacity, a2.Armed, a2.Writes, a2.Keep, a2.Down⟩ : Disk)].length : Nat) : Int)))), (55, .one (.val (.int .i64 ((s8_0 : Nat) : Int)))), (85, .one (.val (.bool x14)))], []⟩ : ASt) _
          refine aops_nil ?_
          refine aw_cond rfl (fun c15 => ?_) (fun c15 => ?_)
          · replace l8 := Md.cond_t l8 c15
            refine aw_seq ?_
            refine aw_region ?_
            refine aops_step1 rfl (st_assign rfl rfl) ?_
            refine aops_nil ?_
            cases Option.some.inj l8
            replace h := Md.onS_r h
            cases Option.some.inj h
            refine aw_ret ⟨rfl, ret_v (.inl ⟨_, rfl, rfl, fun _ e => nomatch e⟩) rfl rfl rfl ?_⟩
            (repeat' (first | exact TLe.refl _ | exact VLe.refl _ | exact CLe.refl _ | exact All2.nil | refine TLe.tup ?_ | refine TLe.v ?_ | refine All2.cons ?_ ?_ | refine VLe.agg ?_ | refine VLe.one ?_ | exact CLe.nil _ | exact CLe.emp _ | refine CLe.val ?_ | refine CLe.slc ?_ ?_))
          replace l8 := Md.cond_f l8 c15
          refine aw_skip ?_
          refine aw_region ?_
          obtain ⟨g16, l8⟩ := Md.ifp_s l8
          refine aops_step1 rfl (ev_add rfl rfl rfl (Md.nat_add g16)) ?_
          refine aops_step1 rfl (st_move rfl rfl) ?_
          refine aops_nil ?_
          exact ⟨⟨(n8, (s8_0 + 1)), l8⟩, Nat.lt_succ_self _, (by (refine weak_mk rfl rfl ?_ ?_ rfl <;> repeat' (first | exact trivial | refine ⟨?_, ?_⟩ | exact VLe.refl _ | exact BLe.refl _ | refine VLe.one (CLe.val ?_) | exact VLe.one (CLe.nil _) | exact VLe.one (CLe.emp _))))⟩
        rcases Md.bool_or (x13) with q14 | q14
        · replace j14 := Md.cond_t j14 q14
          refine aops_no rfl rfl rfl rfl rfl (by first | decide | (rw [q14]; decide)) ?_
          refine aops_no rfl rfl rfl rfl rfl (by first | decide | (rw [q14]; decide)) ?_
          refine aops_no rfl rfl rfl rfl rfl (by first | decide | (rw [q14]; decide)) ?_
          refine aops_no rfl rfl rfl rfl rfl (by first | decide | (rw [q14]; decide)) ?_
          refine aops_step1 rfl (st_pick_yes rfl (by first | rfl | exact q14) rfl rfl) ?_
          refine aops_nil ?_
          show ∃ _x : Bool, _ = _ ∧ Weak _ _
          exact ⟨true, Option.some.inj j14, (by (refine weak_mk rfl rfl ?_ ?_ rfl <;> repeat' (first | exact trivial | refine ⟨?_, ?_⟩ | exact VLe.refl _ | exact BLe.refl _ | refine VLe.one (CLe.val ?_) | exact VLe.one (CLe.nil _) | exact VLe.one (CLe.emp _))))⟩
        replace j14 := Md.cond_f j14 q14
        refine aops_yes rfl rfl rfl rfl q14 (ev_loads (ds := [_, _, _, _, _, _]) rfl rfl rfl rfl rfl) ?_
        refine aops_yes rfl rfl rfl rfl q14 (ev_loads (ds := [_, _, _, _, _, _]) rfl rfl rfl rfl rfl) ?_
        obtain ⟨x17, hx17, j14⟩ := Md.bind_s j14
        refine aops_yes rfl rfl rfl rfl q14 (ev_call_v (actorgridref26_SameDisk_fn k x11.2.1 x12.2.1 x17 hx17) rfl [] (by repeat' (first | exact All2.nil | refine All2.cons ?_ ?_ | refine ArgV.one ?_ | refine ArgV.agg ?_ | exact ArgC.mk rfl | exact ArgC.lend rfl (by simp) | exact ArgC.le (CLe.nil _) rfl | exact ArgC.le (CLe.emp _) rfl | exact ArgC.le (CLe.any _) rfl)) rfl rfl rfl (.inl rfl) rfl) ?_
        refine aops_yes rfl rfl rfl rfl q14 (ev_not rfl rfl) ?_
        refine aops_step1 rfl (st_pick_no rfl (by first | rfl | exact q14) rfl rfl) ?_
        refine aops_nil ?_
        show ∃ _x : Bool, _ = _ ∧ Weak _ _
        exact ⟨(!x17), Option.some.inj j14, (by (refine weak_mk rfl rfl ?_ ?_ rfl <;> repeat' (first | exact trivial | refine ⟨?_, ?_⟩ | exact VLe.refl _ | exact BLe.refl _ | refine VLe.one (CLe.val ?_) | exact VLe.one (CLe.nil _) | exact VLe.one (CLe.emp _))))⟩
      rcases Md.bool_or ((x11.2.2 != x12.2.2)) with q13 | q13
      · replace j13 := Md.cond_t j13 q13
        refine aops_no rfl rfl rfl rfl rfl (by first | decide | (rw [q13]; decide)) ?_
        refine aops_no rfl rfl rfl rfl rfl (by first | decide | (rw [q13]; decide)) ?_
        refine aops_no rfl rfl rfl rfl rfl (by first | decide | (rw [q13]; decide)) ?_
        refine aops_no rfl rfl rfl rfl rfl (by first | decide | (rw [q13]; decide)) ?_
        refine aops_step1 rfl (st_pick_yes rfl (by first | rfl | exact q13) rfl rfl) ?_
        refine aops_nil ?_
        show ∃ _x : Bool, _ = _ ∧ Weak _ _
        exact ⟨true, Option.some.inj j13, (by (refine weak_mk rfl rfl ?_ ?_ rfl <;> repeat' (first | exact trivial | refine ⟨?_, ?_⟩ | exact VLe.refl _ | exact BLe.refl _ | refine VLe.one (CLe.val ?_) | exact VLe.one (CLe.nil _) | exact VLe.one (CLe.emp _))))⟩
      replace j13 := Md.cond_f j13 q13
      refine aops_yes rfl rfl rfl rfl q13 (st_move rfl rfl) ?_
      refine aops_yes rfl rfl rfl rfl q13 (st_move rfl rfl) ?_
      obtain ⟨x18, hx18, j13⟩ := Md.bind_s j13
      refine aops_yes rfl rfl rfl rfl q13 (ev_call_v (actorgridref26_SameRecords_fn k x11.1 x12.1 x18 hx18) rfl [5] (by repeat' (first | exact All2.nil | refine All2.cons ?_ ?_ | refine ArgV.one ?_ | refine ArgV.agg ?_ | exact ArgC.mk rfl | exact ArgC.lend rfl (by simp) | exact ArgC.le (CLe.nil _) rfl | exact ArgC.le (CLe.emp _) rfl | exact ArgC.le (CLe.any _) rfl)) rfl rfl rfl (.inr rfl) rfl) ?_
      refine aops_yes rfl rfl rfl rfl q13 (ev_not rfl rfl) ?_
      refine aops_step1 rfl (st_pick_no rfl (by first | rfl | exact q13) rfl rfl) ?_
      refine aops_nil ?_
      show ∃ _x : Bool, _ = _ ∧ Weak _ _
      exact ⟨(!x18), Option.some.inj j13, (by (refine weak_mk rfl rfl ?_ ?_ rfl <;> repeat' (first | exact trivial | refine ⟨?_, ?_⟩ | exact VLe.refl _ | exact BLe.refl _ | refine VLe.one (CLe.val ?_) | exact VLe.one (CLe.nil _) | exact VLe.one (CLe.emp _))))⟩
    replace l8 := Md.cond_f l8 c9
    refine aw_exit ?_
    show ∃ _x : Unit, _ = _ ∧ Weak _ _
    exact ⟨(), Option.some.inj l8, (by (refine weak_mk rfl rfl ?_ ?_ rfl <;> repeat' (first | exact trivial | refine ⟨?_, ?_⟩ | exact VLe.refl _ | exact BLe.refl _ | refine VLe.one (CLe.val ?_) | exact VLe.one (CLe.nil _) | exact VLe.one (CLe.emp _))))⟩
  intro p6
  obtain ⟨⟨n6, s6_0⟩, l6⟩ := p6
  change AW _ _ (⟨87, [], [(0, .one (CV.ls c_JournalRecord a0)), (1, .one (CV.ls byC a1)), (5, .one (.ptr 0 0)), (7, .one (.val (.int .i64 ((s6_0 : Nat) : Int))))], [(0, some (.box [CV.ls byC a2.Data, .val (.int .i64 a2.Capacity), .val (.bool a2.Armed), .val (.int .i64 a2.Writes), .val (.int .i64 a2.Keep), .val (.bool a2.Down)]))]⟩ : ASt) _
  replace l6 : actorgridlaw27_JournalRecovers_loop1 k a0 n6 s6_0 = some o6 := l6
  rcases n6 with _ | n6
  · exact absurd (show none = some o6 from l6) nofun
  rw [actorgridlaw27_JournalRecovers_loop1] at l6
  refine aw_seq ?_
  refine aw_seq ?_
  refine aw_region ?_
  refine aops_step1 rfl (st_move rfl rfl) ?_
  refine aops_step1 rfl (st_move rfl rfl) ?_
  refine aops_step1 rfl (ev_len_slc rfl rfl) ?_
  refine aops_step1 rfl (ev_cmp rfl rfl rfl rfl) ?_
  refine aops_nil ?_
  refine aw_cond rfl (fun c19 => ?_) (fun c19 => ?_)
  · replace l6 := Md.cond_t l6 c19
    refine aw_skip ?_
    refine aw_seq ?_
    refine aw_block ?_
    refine aw_seq ?_
    refine aw_region ?_
    refine aops_step1 rfl (st_move rfl rfl) ?_
    refine aops_step1 rfl (st_move rfl rfl) ?_
    obtain ⟨g20, l6⟩ := Md.ifp_s l6
    refine aops_step1 rfl (ev_index_in rfl rfl rfl g20 rfl rfl) ?_
    refine aops_step1 rfl (ev_field_in rfl rfl rfl) ?_
    refine aops_step1 rfl (ev_load_in rfl rfl rfl) ?_
    refine aops_step1 rfl (ev_len_slc rfl rfl) ?_
    refine aops_step1 rfl (ev_cmp rfl rfl rfl rfl) ?_
    refine aops_nil ?_
    refine aw_cond rfl (fun c21 => ?_) (fun c21 => ?_)
    · replace l6 := Md.cond_t l6 c21
      refine aw_seq ?_
      refine aw_region ?_
      refine aops_step1 rfl (st_assign rfl rfl) ?_
      refine aops_nil ?_
      cases Option.some.inj l6
      replace h := Md.onS_r h
      cases Option.some.inj h
      refine aw_ret ⟨rfl, ret_v (.inl ⟨_, rfl, rfl, fun _ e => nomatch e⟩) rfl rfl rfl ?_⟩
      (repeat' (first | exact TLe.refl _ | exact VLe.refl _ | exact CLe.refl _ | exact All2.nil | refine TLe.tup ?_ | refine TLe.v ?_ | refine All2.cons ?_ ?_ | refine VLe.agg ?_ | refine VLe.one ?_ | exact CLe.nil _ | exact CLe.emp _ | refine CLe.val ?_ | refine CLe.slc ?_ ?_))
    replace l6 := Md.cond_f l6 c21
    refine aw_skip ?_
    refine aw_region ?_
    refine aops_step1 rfl (st_move rfl rfl) ?_
    obtain ⟨g22, l6⟩ := Md.ifp_s l6
    refine aops_step1 rfl (ev_add rfl rfl rfl (Md.nat_add g22)) ?_
    refine aops_step1 rfl (st_assign rfl rfl) ?_
    refine aops_nil ?_
    exact ⟨⟨(n6, (s6_0 + 1)), l6⟩, Nat.lt_succ_self _, (by (refine weak_mk rfl rfl ?_ ?_ rfl <;> repeat' (first | exact trivial | refine ⟨?_, ?_⟩ | exact VLe.refl _ | exact BLe.refl _ | refine VLe.one (CLe.val ?_) | exact VLe.one (CLe.nil _) | exact VLe.one (CLe.emp _))))⟩
  replace l6 := Md.cond_f l6 c19
  refine aw_exit ?_
  show ∃ _x : Unit, _ = _ ∧ Weak _ _
  exact ⟨(), Option.some.inj l6, (by (refine weak_mk rfl rfl ?_ ?_ rfl <;> repeat' (first | exact trivial | refine ⟨?_, ?_⟩ | exact VLe.refl _ | exact BLe.refl _ | refine VLe.one (CLe.val ?_) | exact VLe.one (CLe.nil _) | exact VLe.one (CLe.emp _))))⟩
end Md
end Go.Proofs.Ytkcfkcgclljncaa
