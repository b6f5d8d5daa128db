/-
  slices.Grow and slices.Concat of byte strings return what their plain functions say.
-/
import Derived.Test.YtkcfkcgclljncaaConcatM
import Derived.Test.YtkcfkcgclljncaaTy
import Derived.Test.YtkcfkcgclljncaaAbsW
import Derived.Test.YtkcfkcgclljncaaAbsR
import Derived.Test.YtkcfkcgclljncaaDiskWc
namespace Go.Proofs.Ytkcfkcgclljncaa
open Go.ChangeShapes Go.WideShapes Go.RowKit
open Abs
set_option linter.unusedVariables false
set_option linter.unusedSimpArgs false
namespace Md
set_option maxRecDepth 10000
set_option maxHeartbeats 1000000
abbrev I (n : Int) : AV := .one (.val (.int .i64 n))
def c_LU8 (x : List UInt8) : List CV := [CV.ls byC x]
theorem grow_fn (n : Nat) (hl : n ≤ 4000000) : FnC Try.prog 78 [.one (.val (.slice none 0 0)), I n] [] (Det (.one (.own 0)) [(0, some (.row 5 1 ([] : List UInt8).length (lsEl byC [])))]) :=
  fnc_of_row (us := [.slice none 0 0, .int .i64 n]) (xs := []) (fun _ _ => rfl) (fun _ _ i _ _ hi => by cases hi) fun w => Disk.grow_any n w hl
theorem concat_fn (L : List (List UInt8)) (hL : L.flatten.length ≤ 4000000) (hn : L.length ≤ 4000000) : FnC Try.prog 61 [.one (CV.ls c_LU8 L)] [] (Det (.one (.own 0)) [(0, some (.row 5 1 L.flatten.length (lsEl byC L.flatten)))]) := by
  refine fn_intro' 36 Try.func61 rfl rfl rfl ?_
  refine aw_seq ?_
  refine aw_region ?_
  refine aops_step1 rfl (st_assign rfl rfl) ?_
  refine aops_nil ?_
  refine aw_seq ?_
  refine aw_region ?_
  refine aops_step1 rfl (st_assign rfl rfl) ?_
  refine aops_nil ?_
  refine aw_seq ?_
  refine aw_seq ?_
  refine aw_region ?_
  refine aops_step1 rfl (st_move rfl rfl) ?_
  first | refine aops_step1 rfl (ev_len_slc rfl rfl) ?_ | refine aops_step1 rfl (ev_len_own rfl rfl rfl) ?_ | refine aops_step1 rfl (ev_len_str rfl rfl) ?_ | refine aops_step1 rfl (ev_len_nil rfl rfl) ?_
  refine aops_step1 rfl (st_move rfl rfl) ?_
  refine aops_nil ?_
  refine aw_block ?_
  refine aw_loop ((fun (i : {i : Nat // i ≤ L.length}) => (⟨36, [], [(0, .one (CV.ls c_LU8 L)), (3, I ((L.take i.1).flatten.length : Nat)), (9, .one (CV.ls c_LU8 L)), (10, I (L.length : Nat)), (11, I (i.1 : Nat))], []⟩ : ASt))) (fun i => L.length - i.1) (⟨0, Nat.zero_le _⟩) ?_ ?_
  · (refine weak_mk rfl rfl ?_ ?_ rfl <;> repeat' (first | exact trivial | refine ⟨?_, ?_⟩ | exact .refl _ | refine .one (.val ?_) | exact .one (.nil _) | exact .one (.emp _) | fail))
  intro ii
  obtain ⟨i, hi⟩ := ii
  dsimp only
  have hfl := flat_le L i
  have hfl1 := flat_le L (i + 1)
  have hfs : i < L.length → (L.take (i + 1)).flatten.length = (L.take i).flatten.length + (L.getD i default).length := fun h => by rw [flat_succ L h, List.length_append]
  refine aw_seq ?_
  refine aw_region ?_
  refine aops_step1 rfl (ev_cmp rfl rfl rfl rfl) ?_
  refine aops_nil ?_
  refine aw_seq ?_
  refine aw_cond rfl (fun hc3 => ?_) (fun hc3 => ?_)
  · have hk3 := hc3
    ((try simp only [decide_eq_true_eq, decide_eq_false_iff_not, Bool.not_eq_true', Bool.not_eq_false', beq_iff_eq, bne_iff_ne, ne_eq, Decidable.not_not, beq_eq_false_iff_ne, bne_eq_false_iff_eq, Int.not_lt, Int.not_le, gt_iff_lt, ge_iff_le] at hc3) <;> (first | (exfalso; first | contradiction | omega | (simp [*] at hc3; done)) | skip)) <;> (
      refine aw_skip ?_
      refine aw_seq ?_
      refine aw_block ?_
      refine aw_seq ?_
      refine aw_region ?_
      first | refine aops_step1 rfl (ev_index_in rfl rfl rfl (by first | assumption | omega) rfl rfl) ?_ | refine aops_step1 rfl (ev_index_row rfl rfl rfl rfl (by first | assumption | omega) rfl) ?_
      first | refine aops_step1 rfl (ev_load rfl rfl rfl rfl) ?_ | refine aops_step1 rfl (ev_load_in rfl rfl rfl) ?_
      refine aops_step1 rfl (st_assign rfl rfl) ?_
      refine aops_nil ?_
      refine aw_seq ?_
      refine aw_region ?_
      refine aops_step1 rfl (st_move rfl rfl) ?_
      refine aops_step1 rfl (st_move rfl rfl) ?_
      first | refine aops_step1 rfl (ev_len_slc rfl rfl) ?_ | refine aops_step1 rfl (ev_len_own rfl rfl rfl) ?_ | refine aops_step1 rfl (ev_len_str rfl rfl) ?_ | refine aops_step1 rfl (ev_len_nil rfl rfl) ?_
      first | refine aops_step1 rfl (ev_add rfl rfl rfl (wrap_i64 (by omega) (by omega))) ?_ | refine aops_step1 rfl (ev_add rfl rfl rfl rfl) ?_
      refine aops_step1 rfl (st_assign rfl rfl) ?_
      refine aops_nil ?_
      refine aw_seq ?_
      refine aw_region ?_
      refine aops_step1 rfl (st_move rfl rfl) ?_
      refine aops_step1 rfl (ev_cmp rfl rfl rfl rfl) ?_
      refine aops_nil ?_
      refine aw_cond rfl (fun hc6 => ?_) (fun hc6 => ?_)
      · have hk6 := hc6
        ((try simp only [decide_eq_true_eq, decide_eq_false_iff_not, Bool.not_eq_true', Bool.not_eq_false', beq_iff_eq, bne_iff_ne, ne_eq, Decidable.not_not, beq_eq_false_iff_ne, bne_eq_false_iff_eq, Int.not_lt, Int.not_le, gt_iff_lt, ge_iff_le] at hc6) <;> (first | (exfalso; first | contradiction | omega | (simp [*] at hc6; done)) | skip)) <;> (
          fail "dead")
      · have hk6 := hc6
        ((try simp only [decide_eq_true_eq, decide_eq_false_iff_not, Bool.not_eq_true', Bool.not_eq_false', beq_iff_eq, bne_iff_ne, ne_eq, Decidable.not_not, beq_eq_false_iff_ne, bne_eq_false_iff_eq, Int.not_lt, Int.not_le, gt_iff_lt, ge_iff_le] at hc6) <;> (first | (exfalso; first | contradiction | omega | (simp [*] at hc6; done)) | skip)) <;> (
          refine aw_skip ?_
          refine aw_region ?_
          first | refine aops_step1 rfl (ev_add rfl rfl rfl (wrap_i64 (by omega) (by omega))) ?_ | refine aops_step1 rfl (ev_add rfl rfl rfl rfl) ?_
          refine aops_step1 rfl (st_move rfl rfl) ?_
          refine aops_nil ?_
          refine ⟨⟨i + 1, by omega⟩, by dsimp only; omega, ?_⟩
          dsimp only
          (refine weak_mk rfl rfl ?_ ?_ rfl <;> repeat' (first | exact trivial | refine ⟨?_, ?_⟩ | exact .refl _ | refine .one (.val ?_) | exact .one (.nil _) | exact .one (.emp _) | fail))
          · exact congrArg (Value.int .i64) (by omega)))
  · have hk3 := hc3
    ((try simp only [decide_eq_true_eq, decide_eq_false_iff_not, Bool.not_eq_true', Bool.not_eq_false', beq_iff_eq, bne_iff_ne, ne_eq, Decidable.not_not, beq_eq_false_iff_ne, bne_eq_false_iff_eq, Int.not_lt, Int.not_le, gt_iff_lt, ge_iff_le] at hc3) <;> (first | (exfalso; first | contradiction | omega | (simp [*] at hc3; done)) | skip)) <;> (
      refine aw_exit ?_
      refine aw_seq ?_
      refine aw_region ?_
      refine aops_step1 rfl (st_move rfl rfl) ?_
      refine aops_step1 rfl (st_call_r 5 rfl (grow_fn (L.take i).flatten.length (by omega)) rfl [] (by repeat' (first | exact .nil | refine .cons ?_ ?_ | refine .one ?_ | refine .agg ?_ | exact .mk rfl | exact .lend rfl (by simp) | exact .le (.nil _) rfl | exact .le (.emp _) rfl | exact .le (.any _) rfl | fail)) rfl rfl rfl (.inl rfl) rfl rfl) ?_
      refine aops_step1 rfl (st_assign rfl rfl) ?_
      refine aops_nil ?_
      refine aw_seq ?_
      refine aw_seq ?_
      refine aw_region ?_
      refine aops_step1 rfl (st_move rfl rfl) ?_
      first | refine aops_step1 rfl (ev_len_slc rfl rfl) ?_ | refine aops_step1 rfl (ev_len_own rfl rfl rfl) ?_ | refine aops_step1 rfl (ev_len_str rfl rfl) ?_ | refine aops_step1 rfl (ev_len_nil rfl rfl) ?_
      refine aops_step1 rfl (st_move rfl rfl) ?_
      refine aops_nil ?_
      refine aw_block ?_
      refine aw_loop ((fun (i : {i : Nat // i ≤ L.length}) => (⟨36, [], [(6, .one (.own 5)), (25, .one (CV.ls c_LU8 L)), (26, I (L.length : Nat)), (27, I (i.1 : Nat))], [(5, some (.row 5 1 (L.take i.1).flatten.length (lsEl byC (L.take i.1).flatten)))]⟩ : ASt))) (fun i => L.length - i.1) (⟨0, Nat.zero_le _⟩) ?_ ?_
      · (refine weak_mk rfl rfl ?_ ?_ rfl <;> repeat' (first | exact trivial | refine ⟨?_, ?_⟩ | exact .refl _ | refine .one (.val ?_) | exact .one (.nil _) | exact .one (.emp _) | fail))
      intro ii
      obtain ⟨i, hi⟩ := ii
      dsimp only
      have hfl := flat_le L i
      have hfl1 := flat_le L (i + 1)
      have hfs : i < L.length → (L.take (i + 1)).flatten.length = (L.take i).flatten.length + (L.getD i default).length := fun h => by rw [flat_succ L h, List.length_append]
      refine aw_seq ?_
      refine aw_region ?_
      refine aops_step1 rfl (ev_cmp rfl rfl rfl rfl) ?_
      refine aops_nil ?_
      refine aw_seq ?_
      refine aw_cond rfl (fun hc11 => ?_) (fun hc11 => ?_)
      · have hk11 := hc11
        ((try simp only [decide_eq_true_eq, decide_eq_false_iff_not, Bool.not_eq_true', Bool.not_eq_false', beq_iff_eq, bne_iff_ne, ne_eq, Decidable.not_not, beq_eq_false_iff_ne, bne_eq_false_iff_eq, Int.not_lt, Int.not_le, gt_iff_lt, ge_iff_le] at hc11) <;> (first | (exfalso; first | contradiction | omega | (simp [*] at hc11; done)) | skip)) <;> (
          refine aw_skip ?_
          refine aw_seq ?_
          refine aw_block ?_
          refine aw_seq ?_
          refine aw_region ?_
          first | refine aops_step1 rfl (ev_index_in rfl rfl rfl (by first | assumption | omega) rfl rfl) ?_ | refine aops_step1 rfl (ev_index_row rfl rfl rfl rfl (by first | assumption | omega) rfl) ?_
          first | refine aops_step1 rfl (ev_load rfl rfl rfl rfl) ?_ | refine aops_step1 rfl (ev_load_in rfl rfl rfl) ?_
          refine aops_step1 rfl (st_assign rfl rfl) ?_
          refine aops_nil ?_
          refine aw_region ?_
          refine aops_step1 rfl (st_move rfl rfl) ?_
          refine aops_step1 rfl (st_move rfl rfl) ?_
          refine aops_step1 rfl (st_app_ls (f := byC) (L.take i).flatten (L.getD i default) (fun _ => rfl) rfl rfl (.inl rfl) (by omega) (by omega) rfl) ?_
          refine aops_step1 rfl (st_assign rfl rfl) ?_
          refine aops_nil ?_
          refine aw_region ?_
          first | refine aops_step1 rfl (ev_add rfl rfl rfl (wrap_i64 (by omega) (by omega))) ?_ | refine aops_step1 rfl (ev_add rfl rfl rfl rfl) ?_
          refine aops_step1 rfl (st_move rfl rfl) ?_
          refine aops_nil ?_
          refine ⟨⟨i + 1, by omega⟩, by dsimp only; omega, ?_⟩
          dsimp only
          rw [flat_succ L (by omega)]
          (refine weak_mk rfl rfl ?_ ?_ rfl <;> repeat' (first | exact trivial | refine ⟨?_, ?_⟩ | exact .refl _ | refine .one (.val ?_) | exact .one (.nil _) | exact .one (.emp _) | fail)))
      · have hk11 := hc11
        ((try simp only [decide_eq_true_eq, decide_eq_false_iff_not, Bool.not_eq_true', Bool.not_eq_false', beq_iff_eq, bne_iff_ne, ne_eq, Decidable.not_not, beq_eq_false_iff_ne, bne_eq_false_iff_eq, Int.not_lt, Int.not_le, gt_iff_lt, ge_iff_le] at hc11) <;> (first | (exfalso; first | contradiction | omega | (simp [*] at hc11; done)) | skip)) <;> (
          refine aw_exit ?_
          refine aw_seq ?_
          refine aw_region ?_
          refine aops_step1 rfl (st_move rfl rfl) ?_
          refine aops_step1 rfl (st_assign rfl rfl) ?_
          refine aops_nil ?_
          refine aw_ret ⟨rfl, ret_r 5 (.inl ⟨_, rfl, rfl, fun _ e => nomatch e⟩) rfl rfl rfl ?_ ?_ ?_⟩
          all_goals have hall : (L.take i).flatten = L.flatten := by rw [List.take_of_length_le (by omega)]
          · exact TLe.refl _
          · rw [hall]
          · rw [hall]))
theorem slices_Concat_fn (k : Nat) (a0 : List (List UInt8)) (r : List UInt8) (h : slices_Concat k a0 = some r) : FnC Try.prog 61 [.one (CV.ls c_LU8 a0)] [] (Det (.one (.own 0)) [(0, some (.row 5 1 r.length (lsEl byC r)))]) := by
  obtain ⟨g, h⟩ := ifp_s h
  cases Option.some.inj h
  exact concat_fn a0 g.1 g.2
end Md
end Go.Proofs.Ytkcfkcgclljncaa
