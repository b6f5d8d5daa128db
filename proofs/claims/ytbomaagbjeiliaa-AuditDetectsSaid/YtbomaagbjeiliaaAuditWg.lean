/-
  The walks over the laws' own helper 'change': a log with one entry changed.
-/
import Derived.Test.YtbomaagbjeiliaaAuditWf
import Derived.BigRegion
import Derived.Deep.RegionLaw
namespace Go.Proofs.Ytbomaagbjeiliaa
set_option linter.unusedVariables false
open Go.ChangeShapes Go.WideShapes Go.RowKit
open Hash HashW
open Kit hiding keep_cell below_step below_drewN
namespace Audit

def OutVal (w : World) (l : List Entry) (v : Value) (w' : World) : Prop :=
  ∃ A c, v = .slice A l.length c ∧ l.length ≤ c ∧ c ≤ maxLen ∧ Flat w' w'.heap.size A (l.flatMap enc) ∧ Below w.heap.size w w'
theorem flat_take (l : List Entry) (k : Nat) : (l.flatMap enc).take (k * 4) = (l.take k).flatMap enc := by
  induction l generalizing k with
  | nil => simp
  | cons x r ih =>
    cases k with
    | zero => simp
    | succ k =>
      rw [List.flatMap_cons, List.take_succ_cons, List.flatMap_cons, List.take_append, ← ih k]
      have h1 : (enc x).length = 4 := rfl
      rw [List.take_of_length_le (by omega), h1]
      congr 2
      omega
theorem flat_drop (l : List Entry) (k : Nat) : (l.flatMap enc).drop (k * 4) = (l.drop k).flatMap enc := by
  induction l generalizing k with
  | nil => simp
  | cons x r ih =>
    cases k with
    | zero => simp
    | succ k =>
      rw [List.flatMap_cons, List.drop_succ_cons, List.drop_append, ← ih k]
      have h1 : (enc x).length = 4 := rfl
      rw [show (enc x).drop ((k + 1) * 4) = [] from List.drop_eq_nil_of_le (by omega), h1, List.nil_append]
      congr 1
      omega

set_option maxHeartbeats 1000000 in
theorem change_4 (A : Option Addr) (c : Nat) (l : List Entry) (a h n : Int) (t : ByteArray) (w : World) (hl : Log w w.heap.size A l) (hn : l.length ≤ 1000) (h0 : 0 < l.length) (ha : 0 ≤ a) (ha' : a < 256) (hh : 0 ≤ h) (hh' : h < 256) (hm : h % 6 = 4) :
    Calls Try.prog 28 #[.slice A l.length c, .int .u8 a, .int .u8 h, .int .i64 n, .string t] w (OutLog w (l.eraseIdx (place l a))) := by
  have hmod := Int.emod_nonneg a (show (l.length : Int) ≠ 0 by omega)
  have hmod' := Int.emod_lt_of_pos a (show 0 < (l.length : Int) by omega)
  obtain ⟨K, hK⟩ : ∃ K : Nat, a % (l.length : Int) = (K : Int) := ⟨_, (Int.toNat_of_nonneg hmod).symm⟩
  have hp : Hid (place l a = K) := Lib.hid (by unfold place; rw [hK]; simp)
  have hKl : K < l.length := by omega
  obtain ⟨e, he⟩ : ∃ e, l[K]? = some e := ⟨_, List.getElem?_eq_getElem hKl⟩
  have HE := Lib.hid he
  clear he hmod hmod'
  go_enter Try.func28, Try.ntmps28
  go_wp2_with (at_builtin; refine wpList_app elemE rfl _ _ rfl w.heap.size _ 0 [] rfl (own_empty (Nat.le_refl _) (heap_alloc_new w _) rfl) A l.length c w.heap.size (l.flatMap enc) rfl (hl.1.keep (kept_alloc (Nat.le_refl _) _)) (flat_length l) (one_enc l) ?c1 ?c2 ?c3 ?_)
  case c1 => unfold maxLen; omega
  case c2 => omega
  case c3 => simp
  intro v' w1 hown hgrow hat
  have hb : Below w.heap.size w w1 := Below.grown (Below.alloc (Below.refl _ _) (Nat.le_refl _) _) hgrow (by simp) (fun k hk => by simp [Value.ownBlock] at hk; omega)
  try simp only [Nat.zero_add, List.nil_append] at hown
  obtain ⟨g, cap, rfl, hg1, hg2⟩ := hown.form h0
  obtain ⟨hcap, hcap2⟩ := own_bounds hown
  have hfl := Flat.of_own hown
  clear hgrow hat hl hown
  unfold maxLen at hcap2
  have k0 : (0 : Int) ≤ (K : Int) := by omega
  have k1 : (K : Int) ≤ (cap : Int) := by omega
  have k2 : (K : Int) + 1 ≤ (l.length : Int) := by omega
  have k3 : (l.length : Int) ≤ (cap : Int) := by omega
  have e0 : (0 : Int) ≤ (K : Int) + 1 := by omega
  have e1 : IntKind.i64.wrap ((K : Int) + 1) = (K : Int) + 1 := by rw [IntKind.wrap_i64]; omega
  have e2 : ((K : Int) + 1).toNat = K + 1 := by omega
  obtain ⟨A2, hA2⟩ : ∃ A2, (if cap = K + 1 then some (⟨g, 0, none⟩ : Addr) else some ⟨g, (K + 1) * 4, none⟩) = A2 := ⟨_, rfl⟩
  have hr : Hid (∀ ty, ∃ v' w', (Builtin.append_ #[37, 37] ty #[.slice (some ⟨g, 0, none⟩) K K, .slice A2 (l.length - (K + 1)) (cap - (K + 1))]).run Try.prog w1.drew = .ok v' w' ∧ OutVal w (l.eraseIdx K) v' w') := Lib.hid (by
    intro ty
    have hl1 : (l.eraseIdx K).length = l.length - 1 := by rw [List.length_eraseIdx, if_pos hKl]
    have hf1 : Flat w1.drew w1.heap.size (some ⟨g, 0, none⟩) ((l.take K).flatMap enc) := by
      have := Flat.take (w := w1) hfl (K * 4)
      rw [flat_take] at this
      exact this
    by_cases hm0 : l.length - (K + 1) = 0
    · rw [hm0]
      refine ⟨_, _, run_app_zero elemE w1.drew ty _ K K (Nat.le_refl _) A2 _, some ⟨g, 0, none⟩, K, ?_, ?_, ?_, ?_, by repeat' (first | (with_reducible exact Below.refl _ _) | (with_reducible assumption) | (with_reducible refine Below.alloc ?_ ?_ _) | (with_reducible refine Below.drew ?_) | (with_reducible refine below_drewN ?_ _) | (with_reducible refine Below.setCell ?_ ?_ _) | (with_reducible exact Below.size (by assumption)) | go_size)⟩
      · rw [hl1]; congr 1; omega
      · rw [hl1]; omega
      · unfold maxLen; omega
      · rw [List.eraseIdx_eq_take_drop_succ, List.drop_eq_nil_of_le (by omega), List.append_nil]
        exact hf1
    · have hf2 : Flat w1.drew w1.heap.size A2 ((l.drop (K + 1)).flatMap enc) := by
        rw [← hA2, if_neg (by omega)]
        have := Flat.drop (w := w1) hfl ((K + 1) * 4)
        rw [flat_drop, Nat.zero_add] at this
        exact this
      obtain ⟨v', w', hrun, hown, hgrow⟩ := run_app_full elemE w1.drew ty w.heap.size (some ⟨g, 0, none⟩) K _ _ hf1 (by rw [flat_length, List.length_take, Nat.min_eq_left (by omega)]) A2 (l.length - (K + 1)) (cap - (K + 1)) _ _ hf2
        (by rw [flat_length, List.length_drop]) (by omega) (by unfold maxLen; omega) (by omega) hb.size rfl
      rw [← List.flatMap_append, ← List.eraseIdx_eq_take_drop_succ] at hown
      obtain ⟨A', c', rfl, hq1, hq2, hfl'⟩ := own_slice hown
      refine ⟨_, _, hrun, A', c', by rw [hl1]; congr 1; omega, by rw [hl1]; omega, hq2, hfl', ?_⟩
      exact Below.grown hb.drew hgrow hb.size (fun k hk => by cases hk))
  have hpp := hp.out
  have HP := Lib.hid hpp
  clear hpp hfl
  go_wp2_with fail
  go_region_law ((refine step_run (by rfl) (.tmp 87) (.tmp 91) (by rfl) (.slice (some ⟨g, 0, none⟩) K K) (.slice A2 (l.length - (K + 1)) (cap - (K + 1))) (by simp [Act.eval, Act.put]) (by simp [Act.eval, Act.put, *]) _ hr.out ?_; intro v' w' hR))
  obtain ⟨A', c', rfl, hR⟩ := hR
  go_wp2_with fail
  go_ret
  rw [HP.out]
  exact ⟨A', c', rfl, hR⟩
end Audit
end Go.Proofs.Ytbomaagbjeiliaa
