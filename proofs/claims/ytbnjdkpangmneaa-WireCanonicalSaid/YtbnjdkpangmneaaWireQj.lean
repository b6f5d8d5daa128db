/-
  Law 1 in plain words: WireCanonical. Conditions: none.
-/
import Derived.Test.YtbnjdkpangmneaaWirePj
import Derived.Test.YtbnjdkpangmneaaWlCanonicalM
namespace Go.Proofs.Ytbnjdkpangmneaa
set_option linter.unusedVariables false
set_option linter.unusedSimpArgs false
namespace Md
theorem stepS {β γ : Type} {E : Option (Sum Unit β)} {F : Unit → Option γ} {G : β → Option γ} {r : γ} (h : E = some (.inl ())) (h2 : F () = some r) : (E.bind fun o => onS o F G) = some r := by
  rw [h]; exact h2
theorem stage {α : Type} {b : List UInt8} {x : α × Int × Int} {X : Option (Sum Unit Bool)} (hX : x.2.2 = 0 → ∃ n : Nat, x.2.1 = (n : Int) ∧ 0 < n ∧ n ≤ b.length ∧ X = some (.inl ())) :
    (bif (x.2.2 == 0) then (bif (decide (x.2.1 < 1)) then (some (Sum.inr false)) else (bif (decide (x.2.1 > ((b.length : Nat) : Int))) then (some (Sum.inr false)) else X)) else (some (Sum.inl ())) : Option (Sum Unit Bool)) = some (.inl ()) := by
  by_cases h : x.2.2 = 0
  · obtain ⟨n, h1, h2, h3, h4⟩ := hX h
    rw [h, h1, decide_eq_false (by omega), decide_eq_false (by omega), h4]
    rfl
  · rw [show (x.2.2 == 0) = false from by simp [h]]
    rfl
theorem fin_ok {k : Nat} {b y : List UInt8} {A : Option (List UInt8)} {m : Int} {n : Nat} (hm : m = (n : Int)) (hn : n ≤ b.length) (hb : b.take n = y) (hA : A = some y) :
    (ifp (0 ≤ m) <| ifp (m.toNat ≤ b.length) <| A.bind fun x10 => (actorgridlaw1_same k (b.take m.toNat) x10).bind fun x11 => bif (!x11) then (some (Sum.inr false)) else (some (Sum.inl ()))) = (some (.inl ()) : Option (Sum Unit Bool)) := by
  rw [hm, ifp_pos (by omega), Int.toNat_natCast, ifp_pos hn, hA, bind_e rfl, hb, same_eq, bind_e rfl]
  rfl
theorem more_ok {l m : Int} (h : l ≤ m) {X : Option (Sum Unit Bool)} : (bif (decide (l > m)) then (some (Sum.inr false)) else X) = X := by
  rw [decide_eq_false (by omega)]; rfl
theorem WireCanonical_law (b : List UInt8) (max : UInt8) : ∃ k, actorgridlaw1_WireCanonical k b max = some true := by
  refine ⟨3000, ?_⟩
  have hmax := max.toNat_lt
  have hI : I64 ((max.toNat : Nat) : Int) := ⟨by omega, by omega⟩
  unfold actorgridlaw1_WireCanonical
  rw [awake1, bind_e rfl, Bool.not_true, cond_false]
  by_cases q1 : ((b.length : Nat) : Int) > 1000
  · rw [decide_eq_true q1]; rfl
  rw [decide_eq_false q1, cond_false]
  refine stepS ?_ (stepS ?_ (stepS ?_ (stepS ?_ (stepS ?_ ?_))))
  · rw [uintR_eq _ b (by omega) (by omega), bind_e rfl]
    refine stage fun h => ?_
    obtain ⟨n, h1, h2, h3, h4, h5⟩ := can_U b h
    exact ⟨n, h1, h2, h3, fin_ok h1 h3 h4 ((appendUint_eq _ (by omega) (by omega) [] _ (by simp)).trans (by rw [List.nil_append]))⟩
  · rw [intR_eq _ b (by omega) (by omega), bind_e rfl]
    refine stage fun h => ?_
    obtain ⟨n, h1, h2, h3, h4, h5⟩ := can_I b h
    exact ⟨n, h1, h2, h3, fin_ok h1 h3 h4 ((appendInt_eq _ (by omega) (by omega) [] _ h5 (by simp)).trans (by rw [List.nil_append]; rfl))⟩
  · rw [readS_eq _ b _ (by omega) (by omega) hI, bind_e rfl]
    refine stage fun h => ?_
    obtain ⟨n, h1, h2, h3, h4, h5⟩ := can_S _ b h
    have h5 : ((readS b ((max.toNat : Nat) : Int)).1.length : Int) ≤ ((max.toNat : Nat) : Int) := h5
    refine ⟨n, h1, h2, h3, ?_⟩
    rw [more_ok h5]
    exact fin_ok h1 h3 h4 ((appendString_eq _ (by omega) (by omega) [] _ (by simp only [List.length_nil]; omega)).trans (by rw [List.nil_append]))
  · rw [intsR_eq _ b _ (by omega) (by omega) hI, bind_e rfl]
    refine stage fun h => ?_
    obtain ⟨n, h1, h2, h3, h4, h5, h6⟩ := can_L readI encI I64 can_I _ b h
    have h5 : ((readL readI b ((max.toNat : Nat) : Int)).1.length : Int) ≤ ((max.toNat : Nat) : Int) := h5
    refine ⟨n, h1, h2, h3, ?_⟩
    rw [more_ok h5]
    exact fin_ok h1 h3 h4 ((appendInts_eq _ (by omega) (by omega) [] _ h6 (by omega) (by simp only [List.length_nil]; omega)).trans (by rw [List.nil_append]))
  · rw [readV_w _ b (by omega) (by omega), bind_e rfl]
    refine stage fun h => ?_
    obtain ⟨n, h1, h2, h3, h4, h5, h6⟩ := can_V b (by omega) h
    have hl := (readV_len b).2
    refine ⟨n, h1, h2, h3, ?_⟩
    rw [valid_w _ _ (by omega) (by omega), bind_e rfl, decide_eq_true h5, Bool.not_true, cond_false]
    exact fin_ok h1 h3 h4 ((appendV_eq _ (by omega) (by omega) [] _ h5 h6 (by omega) (by simp)).trans (by rw [List.nil_append]))
  · rw [open_eq _ b (by omega) (by omega), bind_e rfl]
    by_cases h : (openF b).2.2.2 = 0
    · obtain ⟨n, h1, h2, h3, h4⟩ := can_open b (by omega) h
      have ht : (b.take n).length = n := by rw [List.length_take]; omega
      rw [h, seal_eq _ _ _ (by omega) (by omega) (by omega), beq_self_eq_true, cond_true, bind_e rfl, h3, h1]
      dsimp only
      rw [ht, beq_self_eq_true, beq_self_eq_true, decide_eq_true (by omega), Bool.and_self, Bool.and_self, cond_true, ifp_pos (by omega), Int.toNat_natCast, ifp_pos h2, same_eq]
      rfl
    · rw [show ((openF b).2.2.2 == 0) = false from by simp [h]]
      rfl
end Md
end Go.Proofs.Ytbnjdkpangmneaa
