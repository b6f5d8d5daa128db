/-
  Law 1 in plain words: WireTexts. Conditions: none.
-/
import Derived.Test.YtbnjdkpangmneaaWirePf
import Derived.Test.YtbnjdkpangmneaaWlTextsM
namespace Go.Proofs.Ytbnjdkpangmneaa
set_option linter.unusedVariables false
set_option linter.unusedSimpArgs false
namespace Md
theorem texts_loop (k : Nat) (l : List (List UInt8)) (hl : l.length ≤ 4000000) : ∀ (n i : Nat), i ≤ l.length → l.length - i < n →
    actorgridlaw1_WireTexts_loop1 k l n i = some (.inr true) ∨ (actorgridlaw1_WireTexts_loop1 k l n i = some (.inl ()) ∧ ∀ y ∈ l.drop i, y.length ≤ 200) := by
  intro n
  induction n with
  | zero => intro i h1 h2; omega
  | succ n ih =>
    intro i h1 h2
    rw [actorgridlaw1_WireTexts_loop1]
    by_cases h : i < l.length
    · rw [decide_eq_true (by omega), cond_true, ifp_pos h]
      by_cases h3 : (((l.getD i default).length : Nat) : Int) > 200
      · rw [decide_eq_true h3]; exact .inl rfl
      · rw [decide_eq_false h3, cond_false, ifp_pos (by omega)]
        rcases ih (i + 1) (by omega) (by omega) with h4 | ⟨h4, h5⟩
        · exact .inl h4
        · refine .inr ⟨h4, fun y hy => ?_⟩
          rw [List.drop_eq_getElem_cons h] at hy
          rcases List.mem_cons.1 hy with rfl | hy
          · have : l.getD i default = l[i] := by simp [List.getD, h]
            rw [this] at h3
            omega
          · exact h5 y hy
    · rw [decide_eq_false (by omega), cond_false, List.drop_of_length_le (by omega)]
      exact .inr ⟨rfl, fun y hy => by cases hy⟩
theorem flat_len {α : Type} (f : α → List UInt8) (c : Nat) : ∀ (l : List α), (∀ y ∈ l, (f y).length ≤ c) → (l.flatMap f).length ≤ c * l.length
  | [], _ => by simp
  | x :: l, h => by
    have h1 := h x (by simp)
    have h2 := flat_len f c l fun y hy => h y (by simp [hy])
    rw [List.flatMap_cons, List.length_append, List.length_cons, Nat.mul_succ]
    omega
theorem WireTexts_law (b s : List UInt8) (l : List Int) (t : List (List UInt8)) (max : Int) (h2 : ∀ y ∈ l, I64 y) (h4 : I64 max) : ∃ k, actorgridlaw1_WireTexts k b s l t max = some true := by
  refine ⟨3000, ?_⟩
  unfold actorgridlaw1_WireTexts
  rw [awake1, bind_e rfl]
  by_cases q1 : ((b.length : Nat) : Int) > 2000
  · rw [decide_eq_true q1]; rfl
  by_cases q2 : ((s.length : Nat) : Int) > 500
  · rw [decide_eq_true q2, Bool.or_true]; rfl
  by_cases q3 : ((l.length : Nat) : Int) > 100
  · rw [decide_eq_true q3, Bool.or_true]; rfl
  by_cases q4 : ((t.length : Nat) : Int) > 100
  · rw [decide_eq_true q4, Bool.or_true]; rfl
  rw [decide_eq_false q1, decide_eq_false q2, decide_eq_false q3, decide_eq_false q4]
  simp only [Bool.or_self, Bool.not_true, cond_false]
  rcases texts_loop 3000 t (by omega) 3000 0 (by omega) (by omega) with h | ⟨h, ht⟩
  · rw [h]; rfl
  rw [List.drop_zero] at ht
  rw [h, bind_e rfl]
  show ((wire_String 3000 b max).bind _) = _
  have e1 := readL_len readI rd_int b max
  have e2 := readL_len _ (rd_str 64) b max
  rw [readS_eq _ b max (by omega) (by omega) h4, bind_e rfl, readS_ref _ b max (by omega) (by omega) h4, bind_e rfl, intsR_eq _ b max (by omega) (by omega) h4, bind_e rfl, intsR_ref _ b max (by omega) (by omega) h4, bind_e rfl, strsR_eq _ b max (by omega) (by omega) h4, bind_e rfl, strsR_ref _ b max (by omega) (by omega) h4, bind_e rfl]
  simp only [decide_true, Bool.not_true, bne_self_eq_false, Bool.or_self, cond_false]
  rw [sameInts_eq _ _ (by omega) (by omega), bind_e rfl, bind_e rfl]
  simp only [Bool.not_true, Bool.or_self, cond_false]
  rw [sameStrs_eq _ _ (by omega) (by omega), bind_e rfl, bind_e rfl]
  simp only [Bool.not_true, Bool.or_self, cond_false]
  have e3 := encS_len (s := s) (by omega)
  have e4 : (encL encI l).length ≤ 5 + 10 * l.length := by
    have := enc_len5 (n := l.length) (by omega)
    have := flat_len encI 10 l fun y _ => encI_len y
    unfold encL
    rw [List.length_append]
    omega
  have e5 : (encL encS t).length ≤ 5 + 205 * t.length := by
    have := enc_len5 (n := t.length) (by omega)
    have := flat_len encS 205 t fun y hy => by
      have := ht y hy
      have := encS_len (s := y) (by omega)
      omega
    unfold encL
    rw [List.length_append]
    omega
  rw [appendString_eq _ (by omega) (by omega) b s (by omega), bind_e rfl, string_ref _ (by omega) (by omega) s (by omega), bind_e rfl, join_eq _ _ _ (by omega), bind_e rfl, same_eq, bind_e rfl, cond_true]
  rw [appendInts_eq _ (by omega) (by omega) b l h2 (by omega) (by omega), bind_e rfl, ints_refW _ (by omega) (by omega) l h2 (by omega) (by omega), bind_e rfl, join_eq _ _ _ (by omega), bind_e rfl, same_eq, bind_e rfl, bind_e rfl, cond_true]
  rw [appendStrings_eq _ (by omega) (by omega) b t ht (by omega) (by omega), bind_e rfl, strs_refW _ (by omega) (by omega) t ht (by omega) (by omega), bind_e rfl, join_eq _ _ _ (by omega), bind_e rfl, same_eq, bind_e rfl, bind_e rfl]
end Md
end Go.Proofs.Ytbnjdkpangmneaa
