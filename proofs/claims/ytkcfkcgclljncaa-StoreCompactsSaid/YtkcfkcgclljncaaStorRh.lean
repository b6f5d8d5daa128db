/-
  Law StoreCompacts. Conditions: none.
-/
import Derived.Test.YtkcfkcgclljncaaStorRg
import Derived.Test.YtkcfkcgclljncaaStorTM
namespace Go.Proofs.Ytkcfkcgclljncaa
set_option linter.unusedVariables false
set_option linter.unusedSimpArgs false
namespace Md
theorem puts1 (k : Nat) (hk : 30000 ≤ k) (hk2 : k ≤ 100000) (a : List (List UInt8)) (ha : a.length ≤ 30) (i : Bool) (m b : Nat) (st : List UInt8) (hm : m ≤ 900) (hb : b ≤ 900) (hst : st.length ≤ 5000) : ∀ (n j : Nat) (s : Store), j ≤ a.length → a.length - j < n → (∀ e ∈ a.take j, e.length ≤ 300) → Up k true i s m b st (a.take j) →
    actorgridlaw28_StoreCompacts_loop1 k a n 0 j s = some (.inr true) ∨ ∃ s', actorgridlaw28_StoreCompacts_loop1 k a n 0 j s = some (.inl (0, s')) ∧ Up k true i s' m b st a ∧ (∀ e ∈ a, e.length ≤ 300)
  | 0, j, s, _, h, _, _ => by omega
  | n + 1, j, s, hj, h, he, hu => by
    unfold actorgridlaw28_StoreCompacts_loop1
    by_cases hl : j < a.length
    · rw [decide_eq_true (by omega), beq_self_eq_true, Bool.and_self, cond_true, ifp_pos hl]
      by_cases hx : (((a.getD j default).length : Nat) : Int) > 300
      · rw [decide_eq_true hx]; exact .inl rfl
      have he2 : ∀ e ∈ a.take (j + 1), e.length ≤ 300 := fun e h5 => by
        rw [← take_snoc hl] at h5
        rcases List.mem_append.1 h5 with h6 | h6
        · exact he e h6
        · rw [List.mem_singleton.1 h6]; omega
      have hlen : (a.take (j + 1)).length = j + 1 := by rw [List.length_take]; omega
      have hbd : Bd m b st (a.take j ++ [a.getD j default]) := by
        rw [take_snoc hl]
        exact ⟨by omega, by omega, hst, by omega, he2⟩
      rw [decide_eq_false hx, cond_false, ifp_pos hl]
      rcases put_up hk hk2 hu hbd with ⟨s', e1, e2⟩ | ⟨hq, _⟩
      · rw [e1, bind_e rfl, bind_e rfl]
        show ifp _ _ = _ ∨ ∃ s', ifp _ _ = _ ∧ _
        rw [ifp_pos (by omega)]
        rw [take_snoc hl] at e2
        exact puts1 k hk hk2 a ha i m b st hm hb hst n (j + 1) s' (by omega) (by omega) he2 e2
      · cases hq
    · rw [decide_eq_false (by omega), Bool.false_and, cond_false]
      rw [List.take_of_length_le (by omega)] at hu he
      exact .inr ⟨s, rfl, hu, he⟩
theorem puts2 (k : Nat) (hk : 30000 ≤ k) (hk2 : k ≤ 100000) (a : List (List UInt8)) (ha : a.length ≤ 30) (i : Bool) (m b : Nat) (st : List UInt8) (hm : m ≤ 900) (hb : b ≤ 900) (hst : st.length ≤ 5000) : ∀ (n j : Nat) (s : Store), j ≤ a.length → a.length - j < n → (∀ e ∈ a.take j, e.length ≤ 300) → Up k true i s m b st (a.take j) →
    actorgridlaw28_StoreCompacts_loop2 k a n 0 j s = some (.inr true) ∨ ∃ s', actorgridlaw28_StoreCompacts_loop2 k a n 0 j s = some (.inl (0, s')) ∧ Up k true i s' m b st a ∧ (∀ e ∈ a, e.length ≤ 300)
  | 0, j, s, _, h, _, _ => by omega
  | n + 1, j, s, hj, h, he, hu => by
    unfold actorgridlaw28_StoreCompacts_loop2
    by_cases hl : j < a.length
    · rw [decide_eq_true (by omega), beq_self_eq_true, Bool.and_self, cond_true, ifp_pos hl]
      by_cases hx : (((a.getD j default).length : Nat) : Int) > 300
      · rw [decide_eq_true hx]; exact .inl rfl
      have he2 : ∀ e ∈ a.take (j + 1), e.length ≤ 300 := fun e h5 => by
        rw [← take_snoc hl] at h5
        rcases List.mem_append.1 h5 with h6 | h6
        · exact he e h6
        · rw [List.mem_singleton.1 h6]; omega
      have hlen : (a.take (j + 1)).length = j + 1 := by rw [List.length_take]; omega
      have hbd : Bd m b st (a.take j ++ [a.getD j default]) := by
        rw [take_snoc hl]
        exact ⟨by omega, by omega, hst, by omega, he2⟩
      rw [decide_eq_false hx, cond_false, ifp_pos hl]
      rcases put_up hk hk2 hu hbd with ⟨s', e1, e2⟩ | ⟨hq, _⟩
      · rw [e1, bind_e rfl, bind_e rfl]
        show ifp _ _ = _ ∨ ∃ s', ifp _ _ = _ ∧ _
        rw [ifp_pos (by omega)]
        rw [take_snoc hl] at e2
        exact puts2 k hk hk2 a ha i m b st hm hb hst n (j + 1) s' (by omega) (by omega) he2 e2
      · cases hq
    · rw [decide_eq_false (by omega), Bool.false_and, cond_false]
      rw [List.take_of_length_le (by omega)] at hu he
      exact .inr ⟨s, rfl, hu, he⟩
theorem comp_loop (k : Nat) (a : List (List UInt8)) (ha : a.length ≤ 1000) (x : Store × StoreContents × Int) (hx : x.2.1.Entries = a) : ∀ (n i : Nat), i ≤ a.length → a.length - i < n → actorgridlaw28_StoreCompacts_loop3 k a x n i = some (.inl ())
  | 0, i, _, h => by omega
  | n + 1, i, hi, h => by
    unfold actorgridlaw28_StoreCompacts_loop3
    by_cases hl : i < a.length
    · rw [decide_eq_true (by omega), cond_true, hx, ifp_pos hl, ifp_pos hl, decide_eq_true rfl, Bool.not_true, cond_false, ifp_pos (by omega)]
      exact comp_loop k a ha x hx n (i + 1) (by omega) (by omega)
    · rw [decide_eq_false (by omega)]; rfl
theorem StoreCompacts_law (a0 a1 : List (List UInt8)) (a2 : List UInt8) : ∃ k, actorgridlaw28_StoreCompacts k a0 a1 a2 = some true := by
  refine ⟨30000, ?_⟩
  unfold actorgridlaw28_StoreCompacts
  rw [awake28k, bind_e rfl, Bool.not_true, cond_false]
  by_cases c0 : ((a0.length : Nat) : Int) > 30
  · rw [decide_eq_true c0]; rfl
  by_cases c1 : ((a1.length : Nat) : Int) > 30
  · rw [decide_eq_true c1, Bool.or_true]; rfl
  by_cases c2 : ((a2.length : Nat) : Int) > 2000
  · rw [decide_eq_true c2, Bool.or_true]; rfl
  obtain ⟨n1, n2⟩ := new_up 30000
  rw [decide_eq_false c0, decide_eq_false c1, decide_eq_false c2, Bool.or_self, Bool.or_self, cond_false, new_store 30000 (by omega) (by omega), bind_e rfl, n1]
  rcases puts1 30000 (by omega) (by omega) a0 (by omega) false 0 0 [] (by omega) (by omega) (by simp) 30000 0 _ (Nat.zero_le _) (by omega) (by simp) (by rw [List.take_zero]; exact n2) with h | ⟨s1, h, u1, g1⟩
  · rw [h]; rfl
  rw [h, bind_e rfl]
  have hbd : Bd 0 0 [] a0 := ⟨by omega, by omega, by simp, by omega, g1⟩
  rw [onS_le]
  dsimp only
  rw [show ((0 : Int) != 0) = false from rfl, cond_false]
  rcases ck_up (by omega) (by omega) u1 hbd (by omega : a2.length ≤ 5000) (by omega) with ⟨s2, e2, u2⟩ | ⟨hq, _⟩
  · rw [e2, bind_e rfl]
    dsimp only
    rcases puts2 30000 (by omega) (by omega) a1 (by omega) (!false) (0 + 1) (0 + a0.length) a2 (by omega) (by omega) (by omega) 30000 0 _ (Nat.zero_le _) (by omega) (by simp) (by rw [List.take_zero]; exact u2) with h | ⟨s3, h, u3, g3⟩
    · rw [h]; rfl
    rw [h, bind_e rfl]
    rw [onS_le]
    dsimp only
    rw [show ((0 : Int) != 0) = false from rfl, cond_false]
    obtain ⟨s4, e4⟩ := recover_up (k := 30000) (by omega) u3 ⟨by omega, by omega, by omega, by omega, g3⟩
    rw [e4, bind_e rfl]
    dsimp only
    rw [show ((0 : Int) != 0) = false from rfl, show ((((0 + a0.length : Nat) : Int)) != ((a0.length : Nat) : Int)) = false from by rw [Nat.zero_add]; exact bne_self_eq_false _, decide_eq_true rfl, bne_self_eq_false]
    show cond false _ _ = _
    rw [cond_false, comp_loop _ a1 (by omega) _ rfl 30000 0 (Nat.zero_le _) (by omega)]
    rfl
  · cases hq
end Md
end Go.Proofs.Ytkcfkcgclljncaa
