/-
  Layer 41 in plain words: names, quoted strings, and reading them. Conditions: sizes.
-/
import Derived.Test.YtjpiiejdaiaocaaDoorConsFM
namespace Go.Proofs.YtjpiiejdaiaocaaDoor
set_option linter.unusedVariables false
set_option linter.unusedSimpArgs false
set_option maxRecDepth 10000
namespace Md
theorem u8_all {P : UInt8 → Prop} (h : ∀ n, n < 256 → P (UInt8.ofNat n)) (c : UInt8) : P c := by
  have := h c.toNat c.toNat_lt
  rwa [UInt8.ofNat_toNat] at this
theorem drop_cons {l : List UInt8} {j : Nat} (h : j < l.length) : l.drop j = l.getD j 0 :: l.drop (j + 1) := by
  rw [List.drop_eq_getElem_cons h]
  simp [List.getD, h]
theorem drop_none {l : List UInt8} {j : Nat} (h : ¬ j < l.length) : l.drop j = [] := List.drop_eq_nil_of_le (by omega)
theorem take_one {l : List UInt8} {j : Nat} (h : j < l.length) : (l.drop j).take ((j + 1) - j) = [l.getD j 0] := by
  rw [drop_cons h, show j + 1 - j = 1 by omega]; rfl
def isL (c : UInt8) : Bool := ((decide (97 ≤ c.toNat) && decide (c.toNat ≤ 122)) || (decide (65 ≤ c.toNat) && decide (c.toNat ≤ 90))) || decide (c.toNat = 95)
def isD (c : UInt8) : Bool := decide (48 ≤ c.toNat) && decide (c.toNat ≤ 57)
def okAt (j : Nat) (c : UInt8) : Bool := isL c || (isD c && decide (j ≠ 0))
def okFrom : Nat → List UInt8 → Bool
  | _, [] => true
  | j, c :: r => okAt j c && okFrom (j + 1) r
theorem nameT (c : UInt8) (j : Nat) : ((!((((decide ((c.toNat : Int) ≥ 97)) && (decide ((c.toNat : Int) ≤ 122))) || ((decide ((c.toNat : Int) ≥ 65)) && (decide ((c.toNat : Int) ≤ 90)))) || ((c.toNat : Int) == 95))) && (((((j : Nat) : Int) == 0) || (decide ((c.toNat : Int) < 48))) || (decide ((c.toNat : Int) > 57)))) = !okAt j c := by
  unfold okAt isL isD
  generalize c.toNat = n
  rw [Bool.eq_iff_iff]
  simp
  omega
theorem nameT' (c : UInt8) (j : Nat) : ((!((((decide ((c.toNat : Int) ≥ 97)) && (decide ((c.toNat : Int) ≤ 122))) || ((decide ((c.toNat : Int) ≥ 65)) && (decide ((c.toNat : Int) ≤ 90)))) || ((c.toNat : Int) == 95))) && (((decide ((c.toNat : Int) < 48)) || (decide ((c.toNat : Int) > 57))) || (((j : Nat) : Int) == 0))) = !okAt j c := by
  rw [← nameT]
  congr 1
  cases decide ((c.toNat : Int) < 48) <;> cases decide ((c.toNat : Int) > 57) <;> cases ((j : Nat) : Int) == 0 <;> rfl
theorem name_loop (k : Nat) (a0 : List UInt8) (hl : a0.length ≤ 9223372036854775807) : ∀ n j, a0.length - j < n → console_Name_loop1 k a0 n j = some (bif okFrom j (a0.drop j) then .inl () else .inr false) := by
  intro n
  induction n with
  | zero => intro j h; omega
  | succ n ih =>
    intro j h
    rw [console_Name_loop1]
    by_cases hj : j < a0.length
    · rw [decide_eq_true (by omega), cond_true, ifp_pos hj, drop_cons hj, nameT, okFrom]
      cases hq : okAt j (a0.getD j 0) with
      | true => rw [Bool.not_true, cond_false, ifp_pos (by omega), ih (j + 1) (by omega), Bool.true_and]
      | false => rfl
    · rw [decide_eq_false (by omega), cond_false, drop_none hj]; rfl
theorem nameR_loop (k : Nat) (a0 : List UInt8) (hl : a0.length ≤ 9223372036854775807) : ∀ n j, a0.length - j < n → actorgridref41_Name_loop1 k a0 n j = some (bif okFrom j (a0.drop j) then .inl () else .inr false) := by
  intro n
  induction n with
  | zero => intro j h; omega
  | succ n ih =>
    intro j h
    rw [actorgridref41_Name_loop1]
    by_cases hj : j < a0.length
    · rw [decide_eq_true (by omega), cond_true, ifp_pos hj, drop_cons hj, nameT', okFrom]
      cases hq : okAt j (a0.getD j 0) with
      | true => rw [Bool.not_true, cond_false, ifp_pos (by omega), ih (j + 1) (by omega), Bool.true_and]
      | false => rfl
    · rw [decide_eq_false (by omega), cond_false, drop_none hj]; rfl
def nameL (s : List UInt8) : Bool := (decide (1 ≤ s.length) && decide (s.length ≤ 32)) && okFrom 0 s
theorem name_eq (k : Nat) (s : List UInt8) (hk : 33 ≤ k) : console_Name k s = some (nameL s) := by
  unfold console_Name nameL
  by_cases h1 : s.length < 1
  · rw [decide_eq_true (by omega), decide_eq_false (by omega : ¬ 1 ≤ s.length)]; rfl
  · by_cases h2 : s.length > 32
    · rw [decide_eq_true (by omega : ((s.length : Nat) : Int) > 32), decide_eq_false (by omega : ¬ s.length ≤ 32), Bool.or_true, Bool.and_false]; rfl
    · rw [decide_eq_false (by omega), decide_eq_false (by omega : ¬ ((s.length : Nat) : Int) > 32), decide_eq_true (by omega : 1 ≤ s.length), decide_eq_true (by omega : s.length ≤ 32), name_loop k s (by omega) k 0 (by omega)]
      simp only [Bool.or_self, cond_false, List.drop_zero, Bool.and_self, Bool.true_and]
      cases okFrom 0 s <;> rfl
theorem nameR_eq (k : Nat) (s : List UInt8) (hl : s.length ≤ 9223372036854775807) (hk : s.length < k) : actorgridref41_Name k s = some (nameL s) := by
  unfold actorgridref41_Name nameL
  rw [nameR_loop k s hl k 0 (by omega), bind_e rfl, List.drop_zero]
  cases okFrom 0 s with
  | false => rw [Bool.and_false]; rfl
  | true =>
    show some _ = some _
    rw [Bool.and_true]
    congr 2 <;> exact decide_eq_decide.2 (by omega)
/-! ### quoted -/
def hexs : List UInt8 := [48, 49, 50, 51, 52, 53, 54, 55, 56, 57, 97, 98, 99, 100, 101, 102]
def hexd (i : Nat) : UInt8 := hexs.getD i 0
def plB (c : UInt8) : Bool := decide (32 ≤ c.toNat) && decide (c.toNat ≤ 126)
def qc (c : UInt8) : List UInt8 := if c.toNat = 34 ∨ c.toNat = 92 then [92, c] else if plB c = true then [c] else [92, 120, hexd (c.toNat / 16), hexd (c.toNat % 16)]
theorem qc_len (c : UInt8) : (qc c).length ≤ 4 := by
  unfold qc
  split
  · simp
  · split <;> simp
def quoteL (s : List UInt8) : List UInt8 := 34 :: (s.flatMap qc ++ [34])
theorem flat_len (s : List UInt8) : (s.flatMap qc).length ≤ 4 * s.length := by
  induction s with
  | nil => simp
  | cons c r ih => have := qc_len c; rw [List.flatMap_cons, List.length_append, List.length_cons]; omega
theorem plain_eq (k : Nat) (c : UInt8) : console_plain k c = some (plB c) := by
  unfold console_plain plB
  congr 2 <;> exact decide_eq_decide.2 (by omega)
theorem nib (c : UInt8) : (Md.shr8 c 4).toNat = c.toNat / 16 ∧ (c &&& (15 : UInt8)).toNat = c.toNat % 16 := u8_all (P := fun c => (Md.shr8 c 4).toNat = c.toNat / 16 ∧ (c &&& (15 : UInt8)).toNat = c.toNat % 16) (by decide +kernel) c
theorem esc_or (c : UInt8) : (((c.toNat : Int) == 34) || ((c.toNat : Int) == 92)) = decide (c.toNat = 34 ∨ c.toNat = 92) := by
  rw [Bool.eq_iff_iff]; simp; omega
theorem quote_loop (k : Nat) (a0 : List UInt8) (hl : a0.length ≤ 4000000) : ∀ n j out, a0.length - j < n → j ≤ a0.length → out.length + 4 * (a0.length - j) ≤ 4000000 → console_Quote_loop1 k a0 n j out = some (out ++ (a0.drop j).flatMap qc) := by
  intro n
  induction n with
  | zero => intro j out h; omega
  | succ n ih =>
    intro j out h hj0 ho
    rw [console_Quote_loop1]
    by_cases hj : j < a0.length
    · rw [decide_eq_true (by omega), cond_true, ifp_pos hj, drop_cons hj, List.flatMap_cons, esc_or]
      have key : ∀ w : List UInt8, w = qc (a0.getD j 0) → (Md.ifp (j + 1 ≤ 9223372036854775807) <| console_Quote_loop1 k a0 n (j + 1) (out ++ w)) = some (out ++ (qc (a0.getD j 0) ++ (a0.drop (j + 1)).flatMap qc)) := by
        rintro w rfl
        have := qc_len (a0.getD j 0)
        rw [ifp_pos (by omega), ih (j + 1) _ (by omega) (by omega) (by rw [List.length_append]; omega), List.append_assoc]
      generalize hc : a0.getD j 0 = c at *
      by_cases h1 : c.toNat = 34 ∨ c.toNat = 92
      · rw [decide_eq_true h1, cond_true, ifp_pos (by simp; omega)]
        exact key _ (by unfold qc; rw [if_pos h1])
      · rw [decide_eq_false h1, cond_false, plain_eq, bind_e rfl]
        cases h2 : plB c with
        | true =>
          rw [cond_true, ifp_pos (by simp; omega)]
          exact key _ (by unfold qc; rw [if_neg h1, if_pos h2])
        | false =>
          obtain ⟨e1, e2⟩ := nib c
          have := c.toNat_lt
          rw [cond_false, e1, e2, ifp_pos (by simp; omega), ifp_pos (by simp; omega), ifp_pos (by simp; omega)]
          exact key _ (by unfold qc; rw [if_neg h1, h2, if_neg (by decide)]; rfl)
    · rw [decide_eq_false (by omega), cond_false, drop_none hj]; simp
theorem quote_eq (k : Nat) (s : List UInt8) (hl : s.length ≤ 900000) (hk : s.length < k) : console_Quote k s = some (quoteL s) := by
  have := flat_len s
  unfold console_Quote quoteL
  rw [quote_loop k s (by omega) k 0 _ (by omega) (by omega) (by simp; omega), bind_e rfl, List.drop_zero, ifp_pos (by rw [List.length_append]; simp only [List.length_cons, List.length_nil]; omega)]
  rfl
theorem hexR (k : Nat) (c : UInt8) : actorgridref41_hex k (c / 16) = some [hexd (c.toNat / 16)] ∧ actorgridref41_hex k (c % 16) = some [hexd (c.toNat % 16)] :=
  u8_all (P := fun c => actorgridref41_hex k (c / 16) = some [hexd (c.toNat / 16)] ∧ actorgridref41_hex k (c % 16) = some [hexd (c.toNat % 16)]) (by unfold actorgridref41_hex; decide +kernel) c
theorem npl (c : UInt8) : ((decide ((c.toNat : Int) < 32)) || (decide ((c.toNat : Int) > 126))) = !plB c := by
  unfold plB
  rw [Bool.eq_iff_iff]; simp; omega
theorem quoteR_loop (k : Nat) (a0 : List UInt8) (hl : a0.length ≤ 4000000) : ∀ n j out, a0.length - j < n → j ≤ a0.length → out.length + 4 * (a0.length - j) ≤ 4000000 → actorgridref41_Quote_loop1 k a0 n out j = some (out ++ (a0.drop j).flatMap qc) := by
  intro n
  induction n with
  | zero => intro j out h; omega
  | succ n ih =>
    intro j out h hj0 ho
    rw [actorgridref41_Quote_loop1]
    by_cases hj : j < a0.length
    · rw [decide_eq_true (by omega), cond_true, ifp_pos hj, take_one hj, drop_cons hj, List.flatMap_cons, esc_or]
      have key : ∀ w : List UInt8, w = qc (a0.getD j 0) → (Md.ifp (j + 1 ≤ 9223372036854775807) <| actorgridref41_Quote_loop1 k a0 n (out ++ w) (j + 1)) = some (out ++ (qc (a0.getD j 0) ++ (a0.drop (j + 1)).flatMap qc)) := by
        rintro w rfl
        have := qc_len (a0.getD j 0)
        rw [ifp_pos (by omega), ih (j + 1) _ (by omega) (by omega) (by rw [List.length_append]; omega), List.append_assoc]
      generalize hc : a0.getD j 0 = c at *
      by_cases h1 : c.toNat = 34 ∨ c.toNat = 92
      · rw [decide_eq_true h1, cond_true, ifp_pos (by omega), ifp_pos (by omega), ifp_pos (by simp), ifp_pos (by simp; omega)]
        exact key _ (by unfold qc; rw [if_pos h1]; rfl)
      · rw [decide_eq_false h1, cond_false, npl]
        cases h2 : plB c with
        | true =>
          rw [Bool.not_true, cond_false, ifp_pos (by omega), ifp_pos (by omega), ifp_pos (by simp; omega)]
          exact key _ (by unfold qc; rw [if_neg h1, if_pos h2])
        | false =>
          rw [Bool.not_false, cond_true, (hexR k c).1, bind_e rfl, ifp_pos (by simp), (hexR k c).2, bind_e rfl, ifp_pos (by simp), ifp_pos (by simp; omega)]
          exact key _ (by unfold qc; rw [if_neg h1, h2, if_neg (by decide)]; rfl)
    · rw [decide_eq_false (by omega), cond_false, drop_none hj]; simp
theorem quoteR_eq (k : Nat) (s : List UInt8) (hl : s.length ≤ 900000) (hk : s.length < k) : actorgridref41_Quote k s = some (quoteL s) := by
  have := flat_len s
  unfold actorgridref41_Quote quoteL
  rw [quoteR_loop k s (by omega) k 0 _ (by omega) (by omega) (by simp; omega), bind_e rfl, List.drop_zero, ifp_pos (by rw [List.length_append]; simp only [List.length_cons, List.length_nil]; omega)]
  rfl
end Md
end Go.Proofs.YtjpiiejdaiaocaaDoor
