/-
  Layer 41 in plain words: words and numbers. Conditions: sizes.
-/
import Derived.Test.YtjpiiejdaiaocaaDoorConsPb
namespace Go.Proofs.YtjpiiejdaiaocaaDoor
set_option linter.unusedVariables false
set_option linter.unusedSimpArgs false
set_option maxRecDepth 10000
namespace Md
/-! ### words -/
def wordL (s : List UInt8) : List UInt8 := s.takeWhile (fun c => c != 32)
theorem idx_take : ∀ (s : List UInt8), (Lib.indexByte s 32 = -1 ∧ wordL s = s) ∨ (∃ n : Nat, Lib.indexByte s 32 = (n : Int) ∧ n < s.length ∧ wordL s = s.take n)
  | [] => .inl ⟨rfl, rfl⟩
  | c :: r => by
    have e : Lib.indexByte (c :: r) 32 = if (c == 32) = true then 0 else if (Lib.indexByte r 32 == -1) = true then -1 else Lib.indexByte r 32 + 1 := rfl
    unfold wordL
    rw [List.takeWhile_cons]
    by_cases h : c = 32
    · subst h
      exact .inr ⟨0, rfl, by simp, rfl⟩
    · rw [e, if_neg (show ¬ (c == 32) = true by simpa using h), if_pos (show (c != 32) = true by simpa using h)]
      rcases idx_take r with ⟨h1, h2⟩ | ⟨n, h1, h2, h3⟩
      · rw [h1]
        refine .inl ⟨rfl, ?_⟩
        unfold wordL at h2
        rw [h2]
      · rw [h1, if_neg (show ¬ (((n : Nat) : Int) == -1) = true by rw [ib_f (by omega)]; decide)]
        refine .inr ⟨n + 1, rfl, by rw [List.length_cons]; omega, ?_⟩
        unfold wordL at h3
        rw [h3]; rfl
theorem word_eq (k : Nat) (s : List UInt8) (hl : s.length ≤ 4000000) : console_word k s = some (wordL s) := by
  unfold console_word strings_Cut internal_stringslite_Cut internal_stringslite_Index
  rw [ifp_pos (show ([32] : List UInt8).length = 1 from rfl)]
  show (((Option.some (Lib.indexByte s 32)).bind _).bind _).bind _ = _
  rcases idx_take s with ⟨h1, h2⟩ | ⟨n, h1, h2, h3⟩
  · rw [h1, h2]; rfl
  · have hW : W ((n : Int) + (([32] : List UInt8).length : Nat)) = ((n + 1 : Nat) : Int) := (W_id (by simp; omega) (by simp; omega)).trans (by simp)
    rw [h1, bind_e rfl, decide_eq_true (by omega), cond_true, ifp_pos (by omega), ifp_pos (by omega), hW, ifp_pos (by omega), ifp_pos (by omega), h3]
    rfl
theorem wordL_cons (c : UInt8) (r : List UInt8) : wordL (c :: r) = if c = 32 then [] else c :: wordL r := by
  unfold wordL
  rw [List.takeWhile_cons]
  by_cases h : c = 32
  · subst h; rfl
  · rw [if_neg h, if_pos (by simpa using h)]
theorem wordR_loop (k : Nat) (a0 : List UInt8) (hl : a0.length ≤ 4000000) : ∀ n j, a0.length - j < n → j ≤ a0.length → (actorgridref41_word_loop1 k a0 n j).bind (fun o => Md.onS o (fun _ => some a0) (fun r => some r)) = some (a0.take j ++ wordL (a0.drop j)) := by
  intro n
  induction n with
  | zero => intro j h; omega
  | succ n ih =>
    intro j h hj0
    rw [actorgridref41_word_loop1]
    by_cases hj : j < a0.length
    · rw [decide_eq_true (by omega), cond_true, ifp_pos hj, drop_cons hj, wordL_cons]
      by_cases hc : a0.getD j 0 = 32
      · rw [hc, if_pos rfl, ib_t (n := (32 : UInt8).toNat) (z := 32) rfl, cond_true, ifp_pos (by omega), List.append_nil]; rfl
      · have hc' : (a0.getD j 0).toNat ≠ 32 := fun e => hc (UInt8.toNat_inj.1 e)
        rw [if_neg hc, ib_f (n := (a0.getD j 0).toNat) (z := 32) (by omega), cond_false, ifp_pos (by omega), ih (j + 1) (by omega) (by omega)]
        congr 1
        rw [show a0.getD j 0 :: wordL (a0.drop (j + 1)) = [a0.getD j 0] ++ wordL (a0.drop (j + 1)) from rfl, ← List.append_assoc]
        congr 1
        rw [List.take_add_one]
        congr 1
        simp [List.getD, hj]
    · rw [decide_eq_false (by omega), cond_false, drop_none hj, List.take_of_length_le (by omega)]; simp [wordL]; rfl
theorem wordR_eq (k : Nat) (s : List UInt8) (hl : s.length ≤ 4000000) (hk : s.length < k) : actorgridref41_word k s = some (wordL s) := by
  unfold actorgridref41_word
  have := wordR_loop k s hl k 0 (by omega) (by omega)
  simpa using this
theorem wordL_le (s : List UInt8) : (wordL s).length ≤ s.length := (List.takeWhile_sublist _).length_le
theorem wordL_split (s : List UInt8) : s = wordL s ++ s.drop (wordL s).length ∧ (s.drop (wordL s).length = [] ∨ ∃ r, s.drop (wordL s).length = 32 :: r) := by
  induction s with
  | nil => exact ⟨rfl, .inl rfl⟩
  | cons c r ih =>
    rw [wordL_cons]
    by_cases h : c = 32
    · rw [if_pos h, h]; exact ⟨rfl, .inr ⟨r, rfl⟩⟩
    · rw [if_neg h]
      exact ⟨by rw [List.length_cons, List.drop_succ_cons, List.cons_append, ← ih.1], by rw [List.length_cons, List.drop_succ_cons]; exact ih.2⟩
theorem wordL_app {w r : List UInt8} (hw : ∀ c ∈ w, c ≠ 32) (hr : r = [] ∨ ∃ q, r = 32 :: q) : wordL (w ++ r) = w := by
  induction w with
  | nil =>
    rcases hr with rfl | ⟨q, rfl⟩
    · rfl
    · rw [List.nil_append, wordL_cons, if_pos rfl]
  | cons c w ih =>
    rw [List.cons_append, wordL_cons, if_neg (hw c (by simp)), ih fun c hc => hw c (by simp [hc])]
theorem okFrom_ne : ∀ (s : List UInt8) (j : Nat), okFrom j s = true → ∀ c ∈ s, c ≠ 32
  | [], _, _, c, hc => by cases hc
  | x :: r, j, h, c, hc => by
    rw [okFrom, Bool.and_eq_true] at h
    rcases List.mem_cons.1 hc with rfl | hc
    · rintro rfl
      have : okAt j 32 = false := by unfold okAt; rfl
      rw [this] at h; cases h.1
    · exact okFrom_ne r (j + 1) h.2 c hc
theorem nameL_ne {s : List UInt8} (h : nameL s = true) : ∀ c ∈ s, c ≠ 32 := okFrom_ne s 0 (by unfold nameL at h; simp only [Bool.and_eq_true] at h; exact h.2)
theorem nameL_len {s : List UInt8} (h : nameL s = true) : 1 ≤ s.length ∧ s.length ≤ 32 := by unfold nameL at h; simp only [Bool.and_eq_true, decide_eq_true_eq] at h; exact h.1
/-! ### numbers -/
def decF : Nat → List UInt8 → Option Nat
  | a, [] => some a
  | a, c :: r => if isD c = true then decF (10 * a + (c.toNat - 48)) r else none
def decL (s : List UInt8) : Option Nat := if s.length < 1 ∨ s.length > 15 ∨ ((s.getD 0 0).toNat = 48 ∧ s.length > 1) then none else decF 0 s
def decR (o : Option Nat) : Int × Bool := match o with | none => (0, false) | some v => ((v : Int), true)
def decE (o : Sum Nat (Int × Bool)) : Option (Int × Bool) := Md.onS o (fun x => some (((x : Nat) : Int), true)) (fun r => some r)
theorem isD_t {c : UInt8} (h : isD c = true) : (c - 48).toNat = c.toNat - 48 ∧ c.toNat - 48 < 10 := by
  unfold isD at h
  simp only [Bool.and_eq_true, decide_eq_true_eq] at h
  refine ⟨?_, by omega⟩
  rw [UInt8.toNat_sub]
  have : (48 : UInt8).toNat = 48 := rfl
  have := c.toNat_lt
  omega
theorem num_loop (k : Nat) (a0 : List UInt8) (hl : a0.length ≤ 15) : ∀ n a j, a0.length - j < n → j ≤ a0.length → a < 10 ^ j → (console_number_loop1 k a0 n a j).bind decE = some (decR (decF a (a0.drop j))) := by
  intro n
  induction n with
  | zero => intro a j h; omega
  | succ n ih =>
    intro a j h hj0 ha
    rw [console_number_loop1]
    by_cases hj : j < a0.length
    · have hp : (10 : Nat) ^ (j + 1) ≤ 10 ^ 15 := Nat.pow_le_pow_right (by decide) (by omega)
      have hp2 : (10 : Nat) ^ (j + 1) = 10 * 10 ^ j := by rw [Nat.pow_succ]; omega
      have hp3 : (10 : Nat) ^ 15 = 1000000000000000 := by decide
      rw [decide_eq_true (by omega), cond_true, ifp_pos hj, drop_cons hj, decF]
      generalize hc : a0.getD j 0 = c
      have ht : (((bif (decide ((c.toNat : Int) < 48)) then (some true) else (Md.ifp (j < a0.length) <| some (decide ((c.toNat : Int) > 57)))) : Option Bool)) = some (!isD c) := by
        rw [ifp_pos hj]
        unfold isD
        by_cases h1 : c.toNat < 48
        · rw [decide_eq_true (by omega), decide_eq_false (by omega : ¬ 48 ≤ c.toNat)]; rfl
        · rw [decide_eq_false (by omega), decide_eq_true (by omega : 48 ≤ c.toNat), cond_false, Bool.true_and]
          congr 1
          by_cases h2 : c.toNat > 57
          · rw [decide_eq_true (by omega), decide_eq_false (by omega)]; rfl
          · rw [decide_eq_false (by omega), decide_eq_true (by omega)]; rfl
      rw [ht, bind_e rfl]
      cases hd : isD c with
      | false => rw [Bool.not_false, cond_true, if_neg (by decide)]; rfl
      | true =>
        obtain ⟨e1, e2⟩ := isD_t hd
        rw [Bool.not_true, cond_false, if_pos rfl, ifp_pos (by omega), ifp_pos hj, e1, ifp_pos (by omega), ifp_pos (by omega), ih _ _ (by omega) (by omega) (by omega)]
    · rw [decide_eq_false (by omega), cond_false, drop_none hj]; rfl
theorem numR_loop (k : Nat) (a0 : List UInt8) : ∀ n a j, actorgridref41_decimal_loop1 k a0 n a j = console_number_loop1 k a0 n a j := by
  intro n
  induction n with
  | zero => intro a j; rfl
  | succ n ih =>
    intro a j
    rw [actorgridref41_decimal_loop1, console_number_loop1]
    simp only [ih]
theorem number_eq (k : Nat) (s : List UInt8) (hk : 16 ≤ k) : console_number k s = some (decR (decL s)) := by
  unfold console_number decL
  by_cases h1 : s.length < 1
  · have : s = [] := List.eq_nil_of_length_eq_zero (by omega)
    subst this; rfl
  have hne : s ≠ [] := by rintro rfl; simp at h1
  rw [decide_eq_false hne, Bool.false_or]
  by_cases h2 : s.length > 15
  · rw [if_pos (.inr (.inl h2)), decide_eq_true (by omega)]; rfl
  rw [decide_eq_false (by omega : ¬ ((s.length : Nat) : Int) > 15), cond_false, ifp_pos (by omega), bind_e rfl]
  by_cases h3 : (s.getD 0 0).toNat = 48 ∧ s.length > 1
  · rw [if_pos (.inr (.inr h3)), ib_t (n := (s.getD 0 0).toNat) (z := 48) (by omega), decide_eq_true (by omega)]; rfl
  · rw [if_neg (by omega)]
    have : ((((s.getD 0 0).toNat : Int) == 48) && (decide (((s.length : Nat) : Int) > 1))) = false := by
      by_cases h4 : (s.getD 0 0).toNat = 48
      · rw [decide_eq_false (by omega), Bool.and_false]
      · rw [ib_f (n := (s.getD 0 0).toNat) (z := 48) (by omega)]; rfl
    rw [this, cond_false]
    have := num_loop k s (by omega) k 0 0 (by omega) (by omega) (by decide)
    rwa [List.drop_zero] at this
theorem numberR_eq (k : Nat) (s : List UInt8) (hk : 16 ≤ k) : actorgridref41_decimal k s = some (decR (decL s)) := by
  rw [← number_eq k s hk]
  unfold actorgridref41_decimal console_number
  have e : (decide (((s.length : Nat) : Int) < 1)) = decide (s = ([] : List UInt8)) := by
    cases s with
    | nil => rfl
    | cons c r => rw [decide_eq_false (by simp; omega), decide_eq_false (by simp)]
  rw [e, numR_loop]
theorem decDigits_rec (u : Nat) : Lib.decDigits u = if u < 10 then [UInt8.ofNat (48 + u)] else Lib.decDigits (u / 10) ++ [UInt8.ofNat (48 + u % 10)] := by
  rw [Lib.decDigits]
  split <;> simp_all
theorem dig_is {d : Nat} (h : d < 10) : isD (UInt8.ofNat (48 + d)) = true ∧ (UInt8.ofNat (48 + d)).toNat = 48 + d := by
  have : ∀ d, d < 10 → isD (UInt8.ofNat (48 + d)) = true ∧ (UInt8.ofNat (48 + d)).toNat = 48 + d := by decide +kernel
  exact this d h
theorem decF_snoc : ∀ (l : List UInt8) (a : Nat) (c : UInt8), decF a (l ++ [c]) = (decF a l).bind fun v => if isD c = true then some (10 * v + (c.toNat - 48)) else none
  | [], a, c => by
    show (if isD c = true then decF (10 * a + (c.toNat - 48)) [] else none) = (if isD c = true then some (10 * a + (c.toNat - 48)) else none)
    rfl
  | x :: l, a, c => by
    rw [List.cons_append, decF, decF]
    split
    · exact decF_snoc l _ c
    · rfl
theorem decF_dig : ∀ (u : Nat), decF 0 (Lib.decDigits u) = some u := by
  intro u
  induction u using Nat.strongRecOn with
  | ind u ih =>
    rw [decDigits_rec]
    split
    · rename_i h
      obtain ⟨h1, h2⟩ := dig_is h
      show (if isD (UInt8.ofNat (48 + u)) = true then decF (10 * 0 + ((UInt8.ofNat (48 + u)).toNat - 48)) [] else none) = _
      rw [if_pos h1, h2]
      show some _ = some _
      congr 1; omega
    · rename_i h
      obtain ⟨h1, h2⟩ := dig_is (Nat.mod_lt u (by decide : 0 < 10))
      rw [decF_snoc, ih (u / 10) (by omega)]
      show (if isD _ = true then some _ else none) = _
      rw [if_pos h1, h2]
      congr 1; omega
theorem dig_back {c : UInt8} (h : isD c = true) : c = UInt8.ofNat (48 + (c.toNat - 48)) := by
  unfold isD at h
  simp only [Bool.and_eq_true, decide_eq_true_eq] at h
  rw [show 48 + (c.toNat - 48) = c.toNat by omega, UInt8.ofNat_toNat]
theorem decF_pos : ∀ (l : List UInt8) (a v : Nat), 0 < a → decF a l = some v → 0 < v
  | [], a, v, ha, h => by cases h; exact ha
  | c :: r, a, v, ha, h => by
    rw [decF] at h
    split at h
    · exact decF_pos r _ v (by omega) h
    · cases h
theorem decF_back : ∀ (n : Nat) (l : List UInt8) (v : Nat), l.length = n → 1 ≤ n → ¬ ((l.getD 0 0).toNat = 48 ∧ l.length > 1) → decF 0 l = some v → l = Lib.decDigits v := by
  intro n
  induction n with
  | zero => intro l v h h1; omega
  | succ n ih =>
    intro l v hl _ hz hv
    have hne : l ≠ [] := by rintro rfl; simp at hl
    obtain ⟨l', c, rfl⟩ : ∃ l' c, l = l' ++ [c] := ⟨l.dropLast, l.getLast hne, (List.dropLast_concat_getLast hne).symm⟩
    rw [decF_snoc] at hv
    cases hq : decF 0 l' with
    | none => rw [hq] at hv; cases hv
    | some q =>
      rw [hq] at hv
      have hv2 : (if isD c = true then some (10 * q + (c.toNat - 48)) else none) = some v := hv
      split at hv2
      · rename_i hd
        obtain ⟨_, e2⟩ := isD_t hd
        have hv3 : 10 * q + (c.toNat - 48) = v := Option.some.inj hv2
        cases l' with
        | nil =>
          have : q = 0 := by cases hq; rfl
          subst this
          rw [List.nil_append, decDigits_rec, if_pos (by omega), ← hv3, dig_back hd]
          congr 2
          rw [← dig_back hd]
          omega
        | cons x r =>
          have hlen : (x :: r).length = n := by simpa using hl
          have hx : x.toNat ≠ 48 := fun e => hz ⟨e, by simp⟩
          have h0 := ih (x :: r) q hlen (by rw [← hlen]; simp) (fun h => hx h.1) hq
          have hq0 : 0 < q := by
            rw [decF] at hq
            split at hq
            · rename_i hdx
              refine decF_pos r _ q ?_ hq
              unfold isD at hdx
              simp only [Bool.and_eq_true, decide_eq_true_eq] at hdx
              omega
            · cases hq
          rw [decDigits_rec, if_neg (by omega), ← hv3, show (10 * q + (c.toNat - 48)) / 10 = q by omega, show (10 * q + (c.toNat - 48)) % 10 = c.toNat - 48 by omega, ← h0, ← dig_back hd]
      · cases hv2
theorem dig_len : ∀ (n u : Nat), u < 10 ^ (n + 1) → (Lib.decDigits u).length ≤ n + 1 ∧ 1 ≤ (Lib.decDigits u).length := by
  intro n
  induction n with
  | zero => intro u h; rw [decDigits_rec, if_pos (by omega)]; simp
  | succ n ih =>
    intro u h
    rw [decDigits_rec]
    split
    · simp
    · have h2 : (10 : Nat) ^ (n + 1 + 1) = 10 * 10 ^ (n + 1) := by rw [Nat.pow_succ]; omega
      have := ih (u / 10) (by omega)
      simp; omega
theorem dig_all : ∀ (u : Nat), ∀ c ∈ Lib.decDigits u, isD c = true := by
  intro u
  induction u using Nat.strongRecOn with
  | ind u ih =>
    rw [decDigits_rec]
    split
    · rename_i h; intro c hc; rw [List.mem_singleton] at hc; rw [hc]; exact (dig_is h).1
    · intro c hc
      rcases List.mem_append.1 hc with hc | hc
      · exact ih (u / 10) (by omega) c hc
      · rw [List.mem_singleton] at hc; rw [hc]; exact (dig_is (Nat.mod_lt u (by decide))).1
theorem dig_head : ∀ (u : Nat), ¬ (((Lib.decDigits u).getD 0 0).toNat = 48 ∧ (Lib.decDigits u).length > 1) := by
  intro u
  induction u using Nat.strongRecOn with
  | ind u ih =>
    rw [decDigits_rec]
    split
    · simp
    · rename_i h
      rintro ⟨h1, _⟩
      by_cases h2 : u / 10 < 10
      · rw [decDigits_rec, if_pos h2] at h1
        have h3 : (UInt8.ofNat (48 + u / 10)).toNat = 48 := h1
        rw [(dig_is h2).2] at h3
        omega
      · have h3 := ih (u / 10) (by omega)
        have h4 : (Lib.decDigits (u / 10)).length > 1 := by
          rw [decDigits_rec, if_neg h2]
          have := (dig_len (u / 10 / 10) (u / 10 / 10) (by
            have : u / 10 / 10 + 1 < 10 ^ (u / 10 / 10 + 1) := Nat.lt_pow_self (by decide)
            omega)).2
          simp; omega
        refine h3 ⟨?_, h4⟩
        rw [← h1]
        cases hd : Lib.decDigits (u / 10) with
        | nil => rw [hd] at h4; simp at h4
        | cons x r => rfl
theorem decL_itoa {u : Nat} (h : u < 10 ^ 15) : decL (Lib.decDigits u) = some u := by
  have h1 := dig_len 14 u h
  have h2 := dig_head u
  unfold decL
  rw [if_neg (by omega)]
  exact decF_dig u
theorem decL_back {s : List UInt8} {v : Nat} (h : decL s = some v) : s = Lib.decDigits v := by
  unfold decL at h
  split at h
  · cases h
  · rename_i h1
    exact decF_back s.length s v rfl (by omega) (by omega) h
theorem itoa_nat (u : Nat) : Lib.itoa (u : Int) = Lib.decDigits u := by
  unfold Lib.itoa
  rw [if_neg (by omega), Int.toNat_natCast]
theorem dig_cut (d : UInt64) (h : d.toNat < 10) : (d.toNat ≤ (d + 1).toNat ∧ (d + 1).toNat ≤ ([48, 49, 50, 51, 52, 53, 54, 55, 56, 57] : List UInt8).length) ∧ (([48, 49, 50, 51, 52, 53, 54, 55, 56, 57] : List UInt8).drop d.toNat).take ((d + 1).toNat - d.toNat) = [UInt8.ofNat (48 + d.toNat)] := by
  have e : (d + 1).toNat = d.toNat + 1 := by
    rw [UInt64.toNat_add]
    have : (1 : UInt64).toNat = 1 := rfl
    omega
  rw [e]
  generalize d.toNat = n at *
  refine ⟨⟨by omega, by simp; omega⟩, ?_⟩
  rw [show n + 1 - n = 1 by omega]
  have : ∀ n, n < 10 → (([48, 49, 50, 51, 52, 53, 54, 55, 56, 57] : List UInt8).drop n).take 1 = [UInt8.ofNat (48 + n)] := by decide +kernel
  exact this n h
theorem dec_loop (k : Nat) : ∀ (n m : Nat) (u : UInt64) (acc : List UInt8), n < m → u.toNat < 10 ^ n → acc.length + n ≤ 1000000 → ∃ d acc', actorgridref36_Decimal_loop2 k m u acc = some (d, acc') ∧ d.toNat < 10 ∧ UInt8.ofNat (48 + d.toNat) :: acc' = Lib.decDigits u.toNat ++ acc ∧ acc'.length ≤ acc.length + n := by
  intro n
  induction n with
  | zero =>
    intro m u acc hm h ha
    obtain ⟨m, rfl⟩ : ∃ q, m = q + 1 := ⟨m - 1, by omega⟩
    rw [actorgridref36_Decimal_loop2, decide_eq_false (by omega), cond_false]
    exact ⟨u, acc, rfl, by omega, by rw [decDigits_rec, if_pos (by omega)]; rfl, by omega⟩
  | succ n ih =>
    intro m u acc hm h ha
    obtain ⟨m, rfl⟩ : ∃ q, m = q + 1 := ⟨m - 1, by omega⟩
    rw [actorgridref36_Decimal_loop2]
    by_cases h1 : u.toNat < 10
    · rw [decide_eq_false (by omega), cond_false]
      exact ⟨u, acc, rfl, h1, by rw [decDigits_rec, if_pos h1]; rfl, by omega⟩
    · have e10 : (10 : UInt64).toNat = 10 := rfl
      have hm' : (u % 10).toNat = u.toNat % 10 := by rw [UInt64.toNat_mod, e10]
      have hd : (u / 10).toNat = u.toNat / 10 := by rw [UInt64.toNat_div, e10]
      obtain ⟨h2, h3⟩ := dig_cut (u % 10) (by omega)
      rw [decide_eq_true (by omega), cond_true, ifp_pos h2, h3, ifp_pos (by simp; omega)]
      have hp : (10 : Nat) ^ (n + 1) = 10 * 10 ^ n := by rw [Nat.pow_succ]; omega
      obtain ⟨d, acc', e1, e2, e3, e4⟩ := ih m (u / 10) ([UInt8.ofNat (48 + (u % 10).toNat)] ++ acc) (by omega) (by omega) (by simp; omega)
      refine ⟨d, acc', e1, e2, ?_, by simp at e4; omega⟩
      rw [e3, hd, decDigits_rec u.toNat, if_neg h1, hm', List.append_assoc]
theorem ofInt_nat64 (i : Int) : (UInt64.ofInt i).toNat = (i % 18446744073709551616).toNat := by
  unfold UInt64.ofInt
  rw [UInt64.toNat_ofNat']
  omega
theorem decimal_eq (k : Nat) (u : Nat) (h : u < 10 ^ 15) (hk : 16 ≤ k) : actorgridref36_Decimal k (u : Int) = some (Lib.decDigits u) := by
  unfold actorgridref36_Decimal
  have hp3 : (10 : Nat) ^ 15 = 1000000000000000 := by decide
  have hu : (UInt64.ofInt (u : Int)).toNat = u := by
    rw [ofInt_nat64]; omega
  obtain ⟨d, acc, e1, e2, e3, e4⟩ := dec_loop k 15 k (UInt64.ofInt (u : Int)) [] (by omega) (by omega) (by simp)
  obtain ⟨h2, h3⟩ := dig_cut d e2
  rw [decide_eq_false (by omega), cond_false, e1, bind_e rfl]
  show Md.ifp (d.toNat ≤ _ ∧ _) _ = _
  rw [ifp_pos h2]
  show Md.ifp ((List.take _ _).length + acc.length ≤ _) _ = _
  rw [h3, ifp_pos (by simp at e4 ⊢; omega)]
  show some ([UInt8.ofNat (48 + d.toNat)] ++ acc) = _
  rw [hu, List.append_nil] at e3
  rw [← e3]; rfl
end Md
end Go.Proofs.YtjpiiejdaiaocaaDoor
