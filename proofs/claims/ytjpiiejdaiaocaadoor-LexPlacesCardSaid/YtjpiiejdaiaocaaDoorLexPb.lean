/-
  Layer 17 in plain words: quoted strings, written and read. Conditions: sizes.
-/
import Derived.Test.YtjpiiejdaiaocaaDoorLexPa
namespace Go.Proofs.YtjpiiejdaiaocaaDoor
set_option linter.unusedVariables false
set_option linter.unusedSimpArgs false
set_option maxRecDepth 10000
namespace Md
def hexs : List UInt8 := [48, 49, 50, 51, 52, 53, 54, 55, 56, 57, 97, 98, 99, 100, 101, 102]
def hexd (i : Nat) : UInt8 := hexs.getD i 0
def qc (c : UInt8) : List UInt8 := if c.toNat = 34 ∨ c.toNat = 92 then [92, c] else if plB c = true then [c] else [92, 120, hexd (c.toNat / 16), hexd (c.toNat % 16)]
theorem qc_len (c : UInt8) : (qc c).length ≤ 4 := by
  unfold qc
  split
  · simp
  · split <;> simp
def quoteL (s : List UInt8) : List UInt8 := 34 :: (s.flatMap qc ++ [34])
theorem flat_len (s : List UInt8) : (s.flatMap qc).length ≤ 4 * s.length := by
  induction s with
  | nil => simp
  | cons c r ih => have := qc_len c; rw [List.flatMap_cons, List.length_append, List.length_cons]; omega
theorem nibs (c : UInt8) : (Md.shr8 c 4).toNat = c.toNat / 16 ∧ (c &&& (15 : UInt8)).toNat = c.toNat % 16 ∧ (c / (16 : UInt8)).toNat = c.toNat / 16 ∧ (c % (16 : UInt8)).toNat = c.toNat % 16 := u8_all (P := fun c => (Md.shr8 c 4).toNat = c.toNat / 16 ∧ (c &&& (15 : UInt8)).toNat = c.toNat % 16 ∧ (c / (16 : UInt8)).toNat = c.toNat / 16 ∧ (c % (16 : UInt8)).toNat = c.toNat % 16) (by decide +kernel) c
theorem esc_or (c : UInt8) : (((c.toNat : Int) == 34) || ((c.toNat : Int) == 92)) = decide (c.toNat = 34 ∨ c.toNat = 92) := by
  rw [Bool.eq_iff_iff]; simp; omega
theorem plN (c : UInt8) : ((decide ((c.toNat : Int) ≥ 32)) && (decide ((c.toNat : Int) ≤ 126))) = plB c := by
  unfold plB
  rw [Bool.eq_iff_iff]; simp; omega
theorem pl_cases (c : UInt8) : (isPl c = true ∧ ¬ (c.toNat = 34 ∨ c.toNat = 92) ∧ plB c = true) ∨ (isPl c = false ∧ (c.toNat = 34 ∨ c.toNat = 92)) ∨ (isPl c = false ∧ ¬ (c.toNat = 34 ∨ c.toNat = 92) ∧ plB c = false) := by
  unfold isPl
  by_cases h : c.toNat = 34 ∨ c.toNat = 92
  · refine Or.inr (Or.inl ⟨?_, h⟩)
    rcases h with h | h
    · rw [decide_eq_false (p := c.toNat ≠ 34) (by omega), Bool.and_false, Bool.false_and]
    · rw [decide_eq_false (p := c.toNat ≠ 92) (by omega), Bool.and_false]
  · have e1 : decide (c.toNat ≠ 34) = true := decide_eq_true (by omega)
    have e2 : decide (c.toNat ≠ 92) = true := decide_eq_true (by omega)
    rw [e1, e2, Bool.and_true, Bool.and_true]
    cases hp : plB c with
    | true => exact Or.inl ⟨rfl, h, rfl⟩
    | false => exact Or.inr (Or.inr ⟨rfl, h, rfl⟩)
theorem quote_loop (k : Nat) (a0 : List UInt8) (hl : a0.length ≤ 4000000) : ∀ n j out, a0.length - j < n → j ≤ a0.length → out.length + 4 * (a0.length - j) ≤ 4000000 → lexer_Quote_loop1 k a0 n j out = some (out ++ (a0.drop j).flatMap qc) := by
  intro n
  induction n with
  | zero => intro j out h; omega
  | succ n ih =>
    intro j out h hj0 ho
    rw [lexer_Quote_loop1]
    by_cases hj : j < a0.length
    · rw [decide_eq_true (by omega), cond_true, ifp_pos hj, drop_cons hj, List.flatMap_cons, esc_or, plain_eq, bind_e rfl]
      have key : ∀ w : List UInt8, w = qc (a0.getD j 0) → (Option.bind (some (out ++ w)) fun x => Md.ifp (j + 1 ≤ 9223372036854775807) <| lexer_Quote_loop1 k a0 n (j + 1) x) = some (out ++ (qc (a0.getD j 0) ++ (a0.drop (j + 1)).flatMap qc)) := by
        rintro w rfl
        have := qc_len (a0.getD j 0)
        rw [bind_e rfl, ifp_pos (by omega), ih (j + 1) _ (by omega) (by omega) (by rw [List.length_append]; omega), List.append_assoc]
      generalize hc : a0.getD j 0 = c at *
      rcases pl_cases c with ⟨h0, h1, h2⟩ | ⟨h0, h1⟩ | ⟨h0, h1, h2⟩
      · rw [h0, cond_true, ifp_pos (by simp; omega)]
        exact key _ (by unfold qc; rw [if_neg h1, if_pos h2])
      · rw [h0, cond_false, decide_eq_true h1, cond_true, ifp_pos (by simp; omega)]
        exact key _ (by unfold qc; rw [if_pos h1])
      · obtain ⟨e1, e2, _, _⟩ := nibs c
        have := c.toNat_lt
        rw [h0, cond_false, decide_eq_false h1, cond_false, e1, e2, ifp_pos (by simp; omega), ifp_pos (by simp; omega), ifp_pos (by simp; omega)]
        exact key _ (by unfold qc; rw [if_neg h1, h2, if_neg (by decide)]; rfl)
    · rw [decide_eq_false (by omega), cond_false, drop_none hj]; simp
theorem quoteR_loop (k : Nat) (a0 : List UInt8) (hl : a0.length ≤ 4000000) : ∀ n j out, a0.length - j < n → j ≤ a0.length → out.length + 4 * (a0.length - j) ≤ 4000000 → actorgridref17_Quote_loop1 k a0 n j out = some (out ++ (a0.drop j).flatMap qc) := by
  intro n
  induction n with
  | zero => intro j out h; omega
  | succ n ih =>
    intro j out h hj0 ho
    rw [actorgridref17_Quote_loop1]
    by_cases hj : j < a0.length
    · rw [decide_eq_true (by omega), cond_true, ifp_pos hj, drop_cons hj, List.flatMap_cons, esc_or, plN]
      have key : ∀ w : List UInt8, w = qc (a0.getD j 0) → (Option.bind (some (out ++ w)) fun x => Md.ifp (j + 1 ≤ 9223372036854775807) <| actorgridref17_Quote_loop1 k a0 n (j + 1) x) = some (out ++ (qc (a0.getD j 0) ++ (a0.drop (j + 1)).flatMap qc)) := by
        rintro w rfl
        have := qc_len (a0.getD j 0)
        rw [bind_e rfl, ifp_pos (by omega), ih (j + 1) _ (by omega) (by omega) (by rw [List.length_append]; omega), List.append_assoc]
      generalize hc : a0.getD j 0 = c at *
      by_cases h1 : c.toNat = 34 ∨ c.toNat = 92
      · rw [decide_eq_true h1, cond_true, ifp_pos (by simp; omega)]
        exact key _ (by unfold qc; rw [if_pos h1])
      · rw [decide_eq_false h1, cond_false]
        cases h2 : plB c with
        | true =>
          rw [cond_true, ifp_pos (by simp; omega)]
          exact key _ (by unfold qc; rw [if_neg h1, if_pos h2])
        | false =>
          obtain ⟨_, _, e1, e2⟩ := nibs c
          have := c.toNat_lt
          rw [cond_false, e1, e2, ifp_pos (by simp; omega), ifp_pos (by simp; omega), ifp_pos (by simp; omega)]
          exact key _ (by unfold qc; rw [if_neg h1, h2, if_neg (by decide)]; rfl)
    · rw [decide_eq_false (by omega), cond_false, drop_none hj]; simp
theorem quote_eq (k : Nat) (s : List UInt8) (hl : s.length ≤ 900000) (hk : s.length < k) : lexer_Quote k s = some (quoteL s) ∧ actorgridref17_Quote k s = some (quoteL s) := by
  have := flat_len s
  unfold lexer_Quote actorgridref17_Quote quoteL
  rw [quote_loop k s (by omega) k 0 _ (by omega) (by omega) (by simp; omega), quoteR_loop k s (by omega) k 0 _ (by omega) (by omega) (by simp; omega), bind_e rfl, List.drop_zero, ifp_pos (by rw [List.length_append]; simp only [List.length_cons, List.length_nil]; omega)]
  exact ⟨rfl, rfl⟩
/-! ### escapes -/
def nib (c : UInt8) : Int := if isD c = true then (((c - (48 : UInt8)).toNat : Nat) : Int) else if 97 ≤ c.toNat ∧ c.toNat ≤ 102 then ((((c - (97 : UInt8)).toNat + 10) : Nat) : Int) else -1
theorem nib_eq (k : Nat) (c : UInt8) : lexer_nibble k c = some (nib c) ∧ actorgridref17_hex k c = some (nib c) := by
  have h := (c - (97 : UInt8)).toNat_lt
  unfold lexer_nibble actorgridref17_hex nib
  rw [(digit_eq k c).1, (digit_eq k c).2, bind_e rfl]
  cases isD c with
  | true => exact ⟨rfl, rfl⟩
  | false =>
    rw [cond_false, if_neg Bool.false_ne_true, ifp_pos (by omega)]
    have e : ((decide ((c.toNat : Int) ≥ 97)) && (decide ((c.toNat : Int) ≤ 102))) = decide (97 ≤ c.toNat ∧ c.toNat ≤ 102) := by
      rw [Bool.eq_iff_iff]; simp; omega
    rw [e]
    by_cases h1 : 97 ≤ c.toNat ∧ c.toNat ≤ 102
    · rw [decide_eq_true h1, if_pos h1]; exact ⟨rfl, rfl⟩
    · rw [decide_eq_false h1, if_neg h1]; exact ⟨rfl, rfl⟩
theorem nib_lt (c : UInt8) : nib c < 16 := u8_all (P := fun c => nib c < 16) (by decide +kernel) c
def hexT (x y : UInt8) : UInt8 := UInt8.ofNat (16 * (nib x).toNat + (nib y).toNat)
theorem hexT_eq {x y : UInt8} (hx : 0 ≤ nib x) (hy : 0 ≤ nib y) : UInt8.ofInt (Md.ior (Md.ishl (nib x) 4) (nib y)) = hexT x y ∧ UInt8.ofInt (Md.W ((Md.W (16 * nib x)) + nib y)) = hexT x y := by
  have h : ∀ x : Nat, x < 16 → ∀ y : Nat, y < 16 → UInt8.ofInt (Md.ior (Md.ishl (x : Int) 4) (y : Int)) = UInt8.ofNat (16 * x + y) ∧ UInt8.ofInt (Md.W ((Md.W (16 * (x : Int))) + (y : Int))) = UInt8.ofNat (16 * x + y) := by decide +kernel
  have h1 := nib_lt x; have h2 := nib_lt y
  have := h (nib x).toNat (by omega) (nib y).toNat (by omega)
  rw [Int.toNat_of_nonneg hx, Int.toNat_of_nonneg hy] at this
  exact this
def escT (s : List UInt8) : UInt8 × Nat :=
  if 2 ≤ s.length ∧ ((s.getD 1 0).toNat = 34 ∨ (s.getD 1 0).toNat = 92) then (s.getD 1 0, 2)
  else if 4 ≤ s.length ∧ (s.getD 1 0).toNat = 120 ∧ 0 ≤ nib (s.getD 2 0) ∧ 0 ≤ nib (s.getD 3 0) then (hexT (s.getD 2 0) (s.getD 3 0), 4)
  else (0, 0)
theorem escape_eq (k : Nat) (s : List UInt8) : lexer_escape k s = some ((escT s).1, (((escT s).2 : Nat) : Int)) := by
  unfold lexer_escape escT
  have A : ((bif (decide (((s.length : Nat) : Int) ≥ 2)) then (Md.ifp (1 < s.length) <| ((bif ((((s.getD 1 0)).toNat : Int) == 34) then (some true) else (Md.ifp (1 < s.length) <| some ((((s.getD 1 0)).toNat : Int) == 92))) : Option Bool).bind fun x18 => some x18) else (some false)) : Option Bool) = some (decide (2 ≤ s.length ∧ ((s.getD 1 0).toNat = 34 ∨ (s.getD 1 0).toNat = 92))) := by
    by_cases h2 : 2 ≤ s.length
    · rw [decide_eq_true (by omega), cond_true, ifp_pos (by omega), ifp_pos (by omega)]
      by_cases h3 : (s.getD 1 0).toNat = 34
      · rw [ib_t (by omega), decide_eq_true ⟨h2, Or.inl h3⟩]; rfl
      · rw [ib_f (by omega), cond_false, bind_e rfl]
        by_cases h4 : (s.getD 1 0).toNat = 92
        · rw [ib_t (by omega), decide_eq_true ⟨h2, Or.inr h4⟩]
        · rw [ib_f (by omega), decide_eq_false (by omega)]
    · rw [decide_eq_false (by omega), decide_eq_false (by omega)]; rfl
  rw [A, bind_e rfl]
  by_cases h1 : 2 ≤ s.length ∧ ((s.getD 1 0).toNat = 34 ∨ (s.getD 1 0).toNat = 92)
  · rw [decide_eq_true h1, if_pos h1, cond_true, ifp_pos (by omega)]; rfl
  · rw [decide_eq_false h1, if_neg h1, cond_false]
    by_cases h2 : 4 ≤ s.length
    · rw [decide_eq_false (by omega), cond_false, ifp_pos (by omega), bind_e rfl]
      by_cases h3 : (s.getD 1 0).toNat = 120
      · rw [nb_f (by omega), cond_false, ifp_pos (by omega), (nib_eq k _).1, bind_e rfl, bind_e rfl]
        by_cases h4 : 0 ≤ nib (s.getD 2 0)
        · rw [decide_eq_false (by omega), cond_false, ifp_pos (by omega), (nib_eq k _).1, bind_e rfl, bind_e rfl]
          by_cases h5 : 0 ≤ nib (s.getD 3 0)
          · rw [decide_eq_false (by omega), cond_false, ifp_pos (by omega), bind_e rfl, ifp_pos (by omega), bind_e rfl, (hexT_eq h4 h5).1, if_pos ⟨h2, h3, h4, h5⟩]; rfl
          · rw [decide_eq_true (by omega), cond_true, if_neg (fun h => h5 h.2.2.2)]; rfl
        · rw [decide_eq_true (by omega), cond_true, bind_e rfl, cond_true, if_neg (fun h => h4 h.2.2.1)]; rfl
      · rw [nb_t (by omega), cond_true, bind_e rfl, cond_true, bind_e rfl, cond_true, if_neg (fun h => h3 h.2.1)]; rfl
    · rw [decide_eq_true (by omega), cond_true, bind_e rfl, cond_true, bind_e rfl, cond_true, bind_e rfl, cond_true, if_neg (fun h => h2 h.1)]; rfl
theorem escT_le (s : List UInt8) : ((escT s).2 = 0 ∨ (escT s).2 = 2 ∨ (escT s).2 = 4) ∧ (escT s).2 ≤ s.length := by
  unfold escT
  split
  · rename_i h; exact ⟨Or.inr (Or.inl rfl), h.1⟩
  · split
    · rename_i h; exact ⟨Or.inr (Or.inr rfl), h.1⟩
    · exact ⟨Or.inl rfl, Nat.zero_le _⟩
/-! ### texts -/
def txW (s : List UInt8) : Option (List UInt8 × Nat) :=
  match s with
  | [] => none
  | c :: r =>
    if isPl c = true then (txW r).map (fun x => (c :: x.1, x.2 + 1))
    else if c.toNat = 34 then some ([], 1)
    else if c.toNat = 92 then (if (escT (c :: r)).2 = 0 then none else (txW (r.drop ((escT (c :: r)).2 - 1))).map (fun x => ((escT (c :: r)).1 :: x.1, x.2 + (escT (c :: r)).2)))
    else none
  termination_by s.length
  decreasing_by all_goals (simp only [List.length_cons, List.length_drop]; omega)
def txR (o : Option (List UInt8 × Nat)) (j : Nat) (out : List UInt8) : Token × Int × Int :=
  match o with
  | none => (zt, 0, 13)
  | some x => if (out ++ x.1).length > 64 then (zt, 0, 5) else (⟨4, out ++ x.1, 0, 0⟩, ((j + x.2 : Nat) : Int), 0)
theorem txR_step (o : Option (List UInt8 × Nat)) (b : UInt8) (sz j : Nat) (out : List UInt8) : txR (o.map (fun x => (b :: x.1, x.2 + sz))) j out = txR o (j + sz) (out ++ [b]) := by
  cases o with
  | none => rfl
  | some x =>
    unfold txR
    simp only [Option.map_some, List.append_assoc, List.singleton_append]
    rw [show j + (x.2 + sz) = j + sz + x.2 by omega]
def txE (o : Sum Unit (Token × Int × Int)) : Option (Token × Int × Int) := Md.onS o (fun _ => some (zt, 0, 13)) (fun r => some r)
theorem text_loop (k : Nat) (a0 : List UInt8) (hl : a0.length ≤ 2000000) : ∀ n (j : Nat) out, a0.length - j < n → j ≤ a0.length → out.length + (a0.length - j) ≤ 4000000 → (lexer_text_loop1 k a0 n (j : Int) out).bind txE = some (txR (txW (a0.drop j)) j out) := by
  intro n
  induction n with
  | zero => intro j out h; omega
  | succ n ih =>
    intro j out h hj0 ho
    rw [lexer_text_loop1]
    by_cases hj : j < a0.length
    · rw [decide_eq_true (by omega), cond_true, ifp_pos (by omega), Int.toNat_natCast, plain_eq, bind_e rfl, drop_cons hj, txW]
      have hd : a0.drop j = a0.getD j 0 :: a0.drop (j + 1) := drop_cons hj
      generalize hc : a0.getD j 0 = c at *
      rcases pl_cases c with ⟨h0, h1, h2⟩ | ⟨h0, h1⟩ | ⟨h0, h1, h2⟩
      · rw [h0, cond_true, if_pos rfl, ifp_pos (by simp; omega), W1 (by omega), ih (j + 1) _ (by omega) (by omega) (by rw [List.length_append, List.length_singleton]; omega), txR_step]
      · rw [h0, cond_false, if_neg Bool.false_ne_true]
        by_cases h3 : c.toNat = 34
        · rw [ib_t (by omega), cond_true, if_pos h3]
          have e : txR (some (([] : List UInt8), 1)) j out = if out.length > 64 then (zt, 0, 5) else (⟨4, out, 0, 0⟩, ((j + 1 : Nat) : Int), 0) := by
            show (if (out ++ []).length > 64 then (zt, 0, 5) else ((⟨4, out ++ [], 0, 0⟩ : Token), ((j + 1 : Nat) : Int), (0 : Int))) = _
            rw [List.append_nil]
          rw [e]
          by_cases h4 : out.length > 64
          · rw [decide_eq_true (by omega), if_pos h4]; rfl
          · rw [decide_eq_false (by omega), if_neg h4, W1 (by omega)]; rfl
        · have h92 : c.toNat = 92 := by omega
          rw [ib_f (by omega), cond_false, if_neg h3, if_pos h92, ib_t (by omega), cond_true, ifp_pos (by omega), ifp_pos (by omega), escape_eq, bind_e rfl]
          obtain ⟨g1, g2⟩ := escT_le (c :: a0.drop (j + 1))
          rw [List.length_cons, List.length_drop] at g2
          generalize escT (c :: a0.drop (j + 1)) = e at *
          by_cases h4 : e.2 = 0
          · rw [if_pos h4]
            show (bif (((e.2 : Nat) : Int) == 0) then _ else _ : Option _).bind txE = _
            rw [ib_t (by omega)]; rfl
          · rw [if_neg h4]
            show (bif (((e.2 : Nat) : Int) == 0) then _ else (Md.ifp (out.length + [e.1].length ≤ 4000000) <| lexer_text_loop1 k a0 n (Md.W ((j : Int) + ((e.2 : Nat) : Int))) (out ++ [e.1])) : Option _).bind txE = _
            rw [ib_f (by omega), cond_false, ifp_pos (by simp; omega), Wn (by omega), ih (j + e.2) _ (by omega) (by omega) (by rw [List.length_append, List.length_singleton]; omega), txR_step, List.drop_drop, show j + 1 + (e.2 - 1) = j + e.2 by omega]
      · rw [h0, cond_false, ib_f (by omega), cond_false, ib_f (by omega), cond_false, if_neg Bool.false_ne_true, if_neg (by omega), if_neg (by omega)]
        rfl
    · rw [decide_eq_false (by omega), cond_false, drop_none hj, txW]; rfl
theorem text_eq (k : Nat) (c : UInt8) (r : List UInt8) (hl : (c :: r).length ≤ 2000000) (hk : (c :: r).length < k) : lexer_text k (c :: r) = some (txR (txW r) 1 []) := by
  have h := text_loop k (c :: r) hl k 1 [] (by omega) (by rw [List.length_cons]; omega) (by simp at hl ⊢; omega)
  exact h
def txE2 (o : Sum Unit (List UInt8 × Int × Bool)) : Option (List UInt8 × Int × Bool) := Md.onS o (fun _ => some ([], 0, false)) (fun r => some r)
def txR2 (o : Option (List UInt8 × Nat)) (j : Nat) (out : List UInt8) : List UInt8 × Int × Bool :=
  match o with
  | none => ([], 0, false)
  | some x => (out ++ x.1, ((j + x.2 : Nat) : Int), true)
theorem txR2_step (o : Option (List UInt8 × Nat)) (b : UInt8) (sz j : Nat) (out : List UInt8) : txR2 (o.map (fun x => (b :: x.1, x.2 + sz))) j out = txR2 o (j + sz) (out ++ [b]) := by
  cases o with
  | none => rfl
  | some x =>
    unfold txR2
    simp only [Option.map_some, List.append_assoc, List.singleton_append]
    rw [show j + (x.2 + sz) = j + sz + x.2 by omega]
theorem tx_ne (b : UInt8) (n : Nat) (h : n ≠ 0) {α : Type} {x y : α} : (if ((b, n) : UInt8 × Nat).2 = 0 then x else y) = y := if_neg h
theorem textR_loop (k : Nat) (a0 : List UInt8) (hl : a0.length ≤ 2000000) : ∀ n (j : Nat) out, a0.length - j < n → j ≤ a0.length → out.length + (a0.length - j) ≤ 4000000 → (actorgridref17_text_loop1 k a0 n (j : Int) out).bind txE2 = some (txR2 (txW (a0.drop j)) j out) := by
  intro n
  induction n with
  | zero => intro j out h; omega
  | succ n ih =>
    intro j out h hj0 ho
    rw [actorgridref17_text_loop1]
    by_cases hj : j < a0.length
    · rw [decide_eq_true (by omega), cond_true, ifp_pos (by omega), W1 (by omega), W2 (by omega), W3 (by omega), Int.toNat_natCast, Int.toNat_natCast, Int.toNat_natCast, Int.toNat_natCast]
      rw [drop_cons hj, txW]
      have g1 : ∀ i, (a0.getD j 0 :: a0.drop (j + 1)).getD i 0 = a0.getD (j + i) 0 := fun i => by rw [← drop_cons hj, getD_drop]
      have hlen : (a0.getD j 0 :: a0.drop (j + 1)).length = a0.length - j := by rw [← drop_cons hj, List.length_drop]
      have key : ∀ (b : UInt8) (sz : Nat), 1 ≤ sz → j + sz ≤ a0.length → (Option.bind (some (Sum.inl ((((j + sz - 1 : Nat) : Int)), out ++ [b]) : Sum (Int × List UInt8) (List UInt8 × Int × Bool))) fun o3 => Md.onS o3 (fun x3_0 => actorgridref17_text_loop1 k a0 n (Md.W (x3_0.1 + 1)) x3_0.2) (fun r3 => some (Sum.inr r3))).bind txE2 = some (txR2 ((txW (a0.drop (j + sz))).map (fun x => (b :: x.1, x.2 + sz))) j out) := by
        intro b sz hs1 hs2
        show (actorgridref17_text_loop1 k a0 n (Md.W (((j + sz - 1 : Nat) : Int) + 1)) (out ++ [b])).bind txE2 = _
        rw [W1 (by omega), show j + sz - 1 + 1 = j + sz by omega, ih (j + sz) _ (by omega) (by omega) (by rw [List.length_append, List.length_singleton]; omega), txR2_step]
      have hE : escT (a0.getD j 0 :: a0.drop (j + 1)) = if j + 1 < a0.length ∧ ((a0.getD (j + 1) 0).toNat = 34 ∨ (a0.getD (j + 1) 0).toNat = 92) then (a0.getD (j + 1) 0, 2) else if j + 3 < a0.length ∧ (a0.getD (j + 1) 0).toNat = 120 ∧ 0 ≤ nib (a0.getD (j + 2) 0) ∧ 0 ≤ nib (a0.getD (j + 3) 0) then (hexT (a0.getD (j + 2) 0) (a0.getD (j + 3) 0), 4) else (0, 0) := by
        unfold escT
        rw [hlen, g1, g1, g1]
        have p : (2 ≤ a0.length - j) = (j + 1 < a0.length) := propext (by omega)
        have q : (4 ≤ a0.length - j) = (j + 3 < a0.length) := propext (by omega)
        simp only [p, q]
      generalize hc : a0.getD j 0 = c at *
      by_cases h34 : c.toNat = 34
      · have hp : isPl c = false := by rcases pl_cases c with ⟨h0, h1, h2⟩ | ⟨h0, h1⟩ | ⟨h0, h1, h2⟩ <;> first | exact h0 | omega
        rw [ib_t (by omega), cond_true, hp, if_neg Bool.false_ne_true, if_pos h34]
        show some (out, ((j + 1 : Nat) : Int), true) = some (out ++ [], ((j + 1 : Nat) : Int), true)
        rw [List.append_nil]
      · rw [ib_f (by omega), cond_false]
        by_cases h92 : c.toNat = 92
        · have hp : isPl c = false := by rcases pl_cases c with ⟨h0, h1, h2⟩ | ⟨h0, h1⟩ | ⟨h0, h1, h2⟩ <;> first | exact h0 | omega
          rw [hp, if_neg Bool.false_ne_true, if_neg h34, if_pos h92, ib_t (by omega), Bool.true_and, Bool.true_and, Bool.true_or, Bool.true_or]
          have A : ((bif (decide (((j + 1 : Nat) : Int) < ((a0.length : Nat) : Int))) then (Md.ifp (0 ≤ ((j + 1 : Nat) : Int) ∧ ((j + 1 : Nat) : Int) < ((a0.length : Nat) : Int)) <| ((bif ((((a0.getD (j + 1) 0)).toNat : Int) == 34) then (some true) else (Md.ifp (0 ≤ ((j + 1 : Nat) : Int) ∧ ((j + 1 : Nat) : Int) < ((a0.length : Nat) : Int)) <| some ((((a0.getD (j + 1) 0)).toNat : Int) == 92))) : Option Bool).bind fun x31 => some x31) else (some false)) : Option Bool) = some (decide (j + 1 < a0.length ∧ ((a0.getD (j + 1) 0).toNat = 34 ∨ (a0.getD (j + 1) 0).toNat = 92))) := by
            by_cases h2 : j + 1 < a0.length
            · rw [decide_eq_true (by omega), cond_true, ifp_pos (by omega), ifp_pos (by omega)]
              by_cases h3 : (a0.getD (j + 1) 0).toNat = 34
              · rw [ib_t (by omega), decide_eq_true ⟨h2, Or.inl h3⟩]; rfl
              · rw [ib_f (by omega), cond_false, bind_e rfl]
                by_cases h4 : (a0.getD (j + 1) 0).toNat = 92
                · rw [ib_t (by omega), decide_eq_true ⟨h2, Or.inr h4⟩]
                · rw [ib_f (by omega), decide_eq_false (by omega)]
            · rw [decide_eq_false (by omega), decide_eq_false (by omega)]; rfl
          rw [A, bind_e rfl]
          by_cases h1 : j + 1 < a0.length ∧ ((a0.getD (j + 1) 0).toNat = 34 ∨ (a0.getD (j + 1) 0).toNat = 92)
          · rw [hE.trans (if_pos h1), tx_ne _ _ (by decide), decide_eq_true h1, cond_true, ifp_pos (by omega), ifp_pos (by simp; omega)]
            refine (key (a0.getD (j + 1) 0) 2 (by omega) (by omega)).trans ?_
            rw [List.drop_drop]
            rfl
          · rw [decide_eq_false h1, cond_false]
            by_cases h2 : j + 3 < a0.length
            · rw [decide_eq_true (by omega), cond_true, ifp_pos (by omega), bind_e rfl]
              by_cases h3 : (a0.getD (j + 1) 0).toNat = 120
              · rw [ib_t (by omega), cond_true, ifp_pos (by omega), (nib_eq k _).2, bind_e rfl, bind_e rfl]
                by_cases h4 : 0 ≤ nib (a0.getD (j + 2) 0)
                · rw [decide_eq_true (by omega), cond_true, ifp_pos (by omega), (nib_eq k _).2, bind_e rfl, bind_e rfl]
                  by_cases h5 : 0 ≤ nib (a0.getD (j + 3) 0)
                  · rw [decide_eq_true (by omega), cond_true, ifp_pos (by omega), bind_e rfl, ifp_pos (by omega), bind_e rfl, (hexT_eq h4 h5).2, (hE.trans (if_neg h1)).trans (if_pos ⟨h2, h3, h4, h5⟩), tx_ne _ _ (by decide), ifp_pos (by simp; omega)]
                    refine (key (hexT (a0.getD (j + 2) 0) (a0.getD (j + 3) 0)) 4 (by omega) (by omega)).trans ?_
                    rw [List.drop_drop]
                    rfl
                  · rw [decide_eq_false (by omega), cond_false, cond_true, (hE.trans (if_neg h1)).trans (if_neg (fun h => h5 h.2.2.2)), if_pos rfl]; rfl
                · rw [decide_eq_false (by omega), cond_false, bind_e rfl, cond_false, cond_true, (hE.trans (if_neg h1)).trans (if_neg (fun h => h4 h.2.2.1)), if_pos rfl]; rfl
              · rw [ib_f (by omega), cond_false, bind_e rfl, cond_false, bind_e rfl, cond_false, cond_true, (hE.trans (if_neg h1)).trans (if_neg (fun h => h3 h.2.1)), if_pos rfl]; rfl
            · rw [decide_eq_false (by omega), cond_false, bind_e rfl, cond_false, bind_e rfl, cond_false, bind_e rfl, cond_false, cond_true, (hE.trans (if_neg h1)).trans (if_neg (fun h => h2 h.1)), if_pos rfl]; rfl
        · rw [ib_f (by omega), Bool.false_and, Bool.false_and, cond_false, bind_e rfl, cond_false, cond_false, bind_e rfl, cond_false, bind_e rfl, cond_false, bind_e rfl, cond_false, Bool.false_or]
          have e : ((decide ((c.toNat : Int) < 32)) || (decide ((c.toNat : Int) > 126))) = !plB c := by
            unfold plB
            rw [Bool.eq_iff_iff]; simp; omega
          rw [e]
          rcases pl_cases c with ⟨h0, h1, h2⟩ | ⟨h0, h1⟩ | ⟨h0, h1, h2⟩
          · rw [h0, h2, Bool.not_true, cond_false, if_pos rfl, ifp_pos (by simp; omega)]
            exact key c 1 (by omega) (by omega)
          · omega
          · rw [h0, h2, if_neg Bool.false_ne_true, if_neg h34, if_neg h92]; rfl
    · rw [decide_eq_false (by omega), cond_false, drop_none hj, txW]; rfl
theorem textR_eq (k : Nat) (s : List UInt8) (j : Nat) (hj : j < s.length) (hl : s.length ≤ 2000000) (hk : s.length < k) : actorgridref17_text k s (j : Int) = some (txR2 (txW (s.drop (j + 1))) (j + 1) []) := by
  unfold actorgridref17_text
  rw [W1 (by omega)]
  exact textR_loop k s hl k (j + 1) [] (by omega) (by omega) (by simp; omega)
end Md
end Go.Proofs.YtjpiiejdaiaocaaDoor
