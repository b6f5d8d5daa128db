/-
  Layer 17 in plain words: symbols, tokens, and the tokens of a text. Conditions: sizes.
-/
import Derived.Test.YtjpiiejdaiaocaaDoorLexPb
namespace Go.Proofs.YtjpiiejdaiaocaaDoor
set_option linter.unusedVariables false
set_option linter.unusedSimpArgs false
set_option maxRecDepth 10000
namespace Md
/-! ### symbols -/
def S2 : List (List UInt8) := [[61, 61], [33, 61], [60, 61], [62, 61], [38, 38], [124, 124]]
def pr2 (s : List UInt8) : Bool := S2.any (fun p => Lib.hasPrefix s p)
def sy1 (c : UInt8) : Bool := decide (Lib.indexByte ([123, 125, 40, 41, 91, 93, 44, 59, 58, 46, 61, 60, 62, 43, 45, 42, 47, 37, 33] : List UInt8) c ≥ 0)
theorem sym_loop (k : Nat) (s : List UInt8) (n : Nat) : lexer_symbol_loop1 k s (n + 7) 0 = some (if pr2 s = true then .inr 2 else .inl ()) := by
  have st : ∀ (j m : Nat), j < 6 → lexer_symbol_loop1 k s (m + 1) j = bif Lib.hasPrefix s ((⟨([61, 61] : List UInt8), ([33, 61] : List UInt8), ([60, 61] : List UInt8), ([62, 61] : List UInt8), ([38, 38] : List UInt8), ([124, 124] : List UInt8)⟩ : Arr6Str).get ((j : Nat) : Int)) then (some (Sum.inr 2)) else lexer_symbol_loop1 k s m (j + 1) := by
    intro j m hj
    rw [lexer_symbol_loop1, decide_eq_true (by omega), cond_true, ifp_pos hj]
    refine (bind_e rfl).trans ?_
    rw [ifp_pos (by omega)]
  have e6 : lexer_symbol_loop1 k s (n + 1) 6 = some (.inl ()) := by
    rw [lexer_symbol_loop1, decide_eq_false (by omega), cond_false]
  rw [st 0 (n + 6) (by omega), st 1 (n + 5) (by omega), st 2 (n + 4) (by omega), st 3 (n + 3) (by omega), st 4 (n + 2) (by omega), st 5 (n + 1) (by omega), e6]
  show (bif Lib.hasPrefix s [61, 61] then _ else bif Lib.hasPrefix s [33, 61] then _ else bif Lib.hasPrefix s [60, 61] then _ else bif Lib.hasPrefix s [62, 61] then _ else bif Lib.hasPrefix s [38, 38] then _ else bif Lib.hasPrefix s [124, 124] then _ else _) = some (if (Lib.hasPrefix s [61, 61] || (Lib.hasPrefix s [33, 61] || (Lib.hasPrefix s [60, 61] || (Lib.hasPrefix s [62, 61] || (Lib.hasPrefix s [38, 38] || (Lib.hasPrefix s [124, 124] || false)))))) = true then _ else _)
  generalize Lib.hasPrefix s [61, 61] = b1
  generalize Lib.hasPrefix s [33, 61] = b2
  generalize Lib.hasPrefix s [60, 61] = b3
  generalize Lib.hasPrefix s [62, 61] = b4
  generalize Lib.hasPrefix s [38, 38] = b5
  generalize Lib.hasPrefix s [124, 124] = b6
  cases b1 <;> cases b2 <;> cases b3 <;> cases b4 <;> cases b5 <;> cases b6 <;> rfl
def symL (c : UInt8) (r : List UInt8) : Nat := if pr2 (c :: r) = true then 2 else if sy1 c = true then 1 else 0
theorem symbol_eq (k : Nat) (c : UInt8) (r : List UInt8) (hk : 7 ≤ k) : lexer_symbol k (c :: r) = some ((symL c r : Nat) : Int) := by
  unfold lexer_symbol symL
  obtain ⟨m, hm⟩ : ∃ m, k = m + 7 := ⟨k - 7, by omega⟩
  have e := sym_loop k (c :: r) m
  rw [← hm] at e
  rw [e, bind_e rfl]
  cases pr2 (c :: r) with
  | true => rfl
  | false =>
    show ((((bif (!(decide ((c :: r) = ([] : List UInt8)))) then (Md.ifp (0 < (c :: r).length) <| (strings_IndexByte k _ ((c :: r).getD 0 0)).bind fun x5 => some (decide (x5 ≥ 0))) else (some false)) : Option Bool).bind fun x2 => bif x2 then (some 1) else (some 0)) : Option Int) = _
    rw [show decide ((c :: r) = ([] : List UInt8)) = false from by simp, Bool.not_false, cond_true, ifp_pos (by rw [List.length_cons]; omega), show strings_IndexByte k ([123, 125, 40, 41, 91, 93, 44, 59, 58, 46, 61, 60, 62, 43, 45, 42, 47, 37, 33] : List UInt8) ((c :: r).getD 0 0) = some (Lib.indexByte ([123, 125, 40, 41, 91, 93, 44, 59, 58, 46, 61, 60, 62, 43, 45, 42, 47, 37, 33] : List UInt8) c) from rfl, bind_e rfl, bind_e rfl]
    show (bif sy1 c then (some 1) else (some 0) : Option Int) = _
    cases sy1 c <;> rfl
theorem pr2_two {c : UInt8} {r : List UInt8} (h : pr2 (c :: r) = true) : ∃ d t, r = d :: t := by
  cases r with
  | cons d t => exact ⟨d, t, rfl⟩
  | nil =>
    exfalso
    have e : ∀ x y : UInt8, Lib.hasPrefix [c] [x, y] = false := fun x y => by unfold Lib.hasPrefix; rw [List.isPrefixOf]; exact Bool.and_false _
    unfold pr2 S2 at h
    simp only [List.any_cons, List.any_nil, e] at h
    exact absurd h (by decide)
theorem hp2 (c d : UInt8) (r : List UInt8) (x y : UInt8) : Lib.hasPrefix (c :: d :: r) [x, y] = decide ([c, d] = [x, y]) := by
  unfold Lib.hasPrefix
  rw [List.isPrefixOf, List.isPrefixOf, List.isPrefixOf, Bool.eq_iff_iff]
  simp only [Bool.and_eq_true, beq_iff_eq, decide_eq_true_eq, List.cons.injEq, and_true]
  exact ⟨fun h => ⟨h.1.symm, h.2.symm⟩, fun h => ⟨h.1.symm, h.2.symm⟩⟩
theorem d21 (c d x : UInt8) : decide ([c, d] = [x]) = false := by simp
theorem isSym2 (k : Nat) (c d : UInt8) (r : List UInt8) : actorgridref17_IsSymbol k [c, d] = some (pr2 (c :: d :: r)) := by
  unfold actorgridref17_IsSymbol
  simp only [d21, cond_false]
  simp only [← hp2 c d r]
  show _ = some (Lib.hasPrefix (c :: d :: r) [61, 61] || (Lib.hasPrefix (c :: d :: r) [33, 61] || (Lib.hasPrefix (c :: d :: r) [60, 61] || (Lib.hasPrefix (c :: d :: r) [62, 61] || (Lib.hasPrefix (c :: d :: r) [38, 38] || (Lib.hasPrefix (c :: d :: r) [124, 124] || false))))))
  generalize Lib.hasPrefix (c :: d :: r) [61, 61] = b1
  generalize Lib.hasPrefix (c :: d :: r) [33, 61] = b2
  generalize Lib.hasPrefix (c :: d :: r) [60, 61] = b3
  generalize Lib.hasPrefix (c :: d :: r) [62, 61] = b4
  generalize Lib.hasPrefix (c :: d :: r) [38, 38] = b5
  generalize Lib.hasPrefix (c :: d :: r) [124, 124] = b6
  cases b1 <;> cases b2 <;> cases b3 <;> cases b4 <;> cases b5 <;> cases b6 <;> rfl
theorem isSym1 (k : Nat) (c : UInt8) : actorgridref17_IsSymbol k [c] = some (sy1 c) := u8_all (P := fun c => actorgridref17_IsSymbol 0 [c] = some (sy1 c)) (by decide +kernel) c
/-! ### one token -/
def txT (o : Option (List UInt8 × Nat)) : Token × Nat × Int :=
  match o with
  | none => (zt, 0, 13)
  | some x => if x.1.length > 64 then (zt, 0, 5) else (⟨4, x.1, 0, 0⟩, 1 + x.2, 0)
theorem txT_eq (o : Option (List UInt8 × Nat)) : txR o 1 [] = tI (txT o) := by
  cases o with
  | none => rfl
  | some x =>
    show (if ([] ++ x.1).length > 64 then (zt, 0, 5) else ((⟨4, [] ++ x.1, 0, 0⟩ : Token), ((1 + x.2 : Nat) : Int), (0 : Int))) = tI (if x.1.length > 64 then (zt, 0, 5) else (⟨4, x.1, 0, 0⟩, 1 + x.2, 0))
    rw [List.nil_append]
    split <;> rfl
def wdL (w : List UInt8) : Token × Nat × Int := if w.length > 32 then (zt, 0, 5) else (⟨if kwL w = true then 2 else 1, w, 0, 0⟩, w.length, 0)
def syL (c : UInt8) (r : List UInt8) : Token × Nat × Int := if symL c r = 0 then (zt, 0, 13) else (⟨5, (c :: r).take (symL c r), 0, 0⟩, symL c r, 0)
def tokL (c : UInt8) (r : List UInt8) : Token × Nat × Int :=
  if isL c = true then wdL ((c :: r).takeWhile isW)
  else if isD c = true then numL ((c :: r).takeWhile isD)
  else if c.toNat = 34 then txT (txW r)
  else syL c r
theorem isW_of {c : UInt8} (h : isL c = true) : isW c = true := by unfold isW; rw [h]; rfl
theorem sym_le (c : UInt8) (r : List UInt8) : symL c r ≤ (c :: r).length := by
  unfold symL
  split
  · rename_i h
    obtain ⟨d, t, rfl⟩ := pr2_two h
    simp
  · split <;> simp
theorem token_eq (k : Nat) (c : UInt8) (r : List UInt8) (hl : (c :: r).length ≤ 2000000) (hk : (c :: r).length < k) (hk7 : 7 ≤ k) : lexer_token k (c :: r) = some (tI (tokL c r)) := by
  unfold lexer_token tokL
  rw [word_eq k c r (by omega) hk, bind_e rfl]
  cases hL : isL c with
  | true =>
    rw [cond_true, if_pos rfl]
    have hw : ∃ t, (c :: r).takeWhile isW = c :: t := ⟨_, List.takeWhile_cons_of_pos (isW_of hL)⟩
    have ht := tw_le isW (c :: r)
    have hp : 1 ≤ ((c :: r).takeWhile isW).length := by obtain ⟨t, e⟩ := hw; rw [e, List.length_cons]; omega
    rw [decide_eq_true (by omega), cond_true]
    unfold wdL
    by_cases h32 : ((c :: r).takeWhile isW).length > 32
    · rw [decide_eq_true (by omega), cond_true, if_pos h32]; rfl
    · rw [decide_eq_false (by omega), cond_false, if_neg h32, ifp_pos (by omega), ifp_pos (by omega), Int.toNat_natCast, tw_take, (kw_eq k _).1, bind_e rfl]
      cases kwL ((c :: r).takeWhile isW) with
      | true => rw [cond_true, ifp_pos (by omega), ifp_pos (by omega)]; rfl
      | false => rw [cond_false, ifp_pos (by omega), ifp_pos (by omega)]; rfl
  | false =>
    rw [cond_false, decide_eq_false (by omega), cond_false, if_neg Bool.false_ne_true, ifp_pos (by rw [List.length_cons]; omega), show (c :: r).getD 0 0 = c from rfl, (digit_eq k c).1, bind_e rfl]
    cases hD : isD c with
    | true =>
      rw [cond_true, if_pos rfl, number_eq k c r hD (by omega) hk, bind_e rfl]
    | false =>
      rw [cond_false, if_neg Bool.false_ne_true, ifp_pos (by rw [List.length_cons]; omega)]
      by_cases h34 : c.toNat = 34
      · rw [ib_t (by omega), cond_true, if_pos h34, text_eq k c r hl hk, bind_e rfl, txT_eq]
      · rw [ib_f (by omega), cond_false, if_neg h34, symbol_eq k c r hk7, bind_e rfl]
        have hs := sym_le c r
        unfold syL
        by_cases h0 : symL c r = 0
        · rw [ib_t (by omega), if_pos h0]; rfl
        · rw [ib_f (by omega), if_neg h0, cond_false, ifp_pos (by omega), ifp_pos (by omega), Int.toNat_natCast]; rfl
theorem tx_len (s : List UInt8) : ∀ x, txW s = some x → 1 ≤ x.2 ∧ x.2 ≤ s.length := by
  induction s using txW.induct with
  | case1 => intro x h; rw [txW] at h; cases h
  | case2 c r h ih =>
    intro x hx
    rw [txW, if_pos h] at hx
    cases ht : txW r with
    | none => rw [ht] at hx; cases hx
    | some y =>
      rw [ht] at hx
      obtain rfl : (c :: y.1, y.2 + 1) = x := Option.some.inj hx
      have := ih y ht
      rw [List.length_cons]; show 1 ≤ y.2 + 1 ∧ _; exact ⟨by omega, by show y.2 + 1 ≤ _; omega⟩
  | case3 c r h h2 =>
    intro x hx
    rw [txW, if_neg h, if_pos h2] at hx
    obtain rfl := Option.some.inj hx
    rw [List.length_cons]; exact ⟨Nat.le_refl 1, by show 1 ≤ _; omega⟩
  | case4 c r h h2 h3 h4 =>
    intro x hx
    rw [txW, if_neg h, if_neg h2, if_pos h3, if_pos h4] at hx; cases hx
  | case5 c r h h2 h3 h4 ih =>
    intro x hx
    rw [txW, if_neg h, if_neg h2, if_pos h3, if_neg h4] at hx
    cases ht : txW (r.drop ((escT (c :: r)).2 - 1)) with
    | none => rw [ht] at hx; cases hx
    | some y =>
      rw [ht] at hx
      obtain rfl := Option.some.inj hx
      have h5 := ih y ht
      have h6 := (escT_le (c :: r)).2
      rw [List.length_drop] at h5
      rw [List.length_cons] at h6 ⊢
      exact ⟨by show 1 ≤ y.2 + _; omega, by show y.2 + _ ≤ _; omega⟩
  | case6 c r h h2 h3 =>
    intro x hx
    rw [txW, if_neg h, if_neg h2, if_neg h3] at hx; cases hx
theorem tok_len {c : UInt8} {r : List UInt8} (h : (tokL c r).2.2 = 0) : 1 ≤ (tokL c r).2.1 ∧ (tokL c r).2.1 ≤ (c :: r).length := by
  unfold tokL at h ⊢
  split at h
  · rename_i hL
    rw [if_pos hL]
    obtain ⟨t, e⟩ : ∃ t, (c :: r).takeWhile isW = c :: t := ⟨_, List.takeWhile_cons_of_pos (isW_of hL)⟩
    have ht := tw_le isW (c :: r)
    have hp : 1 ≤ ((c :: r).takeWhile isW).length := by rw [e, List.length_cons]; omega
    unfold wdL at h ⊢
    split at h
    · exact absurd h (by decide)
    · rename_i h2; rw [if_neg h2]; exact ⟨hp, ht⟩
  · rename_i hL
    rw [if_neg hL]
    split at h
    · rename_i hD
      rw [if_pos hD]
      obtain ⟨t, e⟩ : ∃ t, (c :: r).takeWhile isD = c :: t := ⟨_, List.takeWhile_cons_of_pos hD⟩
      have ht := tw_le isD (c :: r)
      have hp : 1 ≤ ((c :: r).takeWhile isD).length := by rw [e, List.length_cons]; omega
      unfold numL at h ⊢
      split at h
      · exact absurd h (by decide)
      · rename_i h2; rw [if_neg h2]; exact ⟨hp, ht⟩
    · rename_i hD
      rw [if_neg hD]
      split at h
      · rename_i h34
        rw [if_pos h34]
        cases ht : txW r with
        | none => rw [ht] at h; exact absurd h (by decide)
        | some x =>
          rw [ht] at h
          have hx := tx_len r x ht
          unfold txT at h ⊢
          dsimp only at h ⊢
          split at h
          · exact absurd h (by decide)
          · rename_i h2; rw [if_neg h2, List.length_cons]; exact ⟨by show 1 ≤ 1 + x.2; omega, by show 1 + x.2 ≤ _; omega⟩
      · rename_i h34
        rw [if_neg h34]
        have hs := sym_le c r
        unfold syL at h ⊢
        split at h
        · exact absurd h (by decide)
        · rename_i h0; rw [if_neg h0]; exact ⟨by show 1 ≤ symL c r; omega, hs⟩
/-! ### the reference's one token -/
theorem nextW_loop (k : Nat) (a0 : List UInt8) (hl : a0.length ≤ 4000000) : ∀ n (j : Nat), a0.length - j < n → actorgridref17_next_loop1 k a0 n (j : Int) = some ((j + ((a0.drop j).takeWhile isW).length : Nat) : Int) := by
  intro n
  induction n with
  | zero => intro j h; omega
  | succ n ih =>
    intro j h
    rw [actorgridref17_next_loop1]
    by_cases hj : j < a0.length
    · rw [decide_eq_true (by omega), cond_true, ifp_pos (by omega), Int.toNat_natCast, (word1_eq k _).2, bind_e rfl, bind_e rfl, drop_cons hj]
      cases hq : isW (a0.getD j 0) with
      | true => rw [cond_true, W1 (by omega), ih (j + 1) (by omega), List.takeWhile_cons_of_pos hq, List.length_cons]; congr 2; omega
      | false => rw [cond_false, List.takeWhile_cons_of_neg (by rw [hq]; exact Bool.false_ne_true)]; rfl
    · rw [decide_eq_false (by omega), cond_false, drop_none hj]; rfl
theorem nextD_loop (k : Nat) (a0 : List UInt8) (hl : a0.length ≤ 4000000) : ∀ n (j : Nat), a0.length - j < n → actorgridref17_next_loop2 k a0 n (j : Int) = some ((j + ((a0.drop j).takeWhile isD).length : Nat) : Int) := by
  intro n
  induction n with
  | zero => intro j h; omega
  | succ n ih =>
    intro j h
    rw [actorgridref17_next_loop2]
    by_cases hj : j < a0.length
    · rw [decide_eq_true (by omega), cond_true, ifp_pos (by omega), Int.toNat_natCast, (digit_eq k _).2, bind_e rfl, bind_e rfl, drop_cons hj]
      cases hq : isD (a0.getD j 0) with
      | true => rw [cond_true, W1 (by omega), ih (j + 1) (by omega), List.takeWhile_cons_of_pos hq, List.length_cons]; congr 2; omega
      | false => rw [cond_false, List.takeWhile_cons_of_neg (by rw [hq]; exact Bool.false_ne_true)]; rfl
    · rw [decide_eq_false (by omega), cond_false, drop_none hj]; rfl
def nxI (t : Token × Nat × Int) (j : Nat) : Token × Int × Int := (if t.2.2 = 0 then ⟨t.1.Kind, t.1.Text, t.1.Num, (j : Int)⟩ else zt, if t.2.2 = 0 then ((j + t.2.1 : Nat) : Int) else 0, t.2.2)
theorem sym3 (k : Nat) (s : List UInt8) (j : Nat) (c : UInt8) (r : List UInt8) (hs : s.drop j = c :: r) (hj : j < s.length) (hl : s.length ≤ 2000000) (n : Nat) : (actorgridref17_next_loop3 k s (j : Int) (n + 3) 2).bind (fun o => Md.onS o (fun _ => some (zt, 0, 13)) (fun r => some r)) = some (nxI (syL c r) j) := by
  have hlen : (c :: r).length = s.length - j := by rw [← hs, List.length_drop]
  rw [List.length_cons] at hlen
  have B : ∀ (d : UInt8) (t : List UInt8), r = d :: t → ((bif (decide (((j + 2 : Nat) : Int) ≤ ((s.length : Nat) : Int))) then (Md.ifp (0 ≤ (j : Int)) <| Md.ifp (0 ≤ ((j + 2 : Nat) : Int)) <| Md.ifp (j ≤ j + 2 ∧ j + 2 ≤ s.length) <| (actorgridref17_IsSymbol k ((c :: r).take (j + 2 - j))).bind fun x46 => some x46) else (some false)) : Option Bool) = some (pr2 (c :: r)) := by
    rintro d t rfl
    rw [List.length_cons] at hlen
    rw [decide_eq_true (by omega), cond_true, ifp_pos (by omega), ifp_pos (by omega), ifp_pos (by omega), show j + 2 - j = 2 by omega, show (c :: d :: t).take 2 = [c, d] from rfl, isSym2 k c d t]; rfl
  have A : ((bif (decide (((j + 2 : Nat) : Int) ≤ ((s.length : Nat) : Int))) then (Md.ifp (0 ≤ (j : Int)) <| Md.ifp (0 ≤ ((j + 2 : Nat) : Int)) <| Md.ifp (j ≤ j + 2 ∧ j + 2 ≤ s.length) <| (actorgridref17_IsSymbol k ((c :: r).take (j + 2 - j))).bind fun x46 => some x46) else (some false)) : Option Bool) = some (pr2 (c :: r)) := by
    cases r with
    | cons d t => exact B d t rfl
    | nil =>
      rw [List.length_nil] at hlen
      have : pr2 [c] = false := by
        cases h : pr2 [c] with
        | false => rfl
        | true => obtain ⟨d, t, e⟩ := pr2_two h; cases e
      rw [decide_eq_false (by omega), this]; rfl
  rw [actorgridref17_next_loop3, decide_eq_true (by omega), cond_true, W2 (by omega), Int.toNat_natCast, Int.toNat_natCast, hs, A, bind_e rfl]
  unfold syL symL
  cases hp : pr2 (c :: r) with
  | true =>
    obtain ⟨d, t, e⟩ := pr2_two hp
    have : 2 ≤ s.length - j := by rw [e, List.length_cons] at hlen; omega
    rw [cond_true, ifp_pos (by omega), ifp_pos (by omega), ifp_pos (by omega), show j + 2 - j = 2 by omega]
    rfl
  | false =>
    rw [cond_false, show (2 : Int) - 1 = 1 from rfl, show Md.W 1 = 1 from rfl, actorgridref17_next_loop3, decide_eq_true (by omega), cond_true, W1 (by omega), Int.toNat_natCast, Int.toNat_natCast, hs, show j + 1 - j = 1 by omega, show (c :: r).take 1 = [c] from rfl, isSym1, decide_eq_true (by omega), cond_true, ifp_pos (by omega), ifp_pos (by omega), ifp_pos (by omega), bind_e rfl, bind_e rfl]
    cases hs1 : sy1 c with
    | true =>
      rw [cond_true, ifp_pos (by omega), ifp_pos (by omega), ifp_pos (by omega)]
      rfl
    | false =>
      rw [cond_false, show (1 : Int) - 1 = 0 from rfl, show Md.W 0 = 0 from rfl, actorgridref17_next_loop3, decide_eq_false (by omega), cond_false]
      rfl
theorem next_eq (k : Nat) (s : List UInt8) (j : Nat) (c : UInt8) (r : List UInt8) (hs : s.drop j = c :: r) (hj : j < s.length) (hl : s.length ≤ 2000000) (hk : s.length < k) (hk7 : 7 ≤ k) : actorgridref17_next k s (j : Int) = some (nxI (tokL c r) j) := by
  have hg : s.getD j 0 = c := by have := drop_cons hj; rw [hs] at this; exact (List.cons.inj this).1.symm
  have hr : s.drop (j + 1) = r := by have := drop_cons hj; rw [hs] at this; exact (List.cons.inj this).2.symm
  have hlen : (c :: r).length = s.length - j := by rw [← hs, List.length_drop]
  unfold actorgridref17_next tokL
  rw [ifp_pos (by omega), Int.toNat_natCast, hg, hs, (letter_eq k c).2, bind_e rfl]
  cases hL : isL c with
  | true =>
    have ht := tw_le isW (c :: r)
    rw [cond_true, nextW_loop k s (by omega) k j (by omega), hs, bind_e rfl, ifp_pos (by omega), ifp_pos (by omega), Int.toNat_natCast, ifp_pos (by omega), show j + ((c :: r).takeWhile isW).length - j = ((c :: r).takeWhile isW).length by omega, tw_take, if_pos rfl]
    unfold wdL
    by_cases h32 : ((c :: r).takeWhile isW).length > 32
    · rw [decide_eq_true (by omega), cond_true, if_pos h32]; rfl
    · rw [decide_eq_false (by omega), cond_false, if_neg h32, (kw_eq k _).2, bind_e rfl]
      cases kwL ((c :: r).takeWhile isW) <;> rfl
  | false =>
    rw [cond_false, if_neg Bool.false_ne_true, (digit_eq k c).2, bind_e rfl]
    cases hD : isD c with
    | true =>
      have ht := tw_le isD (c :: r)
      have hall := tw_all isD (c :: r)
      obtain ⟨t, hw⟩ : ∃ t, (c :: r).takeWhile isD = c :: t := ⟨_, List.takeWhile_cons_of_pos hD⟩
      rw [cond_true, if_pos rfl, nextD_loop k s (by omega) k j (by omega), hs, bind_e rfl, ifp_pos (by omega), ifp_pos (by omega), Int.toNat_natCast, ifp_pos (by omega), show j + ((c :: r).takeWhile isD).length - j = ((c :: r).takeWhile isD).length by omega, tw_take, decimal_eq k _ hall (by omega) (by omega), bind_e rfl]
      rw [show (((j + ((c :: r).takeWhile isD).length : Nat) : Int) - (j : Int)) = ((((c :: r).takeWhile isD).length : Nat) : Int) by omega, W_id (by omega) (by omega)]
      have hbad : ((!(decR (nF 0 ((c :: r).takeWhile isD))).2) || ((decide (((((c :: r).takeWhile isD).length : Nat) : Int) > 1)) && ((c.toNat : Int) == 48))) = badN ((c :: r).takeWhile isD) := by
        unfold badN decR
        rw [hw, show (c :: t).getD 0 0 = c from rfl]
        congr 1
        · by_cases h : nF 0 (c :: t) ≤ 9223372036854775807
          · rw [if_pos h, decide_eq_false (by omega)]; rfl
          · rw [if_neg h, decide_eq_true (by omega)]; rfl
        · congr 1
          · exact decide_eq_decide.2 (by omega)
          · by_cases h : c.toNat = 48
            · rw [ib_t (by omega), decide_eq_true h]
            · rw [ib_f (by omega), decide_eq_false h]
      rw [hbad]
      unfold numL
      cases hb : badN ((c :: r).takeWhile isD) with
      | true => rfl
      | false =>
        have hv : nF 0 ((c :: r).takeWhile isD) ≤ 9223372036854775807 := by
          unfold badN at hb
          rw [Bool.or_eq_false_iff, decide_eq_false_iff_not] at hb
          omega
        rw [cond_false, ifp_pos (by omega), ifp_pos (by omega), ifp_pos (by omega), if_neg Bool.false_ne_true]
        unfold decR
        rw [if_pos hv]
        rfl
    | false =>
      rw [cond_false, if_neg Bool.false_ne_true]
      by_cases h34 : c.toNat = 34
      · rw [ib_t (by omega), cond_true, if_pos h34, textR_eq k s j hj hl hk, hr, bind_e rfl]
        cases ht : txW r with
        | none => rfl
        | some x =>
          show (bif (!true) then _ else (bif (decide (((([] ++ x.1).length : Nat) : Int) > 64)) then _ else (some ((⟨4, [] ++ x.1, 0, (j : Int)⟩ : Token), ((j + 1 + x.2 : Nat) : Int), 0)))) = some (nxI (if x.1.length > 64 then (zt, 0, 5) else (⟨4, x.1, 0, 0⟩, 1 + x.2, 0)) j)
          rw [List.nil_append, Bool.not_true, cond_false]
          by_cases h64 : x.1.length > 64
          · rw [decide_eq_true (by omega), if_pos h64]; rfl
          · rw [decide_eq_false (by omega), if_neg h64, show j + 1 + x.2 = j + (1 + x.2) by omega]; rfl
      · rw [ib_f (by omega), cond_false, if_neg h34]
        obtain ⟨m, hm⟩ : ∃ m, k = m + 3 := ⟨k - 3, by omega⟩
        have e := sym3 k s j c r hs hj hl m
        rw [← hm] at e
        exact e
/-! ### all tokens -/
def consT (t : Token) : Sum (Nat × Int) (List Token) → Sum (Nat × Int) (List Token)
  | .inl e => .inl e
  | .inr l => .inr (t :: l)
def lexW (s : List UInt8) (p : Nat) : Sum (Nat × Int) (List Token) :=
  match s with
  | [] => .inr []
  | c :: r =>
    if isB c = true then lexW r (p + 1)
    else if cm c r = true then lexW (r.drop (r.takeWhile ne10).length) (p + (1 + (r.takeWhile ne10).length))
    else if (tokL c r).2.2 = 0 then consT ⟨(tokL c r).1.Kind, (tokL c r).1.Text, (tokL c r).1.Num, (p : Int)⟩ (lexW (r.drop ((tokL c r).2.1 - 1)) (p + (tokL c r).2.1))
    else .inl (p, (tokL c r).2.2)
  termination_by s.length
  decreasing_by all_goals (simp only [List.length_cons, List.length_drop]; omega)
theorem lex_skip (s : List UInt8) : ∀ p, lexW (s.drop (skW s)) (p + skW s) = lexW s p := by
  induction s using skW.induct with
  | case1 => intro p; rw [skW]; rfl
  | case2 c r h ih =>
    intro p
    rw [skW, if_pos h, lexW, if_pos h, show 1 + skW r = skW r + 1 by omega, List.drop_succ_cons, show p + (skW r + 1) = p + 1 + skW r by omega]
    exact ih (p + 1)
  | case3 c r h h2 ih =>
    intro p
    rw [skW, if_neg h, if_pos h2]
    conv => rhs; rw [lexW, if_neg h, if_pos h2]
    rw [← ih, List.drop_drop]
    have e : 1 + (r.takeWhile ne10).length + skW (r.drop (r.takeWhile ne10).length) = ((r.takeWhile ne10).length + skW (r.drop (r.takeWhile ne10).length)) + 1 := by omega
    rw [e, List.drop_succ_cons, show p + ((r.takeWhile ne10).length + skW (r.drop (r.takeWhile ne10).length) + 1) = p + (1 + (r.takeWhile ne10).length) + skW (r.drop (r.takeWhile ne10).length) by omega]
  | case4 c r h h2 => intro p; rw [skW, if_neg h, if_neg h2]; rfl
theorem sk_skip (s : List UInt8) : skW (s.drop (skW s)) = 0 := by
  induction s using skW.induct with
  | case1 => rw [skW, List.drop_nil, skW]
  | case2 c r h ih => rw [skW, if_pos h, show 1 + skW r = skW r + 1 by omega, List.drop_succ_cons]; exact ih
  | case3 c r h h2 ih =>
    rw [skW, if_neg h, if_pos h2]
    have e : 1 + (r.takeWhile ne10).length + skW (r.drop (r.takeWhile ne10).length) = ((r.takeWhile ne10).length + skW (r.drop (r.takeWhile ne10).length)) + 1 := by omega
    rw [List.drop_drop] at ih
    rw [e, List.drop_succ_cons]; exact ih
  | case4 c r h h2 =>
    have : skW (c :: r) = 0 := by rw [skW, if_neg h, if_neg h2]
    rw [this, List.drop_zero, this]
theorem sk_head {c : UInt8} {r : List UInt8} (h : skW (c :: r) = 0) : ¬ isB c = true ∧ ¬ cm c r = true := by
  rw [skW] at h
  refine ⟨fun hb => ?_, fun hc => ?_⟩
  · rw [if_pos hb] at h; omega
  · by_cases hb : isB c = true
    · rw [if_pos hb] at h; omega
    · rw [if_neg hb, if_pos hc] at h; omega
def lexO (o : Sum (Nat × Int) (List Token)) (acc : List Token) : List Token × Int × Int :=
  match o with
  | .inl e => ([], ((e.1 : Nat) : Int), e.2)
  | .inr l => (acc ++ l, 0, 0)
theorem lexO_cons (t : Token) (o : Sum (Nat × Int) (List Token)) (acc : List Token) : lexO (consT t o) acc = lexO o (acc ++ [t]) := by
  cases o with
  | inl e => rfl
  | inr l => show (acc ++ t :: l, (0 : Int), (0 : Int)) = (acc ++ [t] ++ l, 0, 0); rw [List.append_assoc]; rfl
def tkE (o : Sum (List Token) (List Token × Int × Int)) : Option (List Token × Int × Int) := Md.onS o (fun x => some (x, 0, 0)) (fun r => some r)
theorem tokens_loop (k : Nat) (a0 : List UInt8) (hl : a0.length ≤ 100000) (hk : a0.length < k) (hk7 : 7 ≤ k) : ∀ n (j : Nat) acc, a0.length - j < n → j ≤ a0.length → acc.length + (a0.length - j) ≤ 4000000 → skW (a0.drop j) = 0 → (lexer_Tokens_loop1 k a0 n (j : Int) acc).bind tkE = some (lexO (lexW (a0.drop j) j) acc) := by
  intro n
  induction n with
  | zero => intro j acc h; omega
  | succ n ih =>
    intro j acc h hj0 ho hsk
    rw [lexer_Tokens_loop1]
    by_cases hj : j < a0.length
    · have hd := drop_cons hj
      rw [hd] at hsk ⊢
      obtain ⟨hb, hc⟩ := sk_head hsk
      have hlen : (a0.getD j 0 :: a0.drop (j + 1)).length = a0.length - j := by rw [← hd, List.length_drop]
      rw [decide_eq_true (by omega), cond_true, ifp_pos (by omega), Int.toNat_natCast, ifp_pos (by omega), hd, token_eq k _ _ (by omega) (by omega) hk7, bind_e rfl, lexW, if_neg hb, if_neg hc]
      have hT := tok_len (c := a0.getD j 0) (r := a0.drop (j + 1))
      rw [hlen] at hT
      generalize tokL (a0.getD j 0) (a0.drop (j + 1)) = T at *
      by_cases he : T.2.2 = 0
      · obtain ⟨t1, t2⟩ := hT he
        rw [if_pos he, lexO_cons]
        show ((bif (T.2.2 != 0) then _ else (Md.ifp (acc.length + [(⟨T.1.Kind, T.1.Text, T.1.Num, (j : Int)⟩ : Token)].length ≤ 4000000) <| Md.ifp (0 ≤ (Md.W ((j : Int) + ((T.2.1 : Nat) : Int)))) <| Md.ifp (((Md.W ((j : Int) + ((T.2.1 : Nat) : Int)))).toNat ≤ a0.length) <| (lexer_skip k (a0.drop (((Md.W ((j : Int) + ((T.2.1 : Nat) : Int)))).toNat))).bind fun x12 => lexer_Tokens_loop1 k a0 n (Md.W ((Md.W ((j : Int) + ((T.2.1 : Nat) : Int))) + x12)) (acc ++ [(⟨T.1.Kind, T.1.Text, T.1.Num, (j : Int)⟩ : Token)])) : Option _)).bind tkE = _
        have hz : (T.2.2 != 0) = false := by rw [he]; rfl
        have hsl := skW_le (a0.drop (j + T.2.1))
        rw [List.length_drop] at hsl
        rw [hz, cond_false, Wn (by omega), Int.toNat_natCast, ifp_pos (by rw [List.length_singleton]; omega), ifp_pos (by omega), ifp_pos (by omega), skip_eq k _ (by rw [List.length_drop]; omega) (by rw [List.length_drop]; omega), bind_e rfl, Wn (by omega)]
        have hs2 := sk_skip (a0.drop (j + T.2.1))
        rw [List.drop_drop] at hs2
        rw [ih _ _ (by omega) (by omega) (by rw [List.length_append, List.length_singleton]; omega) hs2]
        have e := lex_skip (a0.drop (j + T.2.1)) (j + T.2.1)
        rw [List.drop_drop] at e
        rw [e, List.drop_drop, show j + 1 + (T.2.1 - 1) = j + T.2.1 by omega]
      · have hz : (T.2.2 != 0) = true := by simpa using he
        rw [if_neg he]
        show ((bif (T.2.2 != 0) then (some (Sum.inr (([] : List Token), (j : Int), T.2.2))) else _ : Option _)).bind tkE = _
        rw [hz, cond_true]; rfl
    · rw [decide_eq_false (by omega), cond_false, drop_none hj, lexW]
      show some (acc, (0 : Int), (0 : Int)) = some (acc ++ [], 0, 0)
      rw [List.append_nil]
theorem tokens_eq (k : Nat) (s : List UInt8) (hl : s.length ≤ 6000) (hk : s.length < k) (hk7 : 7 ≤ k) : lexer_Tokens k s = some (lexO (lexW s 0) []) := by
  have hsl := skW_le s
  have h := tokens_loop k s (by omega) hk hk7 k (skW s) [] (by omega) hsl (by simp; omega) (sk_skip s)
  have e := lex_skip s 0
  rw [Nat.zero_add] at e
  rw [e] at h
  unfold lexer_Tokens
  rw [decide_eq_false (by omega), cond_false, skip_eq k s (by omega) hk, bind_e rfl]
  exact h
theorem cmR_loop (k : Nat) (a0 : List UInt8) (hl : a0.length ≤ 4000000) : ∀ n (j : Nat), a0.length - j < n → actorgridref17_Tokens_loop2 k a0 n (j : Int) = some ((j + ((a0.drop j).takeWhile ne10).length : Nat) : Int) := by
  intro n
  induction n with
  | zero => intro j h; omega
  | succ n ih =>
    intro j h
    rw [actorgridref17_Tokens_loop2]
    by_cases hj : j < a0.length
    · have e : (((a0.getD j 0).toNat : Int) != 10) = ne10 (a0.getD j 0) := by
        unfold ne10
        by_cases h : (a0.getD j 0).toNat = 10
        · rw [nb_f (by omega), decide_eq_false (by omega)]
        · rw [nb_t (by omega), decide_eq_true h]
      rw [decide_eq_true (by omega), cond_true, ifp_pos (by omega), Int.toNat_natCast, e, bind_e rfl, drop_cons hj]
      cases hq : ne10 (a0.getD j 0) with
      | true => rw [cond_true, W1 (by omega), ih (j + 1) (by omega), List.takeWhile_cons_of_pos hq, List.length_cons]; congr 2; omega
      | false => rw [cond_false, List.takeWhile_cons_of_neg (by rw [hq]; exact Bool.false_ne_true)]; rfl
    · rw [decide_eq_false (by omega), cond_false, drop_none hj]; rfl
theorem tokensR_loop (k : Nat) (a0 : List UInt8) (hl : a0.length ≤ 100000) (hk : a0.length < k) (hk7 : 7 ≤ k) : ∀ n (j : Nat) acc, a0.length - j < n → j ≤ a0.length → acc.length + (a0.length - j) ≤ 4000000 → (actorgridref17_Tokens_loop1 k a0 n (j : Int) acc).bind tkE = some (lexO (lexW (a0.drop j) j) acc) := by
  intro n
  induction n with
  | zero => intro j acc h; omega
  | succ n ih =>
    intro j acc h hj0 ho
    rw [actorgridref17_Tokens_loop1]
    by_cases hj : j < a0.length
    · have hd := drop_cons hj
      have hlen : (a0.getD j 0 :: a0.drop (j + 1)).length = a0.length - j := by rw [← hd, List.length_drop]
      rw [decide_eq_true (by omega), cond_true, ifp_pos (by omega), W1 (by omega), Int.toNat_natCast, Int.toNat_natCast, next_eq k a0 j _ _ hd hj (by omega) hk hk7, cmR_loop k a0 (by omega) k j (by omega), hd, lexW]
      have eB : (((((((a0.getD j 0)).toNat : Int) == 32) || ((((a0.getD j 0)).toNat : Int) == 9)) || ((((a0.getD j 0)).toNat : Int) == 10)) || ((((a0.getD j 0)).toNat : Int) == 13)) = isB (a0.getD j 0) := by
        unfold isB
        generalize (a0.getD j 0).toNat = x
        rw [Bool.eq_iff_iff]; simp; omega
      have eC : ((bif (((((a0.getD j 0)).toNat : Int) == 47) && (decide (((j + 1 : Nat) : Int) < ((a0.length : Nat) : Int)))) then (Md.ifp (0 ≤ ((j + 1 : Nat) : Int) ∧ ((j + 1 : Nat) : Int) < ((a0.length : Nat) : Int)) <| some ((((a0.getD (j + 1) 0)).toNat : Int) == 47)) else (some false)) : Option Bool) = some (cm (a0.getD j 0) (a0.drop (j + 1))) := by
        by_cases h1 : j + 1 < a0.length
        · rw [decide_eq_true (by omega), Bool.and_true, ifp_pos (by omega), drop_cons h1]
          show _ = some (decide ((a0.getD j 0).toNat = 47) && decide ((a0.getD (j + 1) 0).toNat = 47))
          by_cases h2 : (a0.getD j 0).toNat = 47
          · rw [ib_t (by omega), cond_true, decide_eq_true h2, Bool.true_and]
            by_cases h3 : (a0.getD (j + 1) 0).toNat = 47
            · rw [ib_t (by omega), decide_eq_true h3]
            · rw [ib_f (by omega), decide_eq_false h3]
          · rw [ib_f (by omega), cond_false, decide_eq_false h2]; rfl
        · rw [decide_eq_false (by omega), Bool.and_false, drop_none h1]; rfl
      rw [eB, eC]
      cases hb : isB (a0.getD j 0) with
      | true =>
        rw [cond_true, if_pos rfl, ih (j + 1) acc (by omega) (by omega) (by omega)]
      | false =>
        rw [cond_false, if_neg Bool.false_ne_true, bind_e rfl]
        cases hc : cm (a0.getD j 0) (a0.drop (j + 1)) with
        | true =>
          have h47 := (cm47 hc).1
          have hn : ne10 (a0.getD j 0) = true := decide_eq_true (by omega)
          have ht := tw_le ne10 (a0.drop (j + 1))
          rw [List.length_drop] at ht
          rw [cond_true, if_pos rfl, bind_e rfl, List.takeWhile_cons_of_pos hn, List.length_cons, ih _ acc (by omega) (by omega) (by omega), List.drop_drop, show j + 1 + (List.takeWhile ne10 (List.drop (j + 1) a0)).length = j + ((List.takeWhile ne10 (List.drop (j + 1) a0)).length + 1) by omega, show j + (1 + (List.takeWhile ne10 (List.drop (j + 1) a0)).length) = j + ((List.takeWhile ne10 (List.drop (j + 1) a0)).length + 1) by omega]
        | false =>
          rw [cond_false, if_neg Bool.false_ne_true, bind_e rfl]
          have hT := tok_len (c := a0.getD j 0) (r := a0.drop (j + 1))
          rw [hlen] at hT
          generalize tokL (a0.getD j 0) (a0.drop (j + 1)) = T at *
          by_cases he : T.2.2 = 0
          · obtain ⟨t1, t2⟩ := hT he
            have en : nxI T j = ((⟨T.1.Kind, T.1.Text, T.1.Num, (j : Int)⟩ : Token), ((j + T.2.1 : Nat) : Int), 0) := by unfold nxI; rw [if_pos he, if_pos he, he]
            rw [if_pos he, lexO_cons, en]
            show ((bif ((0 : Int) != 0) then _ else (Md.ifp (acc.length + [(⟨T.1.Kind, T.1.Text, T.1.Num, (j : Int)⟩ : Token)].length ≤ 4000000) <| actorgridref17_Tokens_loop1 k a0 n ((j + T.2.1 : Nat) : Int) (acc ++ [(⟨T.1.Kind, T.1.Text, T.1.Num, (j : Int)⟩ : Token)])) : Option _)).bind tkE = _
            rw [show ((0 : Int) != 0) = false from rfl, cond_false, ifp_pos (by rw [List.length_singleton]; omega), ih _ _ (by omega) (by omega) (by rw [List.length_append, List.length_singleton]; omega), List.drop_drop, show j + 1 + (T.2.1 - 1) = j + T.2.1 by omega]
          · have hz : (T.2.2 != 0) = true := by simpa using he
            rw [if_neg he]
            show ((bif (T.2.2 != 0) then (some (Sum.inr (([] : List Token), (j : Int), T.2.2))) else _ : Option _)).bind tkE = _
            rw [hz, cond_true]; rfl
    · rw [decide_eq_false (by omega), cond_false, drop_none hj, lexW]
      show some (acc, (0 : Int), (0 : Int)) = some (acc ++ [], 0, 0)
      rw [List.append_nil]
theorem tokensR_eq (k : Nat) (s : List UInt8) (hl : s.length ≤ 6000) (hk : s.length < k) (hk7 : 7 ≤ k) : actorgridref17_Tokens k s = some (lexO (lexW s 0) []) := by
  have h := tokensR_loop k s (by omega) hk hk7 k 0 [] (by omega) (by omega) (by simp; omega)
  unfold actorgridref17_Tokens
  rw [decide_eq_false (by omega), cond_false]
  exact h
end Md
end Go.Proofs.YtjpiiejdaiaocaaDoor
