/-
  Layer 17 in plain words: the five laws. Conditions: none but the arguments' form.
-/
import Derived.Test.YtjpiiejdaiaocaaDoorLexPd
import Derived.Test.YtjpiiejdaiaocaaDoorLexLM
import Derived.Test.YtjpiiejdaiaocaaDoorLexMM
import Derived.RowKit
namespace Go.Proofs.YtjpiiejdaiaocaaDoor
set_option linter.unusedVariables false
set_option linter.unusedSimpArgs false
set_option maxRecDepth 10000
namespace Md
open Go.RowKit
theorem bneq (z : Int) : (z != z) = false := by simp
theorem ne0 {z : Int} (h : z ≠ 0) : (z != 0) = true := by simpa using h
theorem getD_memG {α : Type} [Inhabited α] {l : List α} {j : Nat} (h : j < l.length) : l.getD j default ∈ l := by
  rw [List.getD_eq_getElem?_getD, List.getElem?_eq_getElem h]; exact List.getElem_mem h
theorem tokens_big (k : Nat) (s : List UInt8) (h : 6000 < s.length) : lexer_Tokens k s = some ([], 0, 5) ∧ actorgridref17_Tokens k s = some ([], 0, 5) := by
  unfold lexer_Tokens actorgridref17_Tokens
  rw [decide_eq_true (by omega)]; exact ⟨rfl, rfl⟩
theorem lex_le (s : List UInt8) (p : Nat) : ∀ l, lexW s p = .inr l → l.length ≤ s.length := by
  induction s, p using lexW.induct with
  | case1 p => intro l h; rw [lexW] at h; cases h; exact Nat.le_refl 0
  | case2 p c r h ih => intro l hl; rw [lexW, if_pos h] at hl; have := ih l hl; rw [List.length_cons]; omega
  | case3 p c r h h2 ih =>
    intro l hl
    rw [lexW, if_neg h, if_pos h2] at hl
    have := ih l hl
    rw [List.length_drop] at this
    rw [List.length_cons]; omega
  | case4 p c r h h2 h3 ih =>
    intro l hl
    rw [lexW, if_neg h, if_neg h2, if_pos h3] at hl
    obtain ⟨m, hm, rfl⟩ := consT_inr hl
    have := ih m hm
    rw [List.length_drop] at this
    rw [List.length_cons, List.length_cons]; omega
  | case5 p c r h h2 h3 =>
    intro l hl
    rw [lexW, if_neg h, if_neg h2, if_neg h3] at hl; cases hl
theorem same_eq (k : Nat) (l : List Token) (hl : l.length ≤ 100000) (hk : l.length < k) : actorgridref17_Same k l l = some true := by
  have R : ∀ n j, l.length - j < n → actorgridref17_Same_loop1 k l l n j = some (.inl ()) := by
    intro n
    induction n with
    | zero => intro j h; omega
    | succ n ih =>
      intro j h
      rw [actorgridref17_Same_loop1]
      by_cases hj : j < l.length
      · rw [decide_eq_true (by omega), cond_true, ifp_pos hj, ifp_pos hj, decide_eq_true rfl, Bool.not_true, cond_false, ifp_pos (by omega), ih (j + 1) (by omega)]
      · rw [decide_eq_false (by omega), cond_false]
  unfold actorgridref17_Same
  rw [bneq, cond_false, R k 0 (by omega)]; rfl
/-- What both lexers return for a text. -/
def tksL (s : List UInt8) : List Token × Int × Int := if s.length ≤ 6000 then lexO (lexW s 0) [] else ([], 0, 5)
theorem tks_eq (k : Nat) (s : List UInt8) (hk : 7000 ≤ k) : lexer_Tokens k s = some (tksL s) ∧ actorgridref17_Tokens k s = some (tksL s) := by
  unfold tksL
  by_cases h : s.length ≤ 6000
  · rw [if_pos h]; exact ⟨tokens_eq k s h (by omega) (by omega), tokensR_eq k s h (by omega) (by omega)⟩
  · rw [if_neg h]; exact tokens_big k s (by omega)
theorem tks_len (s : List UInt8) : (tksL s).1.length ≤ 6000 := by
  unfold tksL
  by_cases h : s.length ≤ 6000
  · rw [if_pos h]
    cases ho : lexW s 0 with
    | inl e => exact Nat.zero_le _
    | inr l => have := lex_le s 0 l ho; show ([] ++ l).length ≤ _; rw [List.nil_append]; omega
  · rw [if_neg h]; exact Nat.zero_le _
theorem tks_ok {s : List UInt8} (h : (tksL s).2.2 = 0) : s.length ≤ 6000 ∧ ∃ l, lexW s 0 = .inr l ∧ tksL s = (l, 0, 0) := by
  unfold tksL at h ⊢
  by_cases h6 : s.length ≤ 6000
  · rw [if_pos h6] at h ⊢
    cases ho : lexW s 0 with
    | inl e => rw [ho] at h; exact absurd h (lex_err s 0 e ho).1
    | inr l => exact ⟨h6, l, rfl, rfl⟩
  · rw [if_neg h6] at h; exact absurd h (by decide)
theorem LexTells_law (a0 a1 : List UInt8) (h0 : a0.length ≤ maxLen) (h1 : a1.length ≤ maxLen) : ∃ k, actorgridlaw17_LexTells k a0 a1 = some true := by
  refine ⟨100000, ?_⟩
  unfold actorgridlaw17_LexTells
  rw [awake_eq _ (by omega), bind_e rfl, Bool.not_true, cond_false]
  by_cases hc : a0.length ≤ 8000 ∧ a1.length ≤ 1000
  · have hl := tks_len a0
    obtain ⟨b, n1, n2, _⟩ := isName_eq 100000 a1 (by omega) (by omega)
    obtain ⟨q1, q2⟩ := quote_eq 100000 a1 (by omega) (by omega)
    rw [decide_eq_false (by omega), decide_eq_false (by omega), Bool.or_false, cond_false, (tks_eq _ a0 (by omega)).1, bind_e rfl, (tks_eq _ a0 (by omega)).2, bind_e rfl, same_eq _ _ (by omega) (by omega), bind_e rfl, beq_self_eq_true, beq_self_eq_true, Bool.and_true, Bool.and_true, cond_true, n1, bind_e rfl, n2, bind_e rfl, beq_self_eq_true, bind_e rfl, cond_true, (kw_eq _ a1).1, bind_e rfl, (kw_eq _ a1).2, bind_e rfl, beq_self_eq_true, bind_e rfl, cond_true, q1, bind_e rfl, q2, bind_e rfl, decide_eq_true rfl]
    rfl
  · have : (decide (((a0.length : Nat) : Int) > 8000) || decide (((a1.length : Nat) : Int) > 1000)) = true := by
      rw [Bool.or_eq_true, decide_eq_true_eq, decide_eq_true_eq]; omega
    rw [this, cond_true]
theorem LexQuotes_law (a0 : List UInt8) (h0 : a0.length ≤ maxLen) : ∃ k, actorgridlaw17_LexQuotes k a0 = some true := by
  refine ⟨100000, ?_⟩
  unfold actorgridlaw17_LexQuotes
  rw [awake_eq _ (by omega), bind_e rfl, Bool.not_true, cond_false]
  by_cases hc : a0.length ≤ 64
  · have hq : (quoteL a0).length ≤ 6000 := by
      have := flat_len a0
      unfold quoteL
      rw [List.length_cons, List.length_append, List.length_singleton]; omega
    rw [decide_eq_false (by omega), cond_false, (quote_eq 100000 a0 (by omega) (by omega)).1, bind_e rfl, tokens_eq _ _ hq (by omega) (by omega), lex_quote a0 hc, bind_e rfl]
    show ((((bif true then (Md.ifp (0 < 1) <| some (decide ((⟨4, a0, 0, 0⟩ : Token) = (⟨4, a0, 0, 0⟩ : Token)))) else (some false)) : Option Bool).bind fun x7 => some x7)) = some true
    rw [decide_eq_true rfl]; rfl
  · rw [decide_eq_true (by omega), cond_true]
theorem getD_left {l m : List Token} {i : Nat} (h : i < l.length) : (l ++ m).getD i default = l.getD i default := by
  rw [List.getD_eq_getElem?_getD, List.getD_eq_getElem?_getD, List.getElem?_append_left h]
theorem getD_right {l m : List Token} {i : Nat} (h : ¬ i < l.length) : (l ++ m).getD i default = m.getD (i - l.length) default := by
  rw [List.getD_eq_getElem?_getD, List.getD_eq_getElem?_getD, List.getElem?_append_right (by omega)]
theorem getD_mapT {f : Token → Token} {m : List Token} {i : Nat} (h : i < m.length) : (m.map f).getD i default = f (m.getD i default) := by
  rw [List.getD_eq_getElem?_getD, List.getD_eq_getElem?_getD, List.getElem?_map, List.getElem?_eq_getElem h]; rfl
theorem parts_loop (k : Nat) (a0 : List UInt8) (l m : List Token) (ha : a0.length ≤ 100000) (hl : l.length ≤ 100000) (hm : m.length ≤ 100000) (hb : ∀ t ∈ m, 0 ≤ t.At ∧ t.At ≤ 100000) : ∀ n j, l.length + m.length - j < n → actorgridlaw17_LexParts_loop1 k a0 (l, 0, 0) (m, 0, 0) (l ++ m.map (sh (a0.length + 1)), 0, 0) n j = some (.inl ()) := by
  intro n
  have hz : (l ++ m.map (sh (a0.length + 1))).length = l.length + m.length := by rw [List.length_append, List.length_map]
  induction n with
  | zero => intro j h; omega
  | succ n ih =>
    intro j h
    rw [actorgridlaw17_LexParts_loop1]
    dsimp only
    by_cases hj : j < l.length + m.length
    · rw [decide_eq_true (by omega), cond_true]
      by_cases h1 : j < l.length
      · rw [decide_eq_true (by omega), cond_true, ifp_pos h1, ifp_pos (by omega), getD_left h1, decide_eq_true rfl, Bool.not_true, cond_false, bind_e rfl]
        show Md.ifp _ _ = _
        rw [ifp_pos (by omega), ih (j + 1) (by omega)]
      · have hi : j - l.length < m.length := by omega
        have e : Md.W (((j : Nat) : Int) - ((l.length : Nat) : Int)) = ((j - l.length : Nat) : Int) := by rw [W_id (by omega) (by omega)]; omega
        obtain ⟨b1, b2⟩ := hb _ (getD_memG hi)
        have eA : ∀ x : Int, 0 ≤ x → x ≤ 100000 → Md.W ((Md.W (x + ((a0.length : Nat) : Int))) + 1) = x + ((a0.length + 1 : Nat) : Int) := fun x hx1 hx2 => by
          rw [W_id (n := x + ((a0.length : Nat) : Int)) (by omega) (by omega), W_id (by omega) (by omega)]; omega
        rw [decide_eq_false (by omega), cond_false, e, ifp_pos (by omega), ifp_pos (by omega), Int.toNat_natCast, getD_right h1, getD_mapT hi, eA _ b1 b2]
        have key : ∀ b : Bool, b = true → (((bif (!b) then (some (Sum.inr false)) else (some (Sum.inl ()))) : Option (Sum Unit Bool)).bind fun o16 => Md.onS o16 (fun x16_0 => Md.ifp (j + 1 ≤ 9223372036854775807) <| actorgridlaw17_LexParts_loop1 k a0 (l, 0, 0) (m, 0, 0) (l ++ m.map (sh (a0.length + 1)), 0, 0) n (j + 1)) (fun r16 => some (Sum.inr r16))) = some (.inl ()) := fun b hbt => by
          rw [hbt]
          show Md.ifp _ _ = _
          rw [ifp_pos (by omega), ih (j + 1) (by omega)]
        exact key _ (decide_eq_true rfl)
    · rw [decide_eq_false (by omega), cond_false]
theorem LexParts_law (a0 a1 : List UInt8) (h0 : a0.length ≤ maxLen) (h1 : a1.length ≤ maxLen) : ∃ k, actorgridlaw17_LexParts k a0 a1 = some true := by
  refine ⟨100000, ?_⟩
  unfold actorgridlaw17_LexParts
  rw [awake_eq _ (by omega), bind_e rfl, Bool.not_true, cond_false]
  by_cases hc : a0.length ≤ 1000 ∧ a1.length ≤ 1000
  · rw [decide_eq_false (by omega), decide_eq_false (by omega), Bool.or_false, cond_false, (tks_eq _ a0 (by omega)).1, bind_e rfl, (tks_eq _ a1 (by omega)).1, bind_e rfl]
    by_cases hx : (tksL a0).2.2 = 0
    · by_cases hy : (tksL a1).2.2 = 0
      · obtain ⟨_, l, hl, el⟩ := tks_ok hx
        obtain ⟨_, m, hm, em⟩ := tks_ok hy
        have p1 := (lex_place a1 a1 0 m hm rfl).1
        have hl1 := lex_le a0 0 l hl
        have hm1 := lex_le a1 0 m hm
        have hj : lexW ((a0 ++ ([10] : List UInt8)) ++ a1) 0 = .inr (l ++ m.map (sh (a0.length + 1))) := by
          rw [List.append_assoc]
          show lexW (a0 ++ 10 :: a1) 0 = _
          rw [lex_app a1 a0 0 l hl, lex_at a1, hm, Nat.zero_add]; rfl
        have hlen : ((a0 ++ ([10] : List UInt8)) ++ a1).length = a0.length + 1 + a1.length := by simp; omega
        have hz : (l ++ m.map (sh (a0.length + 1))).length = l.length + m.length := by rw [List.length_append, List.length_map]
        rw [el, em]
        show (bif ((0 : Int) != 0 || (0 : Int) != 0) then _ else _) = _
        rw [show ((0 : Int) != 0 || (0 : Int) != 0) = false from rfl, cond_false, ifp_pos (by rw [List.length_singleton]; omega), ifp_pos (by rw [List.length_append, List.length_singleton]; omega), tokens_eq _ _ (by omega) (by omega) (by omega), hj, bind_e rfl]
        have loop := parts_loop 100000 a0 l m (by omega) (by omega) (by omega) (fun t ht => by
          obtain ⟨q1, q2, _⟩ := (p1 t ht).1
          exact ⟨q1, by omega⟩) 100000 0 (by omega)
        show (((bif ((0 : Int) != 0) then (some true) else (Md.ifp (l.length + m.length ≤ 9223372036854775807) <| some ((((l ++ m.map (sh (a0.length + 1))).length : Nat) : Int) != (((l.length + m.length) : Nat) : Int)))) : Option Bool).bind fun x12 => bif x12 then (some false) else ((actorgridlaw17_LexParts_loop1 100000 a0 (l, 0, 0) (m, 0, 0) (l ++ m.map (sh (a0.length + 1)), 0, 0) 100000 0).bind fun o14 => Md.onS o14 (fun x14_0 => some true) (fun r14 => some r14))) = some true
        rw [show ((0 : Int) != 0) = false from rfl, cond_false, ifp_pos (by omega), hz, bneq, bind_e rfl, cond_false, loop]
        rfl
      · rw [ne0 hy, Bool.or_true, cond_true]
    · rw [ne0 hx, Bool.true_or, cond_true]
  · have : (decide (((a0.length : Nat) : Int) > 1000) || decide (((a1.length : Nat) : Int) > 1000)) = true := by
      rw [Bool.or_eq_true, decide_eq_true_eq, decide_eq_true_eq]; omega
    rw [this, cond_true]
/-! ### blanks -/
def Closed (s : List UInt8) (l : List Token) : Prop := ∀ b, lexW (s ++ b) 0 = appR l (lexW b s.length)
def st (t : Token) : Int × List UInt8 × Int := (t.Kind, t.Text, t.Num)
theorem st_sh (d : Nat) (m : List Token) : (m.map (sh d)).map st = m.map st := by
  rw [List.map_map]; rfl
theorem closed_line {s line : List UInt8} {l m : List Token} (hs : Closed s l) (hm : lexW line 0 = .inr m) : Closed ((s ++ line) ++ ([10] : List UInt8)) (l ++ m.map (sh s.length)) := by
  intro b
  have h1 : lexW line s.length = .inr (m.map (sh s.length)) := by rw [lex_at, hm]; rfl
  rw [List.append_assoc, List.append_assoc, hs]
  show appR l (lexW (line ++ 10 :: b) s.length) = _
  rw [lex_app b line s.length _ h1, appR_app]
  congr 2
  simp
  omega
theorem tw_self (p : UInt8 → Bool) : ∀ w : List UInt8, (∀ c ∈ w, p c = true) → w.takeWhile p = w
  | [], _ => rfl
  | c :: w, h => by rw [List.takeWhile_cons_of_pos (h c (by simp)), tw_self p w (fun d hd => h d (by simp [hd]))]
theorem tw_all10 (w b : List UInt8) (hw : ∀ c ∈ w, ne10 c = true) : (w ++ 10 :: b).takeWhile ne10 = w := by
  rw [tw_app ne10 (by decide)]
  exact tw_self ne10 w hw
theorem closed_blank {s line remark : List UInt8} {l m : List Token} (hs : Closed s l) (hm : lexW line 0 = .inr m) (hr : ∀ c ∈ remark, ne10 c = true) : Closed (((((s ++ ([32, 9] : List UInt8)) ++ line) ++ ([10, 13, 47, 47] : List UInt8)) ++ remark) ++ ([10] : List UInt8)) (l ++ m.map (sh (s.length + 2))) := by
  intro b
  have h1 : lexW line (s.length + 2) = .inr (m.map (sh (s.length + 2))) := by rw [lex_at, hm]; rfl
  simp only [List.append_assoc]
  rw [hs]
  show appR l (lexW (32 :: 9 :: (line ++ 10 :: 13 :: 47 :: 47 :: (remark ++ 10 :: b))) s.length) = _
  rw [lex_b (by decide), lex_b (by decide), show s.length + 1 + 1 = s.length + 2 from rfl, lex_app _ line _ _ h1, appR_app, lex_b (by decide), lex_c (by decide) rfl]
  have e : (47 :: (remark ++ 10 :: b)).takeWhile ne10 = 47 :: remark := by
    rw [← List.cons_append]
    exact tw_all10 (47 :: remark) b (fun c hc => by
      rcases List.mem_cons.1 hc with rfl | hc
      · decide
      · exact hr c hc)
  rw [e]
  have e2 : (47 :: (remark ++ 10 :: b)).drop (47 :: remark : List UInt8).length = 10 :: b := by
    rw [← List.cons_append]; exact List.drop_left' rfl
  rw [e2, lex_b (by decide)]
  congr 2
  simp
  omega
theorem blanks_loop (k : Nat) (hk : 7000 ≤ k) (a0 : List (List UInt8)) (a1 : List UInt8) (h0 : a0.length ≤ 20) (h1 : a1.length ≤ 50) (hr : ∀ c ∈ a1, ne10 c = true) : ∀ n j s0 s1 l0 l1, a0.length - j < n → j ≤ a0.length → s0.length ≤ 51 * j → s1.length ≤ 107 * j → Closed s0 l0 → Closed s1 l1 → l0.map st = l1.map st →
    (∃ b, actorgridlaw17_LexBlanks_loop2 k a0 a1 n s0 s1 j = some (.inr true) ∧ b = true) ∨ (∃ t0 t1 m0 m1, actorgridlaw17_LexBlanks_loop2 k a0 a1 n s0 s1 j = some (.inl (t0, t1)) ∧ t0.length ≤ 3000 ∧ t1.length ≤ 3000 ∧ Closed t0 m0 ∧ Closed t1 m1 ∧ m0.map st = m1.map st) := by
  intro n
  induction n with
  | zero => intro j s0 s1 l0 l1 h; omega
  | succ n ih =>
    intro j s0 s1 l0 l1 h hj0 hs0 hs1 hc0 hc1 hst
    rw [actorgridlaw17_LexBlanks_loop2]
    by_cases hj : j < a0.length
    · rw [decide_eq_true (by omega), cond_true, ifp_pos hj]
      generalize a0.getD j default = line
      rw [(tks_eq k line hk).1, bind_e rfl, ifp_pos hj, ifp_pos hj, ifp_pos hj]
      by_cases hx : (tksL line).2.2 = 0
      · rw [hx, bneq, cond_false, bind_e rfl]
        by_cases h50 : line.length ≤ 50
        · obtain ⟨_, m, hm, _⟩ := tks_ok hx
          rw [decide_eq_false (by omega), cond_false]
          have q0 := closed_line hc0 hm
          have q1 := closed_blank (remark := a1) hc1 hm hr
          have z0 : ((s0 ++ line) ++ ([10] : List UInt8)).length = s0.length + line.length + 1 := by simp; omega
          have z1 : (((((s1 ++ ([32, 9] : List UInt8)) ++ line) ++ ([10, 13, 47, 47] : List UInt8)) ++ a1) ++ ([10] : List UInt8)).length = s1.length + 2 + line.length + 4 + a1.length + 1 := by simp; omega
          rw [ifp_pos (by omega), ifp_pos (by simp; omega), ifp_pos (by simp; omega), ifp_pos (by simp; omega), ifp_pos (by simp; omega), ifp_pos (by simp; omega), ifp_pos (by simp; omega), ifp_pos (by omega)]
          exact ih (j + 1) _ _ _ _ (by omega) (by omega) (by omega) (by omega) q0 q1 (by rw [List.map_append, List.map_append, st_sh, st_sh, hst])
        · rw [decide_eq_true (by omega), cond_true]
          exact Or.inl ⟨true, rfl, rfl⟩
      · rw [ne0 hx, cond_true, bind_e rfl, cond_true]
        exact Or.inl ⟨true, rfl, rfl⟩
    · rw [decide_eq_false (by omega), cond_false]
      exact Or.inr ⟨s0, s1, l0, l1, rfl, by omega, by omega, hc0, hc1, hst⟩
theorem remark_loop (k : Nat) (a1 : List UInt8) (h1 : a1.length ≤ 50) : ∀ n j, a1.length - j < n → actorgridlaw17_LexBlanks_loop1 k a1 n j = some (if (a1.drop j).all ne10 = true then .inl () else .inr true) := by
  intro n
  induction n with
  | zero => intro j h; omega
  | succ n ih =>
    intro j h
    rw [actorgridlaw17_LexBlanks_loop1]
    by_cases hj : j < a1.length
    · rw [decide_eq_true (by omega), cond_true, ifp_pos hj, drop_cons hj, List.all_cons]
      by_cases hq : (a1.getD j 0).toNat = 10
      · rw [ib_t (by omega), cond_true, show ne10 (a1.getD j 0) = false from decide_eq_false (by omega)]; rfl
      · rw [ib_f (by omega), cond_false, ifp_pos (by omega), ih (j + 1) (by omega), show ne10 (a1.getD j 0) = true from decide_eq_true hq, Bool.true_and]
    · rw [decide_eq_false (by omega), cond_false, drop_none hj]; rfl
theorem st_getD {l m : List Token} (h : l.map st = m.map st) {i : Nat} (hi : i < l.length) : st (l.getD i default) = st (m.getD i default) := by
  have hl : l.length = m.length := by have := congrArg List.length h; rwa [List.length_map, List.length_map] at this
  have e := congrArg (fun q => q[i]?) h
  simp only [List.getElem?_map] at e
  rw [List.getElem?_eq_getElem hi, List.getElem?_eq_getElem (show i < m.length by omega)] at e
  rw [List.getD_eq_getElem?_getD, List.getD_eq_getElem?_getD, List.getElem?_eq_getElem hi, List.getElem?_eq_getElem (show i < m.length by omega)]
  exact Option.some.inj e
theorem cmp_loop (k : Nat) (l m : List Token) (hl : l.length ≤ 100000) (h : l.map st = m.map st) : ∀ n j, l.length - j < n → actorgridlaw17_LexBlanks_loop3 k (l, 0, 0) (m, 0, 0) n j = some (.inl ()) := by
  intro n
  have hlen : l.length = m.length := by have := congrArg List.length h; rwa [List.length_map, List.length_map] at this
  induction n with
  | zero => intro j h; omega
  | succ n ih =>
    intro j hn
    rw [actorgridlaw17_LexBlanks_loop3]
    dsimp only
    by_cases hj : j < l.length
    · have e := st_getD h hj
      have e1 : (l.getD j default).Kind = (m.getD j default).Kind := congrArg (fun x => x.1) e
      have e2 : (l.getD j default).Text = (m.getD j default).Text := congrArg (fun x => x.2.1) e
      have e3 : (l.getD j default).Num = (m.getD j default).Num := congrArg (fun x => x.2.2) e
      rw [decide_eq_true (by omega), cond_true, ifp_pos hj, ifp_pos (by omega), e1, bneq, cond_false, ifp_pos hj, ifp_pos (by omega), e2, decide_eq_true rfl, Bool.not_true, cond_false, ifp_pos hj, ifp_pos (by omega), e3, bneq, cond_false, ifp_pos (by omega), ih (j + 1) (by omega)]
    · rw [decide_eq_false (by omega), cond_false]
theorem LexBlanks_law (a0 : List (List UInt8)) (a1 : List UInt8) (h0 : ∀ y ∈ a0, y.length ≤ 9223372036854775807) (h1 : a1.length ≤ maxLen) : ∃ k, actorgridlaw17_LexBlanks k a0 a1 = some true := by
  refine ⟨100000, ?_⟩
  unfold actorgridlaw17_LexBlanks
  rw [awake_eq _ (by omega), bind_e rfl, Bool.not_true, cond_false]
  by_cases hc : a0.length ≤ 20 ∧ a1.length ≤ 50
  · rw [decide_eq_false (by omega), decide_eq_false (by omega), Bool.or_false, cond_false, remark_loop _ a1 hc.2 100000 0 (by omega), bind_e rfl, List.drop_zero]
    by_cases hr : a1.all ne10 = true
    · rw [if_pos hr]
      have c0 : Closed [] [] := fun b => by rw [appR_nil]; rfl
      have hB := blanks_loop 100000 (by omega) a0 a1 hc.1 hc.2 (fun c hcm => List.all_eq_true.1 hr c hcm) 100000 0 [] [] [] [] (by omega) (by omega) (by simp) (by simp) c0 c0 rfl
      show ((actorgridlaw17_LexBlanks_loop2 100000 a0 a1 100000 ([] : List UInt8) ([] : List UInt8) 0).bind fun o6 => Md.onS o6 (fun x6_0 => (lexer_Tokens 100000 x6_0.1).bind fun x7 => (lexer_Tokens 100000 x6_0.2).bind fun x8 => bif (((x7.2.2 != 0) || (x8.2.2 != 0)) || (((x7.1.length : Nat) : Int) != ((x8.1.length : Nat) : Int))) then (some false) else ((actorgridlaw17_LexBlanks_loop3 100000 x7 x8 100000 0).bind fun o12 => Md.onS o12 (fun x12_0 => some true) (fun r12 => some r12))) (fun r6 => some r6)) = some true
      rcases hB with ⟨b, e, _⟩ | ⟨t0, t1, m0, m1, e, z0, z1, q0, q1, hst⟩
      · rw [e]; rfl
      · have f0 : lexW t0 0 = .inr m0 := by have := q0 []; rw [List.append_nil, lexW] at this; rw [this]; show Sum.inr (m0 ++ []) = _; rw [List.append_nil]
        have f1 : lexW t1 0 = .inr m1 := by have := q1 []; rw [List.append_nil, lexW] at this; rw [this]; show Sum.inr (m1 ++ []) = _; rw [List.append_nil]
        have hlen : m0.length = m1.length := by have := congrArg List.length hst; rwa [List.length_map, List.length_map] at this
        have hle := lex_le t0 0 m0 f0
        rw [e, bind_e rfl]
        show ((lexer_Tokens 100000 t0).bind fun x7 => (lexer_Tokens 100000 t1).bind fun x8 => _) = _
        rw [tokens_eq _ t0 (by omega) (by omega) (by omega), bind_e rfl, tokens_eq _ t1 (by omega) (by omega) (by omega), bind_e rfl, f0, f1]
        show (bif ((((0 : Int) != 0) || ((0 : Int) != 0)) || (((m0.length : Nat) : Int) != ((m1.length : Nat) : Int))) then (some false) else ((actorgridlaw17_LexBlanks_loop3 100000 (m0, 0, 0) (m1, 0, 0) 100000 0).bind fun o12 => Md.onS o12 (fun x12_0 => some true) (fun r12 => some r12))) = some true
        rw [hlen, bneq, bneq, Bool.or_false, Bool.or_false, cond_false, cmp_loop _ m0 m1 (by omega) hst 100000 0 (by omega)]
        rfl
    · rw [if_neg hr]; rfl
  · have : (decide (((a0.length : Nat) : Int) > 20) || decide (((a1.length : Nat) : Int) > 50)) = true := by
      rw [Bool.or_eq_true, decide_eq_true_eq, decide_eq_true_eq]; omega
    rw [this, cond_true]
/-! ### places -/
theorem pair_getD {l : List Token} (h : l.Pairwise (fun a b => a.At < b.At)) {i : Nat} (h0 : 0 < i) (hi : i < l.length) : (l.getD (i - 1) default).At < (l.getD i default).At := by
  have h1 := (List.pairwise_iff_getElem.1 h) (i - 1) i (by omega) hi (by omega)
  rw [List.getD_eq_getElem?_getD, List.getD_eq_getElem?_getD, List.getElem?_eq_getElem hi, List.getElem?_eq_getElem (show i - 1 < l.length by omega)]
  exact h1
theorem places_loop (k : Nat) (a0 : List UInt8) (l : List Token) (ha : a0.length ≤ 100000) (hl : l.length ≤ 100000) (hp : ∀ t ∈ l, Place a0 t) (hq : l.Pairwise (fun a b => a.At < b.At)) : ∀ n j, l.length - j < n → actorgridlaw17_LexPlaces_loop1 k a0 (l, 0, 0) n j = some (.inl ()) := by
  intro n
  induction n with
  | zero => intro j h; omega
  | succ n ih =>
    intro j h
    rw [actorgridlaw17_LexPlaces_loop1]
    dsimp only
    by_cases hj : j < l.length
    · obtain ⟨p1, p2, p3, p4⟩ := hp _ (getD_memG hj)
      rw [decide_eq_true (by omega), cond_true]
      have asc : 0 < j → (l.getD (j - 1) default).At < (l.getD j default).At := fun h0 => pair_getD hq h0 hj
      generalize ht : l.getD j default = t at *
      have key : ∀ o : Option (Sum Unit Bool), o = some (.inl ()) → (o.bind fun o10 => Md.onS o10 (fun x10_0 => Md.ifp (j + 1 ≤ 9223372036854775807) <| actorgridlaw17_LexPlaces_loop1 k a0 (l, 0, 0) n (j + 1)) (fun r10 => some (Sum.inr r10))) = some (.inl ()) := fun o ho => by
        rw [ho]
        show Md.ifp _ _ = _
        rw [ifp_pos (by omega), ih (j + 1) (by omega)]
      have tail : (Md.ifp (j < l.length) <| bif (t.Kind == 4) then (Md.ifp (j < l.length) <| Md.ifp (0 ≤ t.At ∧ t.At < ((a0.length : Nat) : Int)) <| bif ((((a0.getD (t.At.toNat) 0)).toNat : Int) != 34) then (some (Sum.inr false)) else (some (Sum.inl ()))) else (Md.ifp (j < l.length) <| bif (decide (((t.Text.length : Nat) : Int) < 1)) then (some (Sum.inr false)) else (Md.ifp (j < l.length) <| bif (decide ((Md.W (t.At + ((t.Text.length : Nat) : Int))) > ((a0.length : Nat) : Int))) then (some (Sum.inr false)) else (Md.ifp (j < l.length) <| Md.ifp (j < l.length) <| Md.ifp (0 ≤ t.At) <| Md.ifp (0 ≤ (Md.W (t.At + ((t.Text.length : Nat) : Int)))) <| Md.ifp (t.At.toNat ≤ ((Md.W (t.At + ((t.Text.length : Nat) : Int)))).toNat ∧ ((Md.W (t.At + ((t.Text.length : Nat) : Int)))).toNat ≤ a0.length) <| Md.ifp (j < l.length) <| bif (!(decide (((a0.drop (t.At.toNat)).take (((Md.W (t.At + ((t.Text.length : Nat) : Int)))).toNat - (t.At.toNat))) = t.Text))) then (some (Sum.inr false)) else (some (Sum.inl ()))))) : Option (Sum Unit Bool)) = some (.inl ()) := by
        rw [ifp_pos hj]
        by_cases h4 : t.Kind = 4
        · rw [show (t.Kind == 4) = true from by rw [h4]; rfl, cond_true, ifp_pos hj, ifp_pos ⟨p1, p2⟩, nb_f (by have := p3 h4; omega), cond_false]
        · obtain ⟨k1, k2, k3⟩ := p4 h4
          have hw : Md.W (t.At + ((t.Text.length : Nat) : Int)) = t.At + ((t.Text.length : Nat) : Int) := W_id (by omega) (by omega)
          rw [show (t.Kind == 4) = false from by simpa using h4, cond_false, ifp_pos hj, decide_eq_false (by omega), cond_false, ifp_pos hj, hw, decide_eq_false (by omega), cond_false, ifp_pos hj, ifp_pos hj, ifp_pos p1, ifp_pos (by omega), ifp_pos (by omega), ifp_pos hj, show (t.At + ((t.Text.length : Nat) : Int)).toNat - t.At.toNat = t.Text.length by omega, k3, decide_eq_true rfl, Bool.not_true, cond_false]
      refine key _ ?_
      rw [ifp_pos hj, decide_eq_false (by omega), cond_false, ifp_pos hj, decide_eq_false (by omega), cond_false]
      by_cases h0 : 0 < j
      · have e : Md.W (((j : Nat) : Int) - 1) = ((j - 1 : Nat) : Int) := by rw [W_id (by omega) (by omega)]; omega
        have := asc h0
        rw [decide_eq_true (by omega), cond_true, ifp_pos hj, e, ifp_pos (by omega), Int.toNat_natCast, decide_eq_false (by omega), cond_false]
        exact tail
      · rw [decide_eq_false (by omega), cond_false]
        exact tail
    · rw [decide_eq_false (by omega), cond_false]
theorem LexPlaces_law (a0 : List UInt8) (h0 : a0.length ≤ maxLen) : ∃ k, actorgridlaw17_LexPlaces k a0 = some true := by
  refine ⟨100000, ?_⟩
  unfold actorgridlaw17_LexPlaces
  rw [awake_eq _ (by omega), bind_e rfl, Bool.not_true, cond_false]
  by_cases hc : a0.length ≤ 3000
  · rw [decide_eq_false (by omega), cond_false, tokens_eq _ a0 (by omega) (by omega) (by omega), bind_e rfl]
    cases ho : lexW a0 0 with
    | inl e =>
      obtain ⟨i1, i2, i3⟩ := lex_err a0 0 e ho
      show (bif (e.2 != 0) then (some ((((((([] : List Token).length : Nat) : Int) == 0) && (decide (((e.1 : Nat) : Int) ≥ 0))) && (decide (((e.1 : Nat) : Int) < ((a0.length : Nat) : Int)))))) else _) = _
      rw [ne0 i1, cond_true, decide_eq_true (by omega), decide_eq_true (by omega)]; rfl
    | inr l =>
      obtain ⟨q1, q2⟩ := lex_place a0 a0 0 l ho rfl
      have hle := lex_le a0 0 l ho
      show (bif ((0 : Int) != 0) then _ else ((actorgridlaw17_LexPlaces_loop1 100000 a0 (l, 0, 0) 100000 0).bind fun o8 => Md.onS o8 (fun x8_0 => some true) (fun r8 => some r8))) = _
      rw [bneq, cond_false, places_loop _ a0 l (by omega) (by omega) (fun t ht => (q1 t ht).1) q2 100000 0 (by omega)]
      rfl
  · rw [decide_eq_true (by omega), cond_true]
end Md
end Go.Proofs.YtjpiiejdaiaocaaDoor
