/-
  Layer 17 in plain words: texts joined by a line feed, places, quoted strings; the sanity check. Conditions: sizes.
-/
import Derived.Test.YtjpiiejdaiaocaaDoorLexPc
namespace Go.Proofs.YtjpiiejdaiaocaaDoor
set_option linter.unusedVariables false
set_option linter.unusedSimpArgs false
set_option maxRecDepth 10000
namespace Md
theorem tw_app (p : UInt8 → Bool) (hp : p 10 = false) (l b : List UInt8) : (l ++ 10 :: b).takeWhile p = l.takeWhile p := by
  induction l with
  | nil => rw [List.nil_append, List.takeWhile_cons_of_neg (by rw [hp]; exact Bool.false_ne_true)]; rfl
  | cons c r ih =>
    rw [List.cons_append, List.takeWhile_cons, List.takeWhile_cons, ih]
theorem getD_app (s b : List UInt8) (i : Nat) (h : i < s.length) : (s ++ b).getD i 0 = s.getD i 0 := by
  rw [List.getD_eq_getElem?_getD, List.getD_eq_getElem?_getD, List.getElem?_append_left h]
theorem escT_app (s b : List UInt8) (h : (escT s).2 ≠ 0) : escT (s ++ b) = escT s := by
  unfold escT at h ⊢
  by_cases h1 : 2 ≤ s.length ∧ ((s.getD 1 0).toNat = 34 ∨ (s.getD 1 0).toNat = 92)
  · rw [getD_app s b 1 (by omega), if_pos h1, if_pos ⟨by rw [List.length_append]; omega, h1.2⟩]
  · rw [if_neg h1] at h
    by_cases h2 : 4 ≤ s.length ∧ (s.getD 1 0).toNat = 120 ∧ 0 ≤ nib (s.getD 2 0) ∧ 0 ≤ nib (s.getD 3 0)
    · rw [getD_app s b 1 (by omega), getD_app s b 2 (by omega), getD_app s b 3 (by omega), if_neg h1, if_pos h2, if_neg (fun h3 => h1 ⟨by omega, h3.2⟩), if_pos ⟨by rw [List.length_append]; omega, h2.2⟩]
    · rw [if_neg h2] at h; exact absurd rfl h
theorem tx_app (s b : List UInt8) : ∀ x, txW s = some x → txW (s ++ b) = some x := by
  induction s using txW.induct with
  | case1 => intro x h; rw [txW] at h; cases h
  | case2 c r h ih =>
    intro x hx
    rw [txW, if_pos h] at hx
    cases ht : txW r with
    | none => rw [ht] at hx; cases hx
    | some y =>
      rw [ht] at hx
      rw [List.cons_append, txW, if_pos h, ih y ht]; exact hx
  | case3 c r h h2 =>
    intro x hx
    rw [txW, if_neg h, if_pos h2] at hx
    rw [List.cons_append, txW, if_neg h, if_pos h2]; exact hx
  | case4 c r h h2 h3 h4 =>
    intro x hx
    rw [txW, if_neg h, if_neg h2, if_pos h3, if_pos h4] at hx; cases hx
  | case5 c r h h2 h3 h4 ih =>
    intro x hx
    rw [txW, if_neg h, if_neg h2, if_pos h3, if_neg h4] at hx
    cases ht : txW (r.drop ((escT (c :: r)).2 - 1)) with
    | none => rw [ht] at hx; cases hx
    | some y =>
      rw [ht] at hx
      have he := escT_app (c :: r) b h4
      have hl := (escT_le (c :: r)).2
      rw [List.length_cons] at hl
      rw [List.cons_append] at he
      rw [List.cons_append, txW, if_neg h, if_neg h2, if_pos h3, he, if_neg h4, List.drop_append_of_le_length (by omega), ih y ht]; exact hx
  | case6 c r h h2 h3 =>
    intro x hx
    rw [txW, if_neg h, if_neg h2, if_neg h3] at hx; cases hx
theorem pr2_app (c : UInt8) (r b : List UInt8) : pr2 (c :: (r ++ 10 :: b)) = pr2 (c :: r) := by
  cases r with
  | cons d t =>
    unfold pr2 S2
    simp only [List.any_cons, List.any_nil, List.cons_append, hp2]
  | nil =>
    have h1 : pr2 [c] = false := by
      cases h : pr2 [c] with
      | false => rfl
      | true => obtain ⟨d, t, e⟩ := pr2_two h; cases e
    rw [h1]
    unfold pr2 S2
    simp only [List.any_cons, List.any_nil, List.nil_append, hp2]
    simp
theorem sym_app (c : UInt8) (r b : List UInt8) : symL c (r ++ 10 :: b) = symL c r := by unfold symL; rw [pr2_app]
theorem tok_app (c : UInt8) (r b : List UInt8) (h : (tokL c r).2.2 = 0) : tokL c (r ++ 10 :: b) = tokL c r := by
  unfold tokL at h ⊢
  rw [← List.cons_append, tw_app isW (by decide), tw_app isD (by decide)]
  split
  · rfl
  · rename_i hL
    rw [if_neg hL] at h
    split
    · rfl
    · rename_i hD
      rw [if_neg hD] at h
      split
      · rename_i h34
        rw [if_pos h34] at h
        cases ht : txW r with
        | none => rw [ht] at h; exact absurd h (by decide)
        | some x => rw [tx_app r _ x ht]
      · have hs := sym_le c r
        unfold syL
        rw [sym_app]
        split
        · rfl
        · rw [← List.cons_append, List.take_append_of_le_length hs]
theorem cm_app (c : UInt8) (r b : List UInt8) : cm c (r ++ 10 :: b) = cm c r := by
  cases r with
  | cons d t => rfl
  | nil => show (decide (c.toNat = 47) && false) = false; exact Bool.and_false _
def appR (l : List Token) : Sum (Nat × Int) (List Token) → Sum (Nat × Int) (List Token)
  | .inl e => .inl e
  | .inr m => .inr (l ++ m)
theorem appR_nil (o : Sum (Nat × Int) (List Token)) : appR [] o = o := by cases o <;> rfl
theorem appR_app (l m : List Token) (o : Sum (Nat × Int) (List Token)) : appR l (appR m o) = appR (l ++ m) o := by
  cases o with
  | inl e => rfl
  | inr q => show Sum.inr (l ++ (m ++ q)) = Sum.inr (l ++ m ++ q); rw [List.append_assoc]
theorem consT_inr {t : Token} {o : Sum (Nat × Int) (List Token)} {l : List Token} (h : consT t o = .inr l) : ∃ m, o = .inr m ∧ l = t :: m := by
  cases o with
  | inl e => cases h
  | inr m => cases h; exact ⟨m, rfl, rfl⟩
theorem lex_app (b s : List UInt8) (p : Nat) : ∀ l, lexW s p = .inr l → lexW (s ++ 10 :: b) p = appR l (lexW b (p + s.length + 1)) := by
  induction s, p using lexW.induct with
  | case1 p =>
    intro l h
    rw [lexW] at h
    cases h
    rw [List.nil_append, lexW, if_pos (by decide), appR_nil]; rfl
  | case2 p c r h ih =>
    intro l hl
    rw [lexW, if_pos h] at hl
    rw [List.cons_append, lexW, if_pos h, ih l hl, List.length_cons, show p + 1 + r.length + 1 = p + (r.length + 1) + 1 by omega]
  | case3 p c r h h2 ih =>
    intro l hl
    have ht := tw_le ne10 r
    rw [lexW, if_neg h, if_pos h2] at hl
    rw [List.cons_append, lexW, if_neg h, cm_app, if_pos h2, tw_app ne10 (by decide), List.drop_append_of_le_length ht, ih l hl, List.length_drop, List.length_cons, show p + (1 + (r.takeWhile ne10).length) + (r.length - (r.takeWhile ne10).length) + 1 = p + (r.length + 1) + 1 by omega]
  | case4 p c r h h2 h3 ih =>
    intro l hl
    obtain ⟨t1, t2⟩ := tok_len h3
    rw [List.length_cons] at t2
    rw [lexW, if_neg h, if_neg h2, if_pos h3] at hl
    obtain ⟨m, hm, rfl⟩ := consT_inr hl
    rw [List.cons_append, lexW, if_neg h, cm_app, if_neg h2, tok_app c r b h3, if_pos h3, List.drop_append_of_le_length (by omega), ih m hm, List.length_drop, List.length_cons, show p + (tokL c r).2.1 + (r.length - ((tokL c r).2.1 - 1)) + 1 = p + (r.length + 1) + 1 by omega]
    cases lexW b (p + (r.length + 1) + 1) <;> rfl
  | case5 p c r h h2 h3 =>
    intro l hl
    rw [lexW, if_neg h, if_neg h2, if_neg h3] at hl; cases hl
def sh (d : Nat) (t : Token) : Token := ⟨t.Kind, t.Text, t.Num, t.At + (d : Int)⟩
def shR (d : Nat) : Sum (Nat × Int) (List Token) → Sum (Nat × Int) (List Token)
  | .inl e => .inl (e.1 + d, e.2)
  | .inr m => .inr (m.map (sh d))
theorem lex_shift (d : Nat) (s : List UInt8) (p : Nat) : lexW s (p + d) = shR d (lexW s p) := by
  induction s, p using lexW.induct with
  | case1 p => rw [lexW, lexW]; rfl
  | case2 p c r h ih => rw [lexW, if_pos h, lexW, if_pos h, show p + d + 1 = p + 1 + d by omega]; exact ih
  | case3 p c r h h2 ih =>
    rw [lexW, if_neg h, if_pos h2, lexW, if_neg h, if_pos h2, show p + d + (1 + (r.takeWhile ne10).length) = p + (1 + (r.takeWhile ne10).length) + d by omega]; exact ih
  | case4 p c r h h2 h3 ih =>
    rw [lexW, if_neg h, if_neg h2, if_pos h3, lexW, if_neg h, if_neg h2, if_pos h3, show p + d + (tokL c r).2.1 = p + (tokL c r).2.1 + d by omega, ih]
    cases lexW (r.drop ((tokL c r).2.1 - 1)) (p + (tokL c r).2.1) with
    | inl e => rfl
    | inr m =>
      show Sum.inr ((⟨_, _, _, ((p + d : Nat) : Int)⟩ : Token) :: _) = Sum.inr ((⟨_, _, _, (p : Int) + (d : Int)⟩ : Token) :: _)
      rw [show ((p + d : Nat) : Int) = (p : Int) + (d : Int) from rfl]
  | case5 p c r h h2 h3 => rw [lexW, if_neg h, if_neg h2, if_neg h3, lexW, if_neg h, if_neg h2, if_neg h3]; rfl
theorem lex_at (s : List UInt8) (p : Nat) : lexW s p = shR p (lexW s 0) := by
  have h := lex_shift p s 0
  rw [Nat.zero_add] at h
  exact h
theorem lex_err (s : List UInt8) (p : Nat) : ∀ e, lexW s p = .inl e → e.2 ≠ 0 ∧ p ≤ e.1 ∧ e.1 < p + s.length := by
  induction s, p using lexW.induct with
  | case1 p => intro e h; rw [lexW] at h; cases h
  | case2 p c r h ih =>
    intro e he
    rw [lexW, if_pos h] at he
    obtain ⟨i1, i2, i3⟩ := ih e he
    rw [List.length_cons]; exact ⟨i1, by omega, by omega⟩
  | case3 p c r h h2 ih =>
    intro e he
    have ht := tw_le ne10 r
    rw [lexW, if_neg h, if_pos h2] at he
    obtain ⟨i1, i2, i3⟩ := ih e he
    rw [List.length_drop] at i3
    rw [List.length_cons]; exact ⟨i1, by omega, by omega⟩
  | case4 p c r h h2 h3 ih =>
    intro e he
    obtain ⟨t1, t2⟩ := tok_len h3
    rw [List.length_cons] at t2
    rw [lexW, if_neg h, if_neg h2, if_pos h3] at he
    cases ho : lexW (r.drop ((tokL c r).2.1 - 1)) (p + (tokL c r).2.1) with
    | inr m => rw [ho] at he; cases he
    | inl f =>
      rw [ho] at he
      obtain rfl : f = e := Sum.inl.inj he
      obtain ⟨i1, i2, i3⟩ := ih f ho
      rw [List.length_drop] at i3
      rw [List.length_cons]; exact ⟨i1, by omega, by omega⟩
  | case5 p c r h h2 h3 =>
    intro e he
    rw [lexW, if_neg h, if_neg h2, if_neg h3] at he
    cases he
    rw [List.length_cons]; exact ⟨h3, Nat.le_refl p, by show p < _; omega⟩
/-! ### places -/
def Place (src : List UInt8) (t : Token) : Prop := 0 ≤ t.At ∧ t.At < (src.length : Int) ∧ (t.Kind = 4 → (src.getD t.At.toNat 0).toNat = 34) ∧ (t.Kind ≠ 4 → 1 ≤ t.Text.length ∧ t.At + (t.Text.length : Int) ≤ (src.length : Int) ∧ (src.drop t.At.toNat).take t.Text.length = t.Text)
theorem tok_place {c : UInt8} {r : List UInt8} (h : (tokL c r).2.2 = 0) : ((tokL c r).1.Kind = 4 → c.toNat = 34) ∧ ((tokL c r).1.Kind ≠ 4 → 1 ≤ (tokL c r).1.Text.length ∧ (tokL c r).1.Text.length ≤ (c :: r).length ∧ (c :: r).take (tokL c r).1.Text.length = (tokL c r).1.Text) := by
  unfold tokL at h ⊢
  split at h
  · rename_i hL
    rw [if_pos hL]
    obtain ⟨t, e⟩ : ∃ t, (c :: r).takeWhile isW = c :: t := ⟨_, List.takeWhile_cons_of_pos (isW_of hL)⟩
    have ht := tw_le isW (c :: r)
    have hp : 1 ≤ ((c :: r).takeWhile isW).length := by rw [e, List.length_cons]; omega
    unfold wdL at h ⊢
    split at h
    · exact absurd h (by decide)
    · rename_i h2
      rw [if_neg h2]
      refine ⟨fun hk => ?_, fun _ => ⟨hp, ht, tw_take isW _⟩⟩
      exfalso
      revert hk
      show (if kwL ((c :: r).takeWhile isW) = true then (2 : Int) else 1) = 4 → False
      split <;> decide
  · rename_i hL
    rw [if_neg hL]
    split at h
    · rename_i hD
      rw [if_pos hD]
      obtain ⟨t, e⟩ : ∃ t, (c :: r).takeWhile isD = c :: t := ⟨_, List.takeWhile_cons_of_pos hD⟩
      have ht := tw_le isD (c :: r)
      have hp : 1 ≤ ((c :: r).takeWhile isD).length := by rw [e, List.length_cons]; omega
      unfold numL at h ⊢
      split at h
      · exact absurd h (by decide)
      · rename_i h2
        rw [if_neg h2]
        exact ⟨fun hk => absurd (show (3 : Int) = 4 from hk) (by decide), fun _ => ⟨hp, ht, tw_take isD _⟩⟩
    · rename_i hD
      rw [if_neg hD]
      split at h
      · rename_i h34
        rw [if_pos h34]
        cases ht : txW r with
        | none => rw [ht] at h; exact absurd h (by decide)
        | some x =>
          rw [ht] at h
          unfold txT at h ⊢
          dsimp only at h ⊢
          split at h
          · exact absurd h (by decide)
          · rename_i h2
            rw [if_neg h2]
            exact ⟨fun _ => h34, fun hk => absurd rfl hk⟩
      · rename_i h34
        rw [if_neg h34]
        have hs := sym_le c r
        unfold syL at h ⊢
        split at h
        · exact absurd h (by decide)
        · rename_i h0
          rw [if_neg h0]
          have e : ((c :: r).take (symL c r)).length = symL c r := by rw [List.length_take]; omega
          refine ⟨fun hk => absurd (show (5 : Int) = 4 from hk) (by decide), fun _ => ?_⟩
          show 1 ≤ ((c :: r).take (symL c r)).length ∧ ((c :: r).take (symL c r)).length ≤ _ ∧ (c :: r).take ((c :: r).take (symL c r)).length = (c :: r).take (symL c r)
          rw [e]
          exact ⟨by omega, hs, rfl⟩
theorem lex_place (src s : List UInt8) (p : Nat) : ∀ l, lexW s p = .inr l → src.drop p = s → (∀ t ∈ l, Place src t ∧ (p : Int) ≤ t.At) ∧ l.Pairwise (fun a b => a.At < b.At) := by
  induction s, p using lexW.induct with
  | case1 p => intro l h _; rw [lexW] at h; cases h; exact ⟨fun t ht => (by cases ht), List.Pairwise.nil⟩
  | case2 p c r h ih =>
    intro l hl hs
    rw [lexW, if_pos h] at hl
    obtain ⟨i1, i2⟩ := ih l hl (by rw [← List.drop_drop, hs]; rfl)
    exact ⟨fun t ht => ⟨(i1 t ht).1, by have := (i1 t ht).2; omega⟩, i2⟩
  | case3 p c r h h2 ih =>
    intro l hl hs
    rw [lexW, if_neg h, if_pos h2] at hl
    obtain ⟨i1, i2⟩ := ih l hl (by rw [← List.drop_drop, hs, Nat.add_comm 1, List.drop_succ_cons])
    exact ⟨fun t ht => ⟨(i1 t ht).1, by have := (i1 t ht).2; omega⟩, i2⟩
  | case4 p c r h h2 h3 ih =>
    intro l hl hs
    obtain ⟨t1, t2⟩ := tok_len h3
    obtain ⟨q1, q2⟩ := tok_place h3
    rw [lexW, if_neg h, if_neg h2, if_pos h3] at hl
    obtain ⟨m, hm, rfl⟩ := consT_inr hl
    obtain ⟨i1, i2⟩ := ih m hm (by
      obtain ⟨q, hq⟩ : ∃ q, (tokL c r).2.1 = q + 1 := ⟨(tokL c r).2.1 - 1, by omega⟩
      rw [← List.drop_drop, hs, hq, List.drop_succ_cons]; rfl)
    have hlen : (c :: r).length = src.length - p := by rw [← hs, List.length_drop]
    have hp : p < src.length := by rw [List.length_cons] at hlen; omega
    refine ⟨fun t ht => ?_, List.Pairwise.cons (fun t ht => ?_) i2⟩
    · rcases List.mem_cons.1 ht with rfl | ht
      · refine ⟨⟨by show (0 : Int) ≤ (p : Int); omega, by show (p : Int) < _; omega, fun hk => ?_, fun hk => ?_⟩, Int.le_refl _⟩
        · show (src.getD ((p : Int)).toNat 0).toNat = 34
          rw [Int.toNat_natCast]
          have e := drop_cons hp
          rw [hs] at e
          rw [← (List.cons.inj e).1]
          exact q1 hk
        · obtain ⟨k1, k2, k3⟩ := q2 hk
          refine ⟨k1, by show (p : Int) + ((tokL c r).1.Text.length : Int) ≤ _; omega, ?_⟩
          show (src.drop ((p : Int)).toNat).take _ = _
          rw [Int.toNat_natCast, hs]
          exact k3
      · exact ⟨(i1 t ht).1, by have := (i1 t ht).2; omega⟩
    · have := (i1 t ht).2
      show (p : Int) < t.At
      omega
  | case5 p c r h h2 h3 =>
    intro l hl
    rw [lexW, if_neg h, if_neg h2, if_neg h3] at hl; cases hl
/-! ### quoted strings -/
theorem hex_back (c : UInt8) : 0 ≤ nib (hexd (c.toNat / 16)) ∧ 0 ≤ nib (hexd (c.toNat % 16)) ∧ hexT (hexd (c.toNat / 16)) (hexd (c.toNat % 16)) = c :=
  u8_all (P := fun c => 0 ≤ nib (hexd (c.toNat / 16)) ∧ 0 ≤ nib (hexd (c.toNat % 16)) ∧ hexT (hexd (c.toNat / 16)) (hexd (c.toNat % 16)) = c) (by decide +kernel) c
theorem tx_quote (more : List UInt8) : ∀ s : List UInt8, txW (s.flatMap qc ++ 34 :: more) = some (s, (s.flatMap qc).length + 1)
  | [] => by
    show txW (34 :: more) = _
    rw [txW, if_neg (by decide), if_pos (by decide)]; rfl
  | c :: s => by
    have ih := tx_quote more s
    rw [List.flatMap_cons, List.append_assoc, List.length_append]
    rcases pl_cases c with ⟨h0, h1, h2⟩ | ⟨h0, h1⟩ | ⟨h0, h1, h2⟩
    · have e : qc c = [c] := by unfold qc; rw [if_neg h1, if_pos h2]
      rw [e]
      show txW (c :: (s.flatMap qc ++ 34 :: more)) = _
      rw [txW, if_pos h0, ih]
      show some (c :: s, (s.flatMap qc).length + 1 + 1) = some (c :: s, 1 + (s.flatMap qc).length + 1)
      rw [show (s.flatMap qc).length + 1 + 1 = 1 + (s.flatMap qc).length + 1 by omega]
    · have e : qc c = [92, c] := if_pos h1
      rw [e]
      show txW (92 :: c :: (s.flatMap qc ++ 34 :: more)) = _
      have he : escT (92 :: c :: (s.flatMap qc ++ 34 :: more)) = (c, 2) := by
        unfold escT
        rw [if_pos ⟨by simp, h1⟩]; rfl
      rw [txW, if_neg (by decide), if_neg (by decide), if_pos (by decide), he, tx_ne _ _ (by decide)]
      show (txW (s.flatMap qc ++ 34 :: more)).map (fun x => (c :: x.1, x.2 + 2)) = _
      rw [ih]
      show some (c :: s, (s.flatMap qc).length + 1 + 2) = some (c :: s, 2 + (s.flatMap qc).length + 1)
      rw [show (s.flatMap qc).length + 1 + 2 = 2 + (s.flatMap qc).length + 1 by omega]
    · have e : qc c = [92, 120, hexd (c.toNat / 16), hexd (c.toNat % 16)] := by unfold qc; rw [if_neg h1, h2, if_neg (by decide)]
      obtain ⟨b1, b2, b3⟩ := hex_back c
      rw [e]
      show txW (92 :: 120 :: hexd (c.toNat / 16) :: hexd (c.toNat % 16) :: (s.flatMap qc ++ 34 :: more)) = _
      have he : escT (92 :: 120 :: hexd (c.toNat / 16) :: hexd (c.toNat % 16) :: (s.flatMap qc ++ 34 :: more)) = (c, 4) := by
        unfold escT
        rw [if_neg (fun h => absurd h.2 (by show ¬ ((120 : UInt8).toNat = 34 ∨ (120 : UInt8).toNat = 92); decide)), if_pos ⟨by simp, rfl, b1, b2⟩]
        show (hexT (hexd (c.toNat / 16)) (hexd (c.toNat % 16)), 4) = (c, 4)
        rw [b3]
      rw [txW, if_neg (by decide), if_neg (by decide), if_pos (by decide), he, tx_ne _ _ (by decide)]
      show (txW (s.flatMap qc ++ 34 :: more)).map (fun x => (c :: x.1, x.2 + 4)) = _
      rw [ih]
      show some (c :: s, (s.flatMap qc).length + 1 + 4) = some (c :: s, 4 + (s.flatMap qc).length + 1)
      rw [show (s.flatMap qc).length + 1 + 4 = 4 + (s.flatMap qc).length + 1 by omega]
theorem lex_quote (s : List UInt8) (h : s.length ≤ 64) : lexW (quoteL s) 0 = .inr [⟨4, s, 0, 0⟩] := by
  have hT : tokL 34 (s.flatMap qc ++ [34]) = (⟨4, s, 0, 0⟩, 1 + ((s.flatMap qc).length + 1), 0) := by
    unfold tokL
    rw [if_neg (by decide), if_neg (by decide), if_pos (by decide), tx_quote [] s]
    show (if s.length > 64 then (zt, 0, 5) else _) = _
    rw [if_neg (by omega)]
  unfold quoteL
  rw [lexW, if_neg (by decide), if_neg (by
    cases s.flatMap qc ++ [34] with
    | nil => exact Bool.false_ne_true
    | cons d t => show ¬ (decide ((34 : UInt8).toNat = 47) && decide (d.toNat = 47)) = true; rw [decide_eq_false (by decide), Bool.false_and]; exact Bool.false_ne_true), hT, if_pos rfl]
  show consT _ (lexW ((s.flatMap qc ++ [34]).drop (1 + ((s.flatMap qc).length + 1) - 1)) _) = _
  rw [List.drop_eq_nil_of_le (by rw [List.length_append, List.length_singleton]; omega), lexW]
  rfl
/-! ### the sanity check -/
theorem lex_b {c : UInt8} {r : List UInt8} {p : Nat} (h : isB c = true) : lexW (c :: r) p = lexW r (p + 1) := by rw [lexW, if_pos h]
theorem lex_t {c : UInt8} {r : List UInt8} {p : Nat} {T : Token × Nat × Int} (h : isB c = false) (h2 : cm c r = false) (h3 : tokL c r = T) (h4 : T.2.2 = 0) : lexW (c :: r) p = consT ⟨T.1.Kind, T.1.Text, T.1.Num, (p : Int)⟩ (lexW (r.drop (T.2.1 - 1)) (p + T.2.1)) := by
  rw [lexW, if_neg (by rw [h]; exact Bool.false_ne_true), if_neg (by rw [h2]; exact Bool.false_ne_true), h3, if_pos h4]
theorem lex_c {c : UInt8} {r : List UInt8} {p : Nat} (h : isB c = false) (h2 : cm c r = true) : lexW (c :: r) p = lexW (r.drop (r.takeWhile ne10).length) (p + (1 + (r.takeWhile ne10).length)) := by
  rw [lexW, if_neg (by rw [h]; exact Bool.false_ne_true), if_pos h2]
theorem lex_e {c : UInt8} {r : List UInt8} {p : Nat} {T : Token × Nat × Int} (h : isB c = false) (h2 : cm c r = false) (h3 : tokL c r = T) (h4 : T.2.2 ≠ 0) : lexW (c :: r) p = .inl (p, T.2.2) := by
  rw [lexW, if_neg (by rw [h]; exact Bool.false_ne_true), if_neg (by rw [h2]; exact Bool.false_ne_true), h3, if_neg h4]
theorem lex_ex1 : lexW [120, 32, 60, 61, 32, 49, 48, 59, 32, 47, 47, 32, 101, 110, 100] 0 = .inr [⟨1, [120], 0, 0⟩, ⟨5, [60, 61], 0, 2⟩, ⟨3, [49, 48], 10, 5⟩, ⟨5, [59], 0, 7⟩] := by
  rw [lex_t (T := (⟨1, [120], 0, 0⟩, 1, 0)) (by decide) (by decide) (by decide +kernel) rfl]
  show consT _ (lexW [32, 60, 61, 32, 49, 48, 59, 32, 47, 47, 32, 101, 110, 100] 1) = _
  rw [lex_b (by decide), lex_t (T := (⟨5, [60, 61], 0, 0⟩, 2, 0)) (by decide) (by decide) (by decide +kernel) rfl]
  show consT _ (consT _ (lexW [32, 49, 48, 59, 32, 47, 47, 32, 101, 110, 100] 4)) = _
  rw [lex_b (by decide), lex_t (T := (⟨3, [49, 48], 10, 0⟩, 2, 0)) (by decide) (by decide) (by decide +kernel) rfl]
  show consT _ (consT _ (consT _ (lexW [59, 32, 47, 47, 32, 101, 110, 100] 7))) = _
  rw [lex_t (T := (⟨5, [59], 0, 0⟩, 1, 0)) (by decide) (by decide) (by decide +kernel) rfl]
  show consT _ (consT _ (consT _ (consT _ (lexW [32, 47, 47, 32, 101, 110, 100] 8)))) = _
  rw [lex_b (by decide), lex_c (by decide) (by decide)]
  show consT _ (consT _ (consT _ (consT _ (lexW [] _)))) = _
  rw [lexW]
  rfl
theorem lex_ex2 : lexW [97, 32, 48, 48, 55] 0 = .inl (2, 13) := by
  rw [lex_t (T := (⟨1, [97], 0, 0⟩, 1, 0)) (by decide) (by decide) (by decide +kernel) rfl]
  show consT _ (lexW [32, 48, 48, 55] 1) = _
  rw [lex_b (by decide), lex_e (T := (zt, 0, 13)) (by decide) (by decide) (by decide +kernel) (by decide)]
  rfl
theorem isName_eq (k : Nat) (s : List UInt8) (hl : s.length ≤ 100000) (hk : s.length < k) : ∃ b, lexer_IsName k s = some b ∧ actorgridref17_IsName k s = some b ∧ (b = true ↔ s ≠ [] ∧ s.length ≤ 32 ∧ (s.all isW) = true ∧ isD (s.getD 0 0) = false ∧ kwL s = false) := by
  have R : ∀ n j, s.length - j < n → actorgridref17_IsName_loop1 k s n j = some (if (s.drop j).all isW = true then .inl () else .inr false) := by
    intro n
    induction n with
    | zero => intro j h; omega
    | succ n ih =>
      intro j h
      rw [actorgridref17_IsName_loop1]
      by_cases hj : j < s.length
      · rw [decide_eq_true (by omega), cond_true, ifp_pos hj, (word1_eq k _).2, bind_e rfl, drop_cons hj, List.all_cons]
        cases hq : isW (s.getD j 0) with
        | true => rw [Bool.not_true, cond_false, ifp_pos (by omega), ih (j + 1) (by omega), Bool.true_and]
        | false => rfl
      · rw [decide_eq_false (by omega), cond_false, drop_none hj]; rfl
  have hR := R k 0 (by omega)
  rw [List.drop_zero] at hR
  have twl : ∀ l : List UInt8, (l.takeWhile isW).length = l.length ↔ l.all isW = true := by
    intro l
    induction l with
    | nil => simp
    | cons c r ih =>
      rw [List.takeWhile_cons, List.all_cons]
      cases hq : isW c with
      | true => rw [if_pos rfl, List.length_cons, List.length_cons, Bool.true_and, ← ih]; omega
      | false => rw [if_neg Bool.false_ne_true, Bool.false_and]; simp
  cases s with
  | nil =>
    refine ⟨false, ?_, ?_, ?_⟩
    · rfl
    · unfold actorgridref17_IsName; rw [hR]; rfl
    · simp
  | cons c r =>
    have hL : isL c = true → isD c = false := fun h => by
      have := u8_all (P := fun c => isL c = true → isD c = false) (by decide +kernel) c
      exact this h
    have w := word_eq k c r (by omega) hk
    refine ⟨decide ((c :: r).length ≤ 32 ∧ ((c :: r).all isW) = true ∧ isD c = false ∧ kwL (c :: r) = false), ?_, ?_, ?_⟩
    · unfold lexer_IsName
      rw [show decide ((c :: r) = ([] : List UInt8)) = false from by simp, Bool.not_false, Bool.true_and, w, bind_e rfl, (kw_eq k _).1, bind_e rfl]
      by_cases h32 : (c :: r).length ≤ 32
      · rw [decide_eq_true (by omega), cond_true, bind_e rfl]
        by_cases hw : ((c :: r).all isW) = true ∧ isD c = false
        · have hl2 : isL c = true := by
            have h1 := hw.1
            rw [List.all_cons, Bool.and_eq_true] at h1
            have h2 := h1.1
            unfold isW at h2
            rw [hw.2, Bool.or_false] at h2
            exact h2
          rw [hl2, cond_true, (twl (c :: r)).2 hw.1, beq_self_eq_true, cond_true, bind_e rfl]
          cases hkw : kwL (c :: r) with
          | true => rw [decide_eq_false (fun h => by cases h.2.2.2)]; rfl
          | false => rw [decide_eq_true ⟨h32, hw.1, hw.2, rfl⟩]; rfl
        · have : ((((bif isL c then ((c :: r).takeWhile isW).length else 0 : Nat) : Int)) == (((c :: r).length : Nat) : Int)) = false := by
            refine ib_f fun h => hw ?_
            cases hl2 : isL c with
            | true =>
              rw [hl2, cond_true] at h
              exact ⟨(twl _).1 (by omega), hL hl2⟩
            | false => rw [hl2, cond_false, List.length_cons] at h; omega
          rw [this, cond_false, bind_e rfl, decide_eq_false (fun h => hw ⟨h.2.1, h.2.2.1⟩)]
      · rw [decide_eq_false (by omega), cond_false, bind_e rfl, cond_false, bind_e rfl, decide_eq_false (fun h => h32 h.1)]
    · unfold actorgridref17_IsName
      rw [hR, bind_e rfl]
      by_cases ha : (c :: r).all isW = true
      · rw [if_pos ha]
        show ((((bif ((decide ((((c :: r).length : Nat) : Int) ≥ 1)) && (decide ((((c :: r).length : Nat) : Int) ≤ 32))) then (Md.ifp (0 < (c :: r).length) <| (actorgridref17_digit k ((c :: r).getD 0 0)).bind fun x7 => some (!x7)) else (some false)) : Option Bool).bind fun x3 => ((bif x3 then ((actorgridref17_IsKeyword k (c :: r)).bind fun x5 => some (!x5)) else (some false)) : Option Bool).bind fun x4 => some x4)) = _
        rw [decide_eq_true (p := (((c :: r).length : Nat) : Int) ≥ 1) (by rw [List.length_cons]; omega), Bool.true_and, ifp_pos (by rw [List.length_cons]; omega), show (c :: r).getD 0 0 = c from rfl, (digit_eq k c).2, bind_e rfl, (kw_eq k _).2, bind_e rfl]
        by_cases h32 : (c :: r).length ≤ 32
        · rw [decide_eq_true (by omega), cond_true, bind_e rfl]
          cases hd : isD c with
          | true => rw [Bool.not_true, cond_false, bind_e rfl, decide_eq_false (fun h => by cases h.2.2.1)]
          | false =>
            rw [Bool.not_false, cond_true, bind_e rfl]
            cases hkw : kwL (c :: r) with
            | true => rw [decide_eq_false (fun h => by cases h.2.2.2)]; rfl
            | false => rw [decide_eq_true ⟨h32, ha, rfl, rfl⟩]; rfl
        · rw [decide_eq_false (by omega), cond_false, bind_e rfl, cond_false, bind_e rfl, decide_eq_false (fun h => h32 h.1)]
      · rw [if_neg ha, decide_eq_false (p := (c :: r).length ≤ 32 ∧ ((c :: r).all isW) = true ∧ isD c = false ∧ kwL (c :: r) = false) (fun h => ha h.2.1)]; rfl
    · rw [decide_eq_true_eq]
      exact ⟨fun h => ⟨by simp, h⟩, fun h => h.2⟩
theorem awake_eq (k : Nat) (hk : 300 ≤ k) : actorgridlaw17_awake k = some true := by
  unfold actorgridlaw17_awake
  rw [tokens_eq k [120, 32, 60, 61, 32, 49, 48, 59, 32, 47, 47, 32, 101, 110, 100] (by simp) (by simp; omega) (by omega), tokens_eq k [97, 32, 48, 48, 55] (by simp) (by simp; omega) (by omega), lex_ex1, lex_ex2, bind_e rfl, bind_e rfl, (quote_eq k [10, 34] (by simp) (by simp; omega)).1, (kw_eq k _).1]
  obtain ⟨b1, h1, _, h2⟩ := isName_eq k [95, 120, 57] (by simp) (by simp; omega)
  obtain ⟨b2, h3, _, h4⟩ := isName_eq k [57, 120] (by simp) (by simp; omega)
  obtain rfl : b1 = true := h2.2 (by decide +kernel)
  obtain rfl : b2 = false := by
    cases b2 with
    | false => rfl
    | true => exact absurd (h4.1 rfl).2.2.2.1 (by decide)
  rw [h1, h3]
  decide +kernel
end Md
end Go.Proofs.YtjpiiejdaiaocaaDoor
