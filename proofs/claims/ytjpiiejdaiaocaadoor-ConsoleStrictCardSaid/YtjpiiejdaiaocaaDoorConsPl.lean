/-
  Layer 41 in plain words: the six laws. Conditions: none but the arguments' form.
-/
import Derived.Test.YtjpiiejdaiaocaaDoorConsPf
import Derived.RowKit
namespace Go.Proofs.YtjpiiejdaiaocaaDoor
set_option linter.unusedVariables false
set_option linter.unusedSimpArgs false
set_option maxRecDepth 10000
namespace Md
open Go.RowKit
theorem and_t {a b : Bool} (ha : a = true) (hb : b = true) : (a && b) = true := by rw [ha, hb]; rfl
theorem getD_memG {α : Type} [Inhabited α] {l : List α} {j : Nat} (h : j < l.length) : l.getD j default ∈ l := by
  rw [List.getD_eq_getElem?_getD, List.getElem?_eq_getElem h]; exact List.getElem_mem h
theorem nm_ok (r : Nat) (h : r < 6) : nameL ([([97] : List UInt8), ([65, 99, 99, 111, 117, 110, 116] : List UInt8), ([120, 95, 49] : List UInt8), ([116, 111, 112, 105, 99] : List UInt8), ([95] : List UInt8), ([90, 122, 57] : List UInt8)].getD r default) = true := by
  rcases (by omega : r = 0 ∨ r = 1 ∨ r = 2 ∨ r = 3 ∨ r = 4 ∨ r = 5) with rfl | rfl | rfl | rfl | rfl | rfl <;> decide
theorem mod6 (a : UInt8) : (a % (6 : UInt8)).toNat < 6 := by rw [UInt8.toNat_mod]; exact Nat.mod_lt _ (by decide)
theorem mod7 (a : UInt8) : (a % (7 : UInt8)).toNat < 7 := by rw [UInt8.toNat_mod]; exact Nat.mod_lt _ (by decide)
theorem v12 (K : Int) (T ty ky m : List UInt8) (hK : K = 1 ∨ K = 2) (h1 : nameL T = true) (h2 : nameL ty = true) (h3 : ky.length ≤ 32) (h4 : nameL m = true) : validL ⟨K, T, ⟨ty, ky⟩, m, 0⟩ = true := by
  have e : ∀ lo hi : Int, ([116, 97, 107, 109] : List UInt8).all (fun p => okP lo hi p ⟨K, T, ⟨ty, ky⟩, m, 0⟩) = true := fun lo hi => by
    show (nameL T && (nameL ty && (decide (ky.length ≤ 32) && (nameL m && true)))) = true
    rw [h1, h2, h4, decide_eq_true h3]; rfl
  unfold validL
  rcases hK with rfl | rfl
  · exact and_t rfl (and_t (e 0 0) (decide_eq_true rfl))
  · exact and_t rfl (and_t (e 0 0) (decide_eq_true rfl))
theorem v3 (ty ky : List UInt8) (n : Int) (h2 : nameL ty = true) (h3 : ky.length ≤ 32) (h4 : 1 ≤ n ∧ n ≤ 1000) : validL ⟨3, [], ⟨ty, ky⟩, [], n⟩ = true := by
  unfold validL
  refine and_t rfl (and_t ?_ (decide_eq_true rfl))
  show (nameL ty && (decide (ky.length ≤ 32) && ((decide ((1 : Int) ≤ n) && decide (n ≤ 1000)) && true))) = true
  rw [h2, decide_eq_true h3, decide_eq_true h4.1, decide_eq_true h4.2]; rfl
theorem v4 (n : Int) (h4 : 1 ≤ n ∧ n ≤ 1099511627776) : validL ⟨4, [], ⟨[], []⟩, [], n⟩ = true := by
  unfold validL
  refine and_t rfl (and_t ?_ (decide_eq_true rfl))
  show ((decide ((1 : Int) ≤ n) && decide (n ≤ 1099511627776)) && true) = true
  rw [decide_eq_true h4.1, decide_eq_true h4.2]; rfl
theorem v5 (n : Int) (h4 : 0 ≤ n ∧ n ≤ 100) : validL ⟨5, [], ⟨[], []⟩, [], n⟩ = true := by
  unfold validL
  refine and_t rfl (and_t ?_ (decide_eq_true rfl))
  show ((decide ((0 : Int) ≤ n) && decide (n ≤ 100)) && true) = true
  rw [decide_eq_true h4.1, decide_eq_true h4.2]; rfl
theorem command_eq (k : Nat) (a0 a1 a2 a3 : UInt8) (a4 : List UInt8) (a5 : UInt64) : ∃ c, actorgridlaw41_command k a0 a1 a2 a3 a4 a5 = some c ∧ validL c = true := by
  unfold actorgridlaw41_command
  have n1 := nm_ok _ (mod6 a1); have n2 := nm_ok _ (mod6 a2); have n3 := nm_ok _ (mod6 a3)
  have hr := mod7 a0
  have E1 : ∀ {β : Type} (x : Option β), Md.ifp ((a1 % (6 : UInt8)).toNat < [([97] : List UInt8), ([65, 99, 99, 111, 117, 110, 116] : List UInt8), ([120, 95, 49] : List UInt8), ([116, 111, 112, 105, 99] : List UInt8), ([95] : List UInt8), ([90, 122, 57] : List UInt8)].length) x = x := fun x => ifp_pos (mod6 a1)
  have E2 : ∀ {β : Type} (x : Option β), Md.ifp ((a2 % (6 : UInt8)).toNat < [([97] : List UInt8), ([65, 99, 99, 111, 117, 110, 116] : List UInt8), ([120, 95, 49] : List UInt8), ([116, 111, 112, 105, 99] : List UInt8), ([95] : List UInt8), ([90, 122, 57] : List UInt8)].length) x = x := fun x => ifp_pos (mod6 a2)
  have E3 : ∀ {β : Type} (x : Option β), Md.ifp ((a3 % (6 : UInt8)).toNat < [([97] : List UInt8), ([65, 99, 99, 111, 117, 110, 116] : List UInt8), ([120, 95, 49] : List UInt8), ([116, 111, 112, 105, 99] : List UInt8), ([95] : List UInt8), ([90, 122, 57] : List UInt8)].length) x = x := fun x => ifp_pos (mod6 a3)
  have E4 : ∀ {β : Type} (x : Option β), Md.ifp ((min a4.length 32) ≤ a4.length) x = x := fun x => ifp_pos (by omega)
  simp only [E1, E2, E3, E4]
  have hk : (a4.take (min a4.length 32)).length ≤ 32 := by rw [List.length_take]; omega
  have m1 : (a5 % (1000 : UInt64)).toNat < 1000 := by rw [UInt64.toNat_mod]; exact Nat.mod_lt _ (by decide)
  have m2 : (a5 % (1099511627776 : UInt64)).toNat < 1099511627776 := by rw [UInt64.toNat_mod]; exact Nat.mod_lt _ (by decide)
  have m3 : (a5 % (101 : UInt64)).toNat < 101 := by rw [UInt64.toNat_mod]; exact Nat.mod_lt _ (by decide)
  generalize (a0 % (7 : UInt8)).toNat = r at *
  generalize (a5 % (1000 : UInt64)).toNat = z1 at *
  generalize (a5 % (1099511627776 : UInt64)).toNat = z2 at *
  generalize (a5 % (101 : UInt64)).toNat = z3 at *
  generalize [([97] : List UInt8), ([65, 99, 99, 111, 117, 110, 116] : List UInt8), ([120, 95, 49] : List UInt8), ([116, 111, 112, 105, 99] : List UInt8), ([95] : List UInt8), ([90, 122, 57] : List UInt8)].getD (a1 % (6 : UInt8)).toNat default = w1 at *
  generalize [([97] : List UInt8), ([65, 99, 99, 111, 117, 110, 116] : List UInt8), ([120, 95, 49] : List UInt8), ([116, 111, 112, 105, 99] : List UInt8), ([95] : List UInt8), ([90, 122, 57] : List UInt8)].getD (a2 % (6 : UInt8)).toNat default = w2 at *
  generalize [([97] : List UInt8), ([65, 99, 99, 111, 117, 110, 116] : List UInt8), ([120, 95, 49] : List UInt8), ([116, 111, 112, 105, 99] : List UInt8), ([95] : List UInt8), ([90, 122, 57] : List UInt8)].getD (a3 % (6 : UInt8)).toNat default = w3 at *
  rw [ifp_pos (by omega)]
  rw [W_id (n := ((z1 : Nat) : Int)) (by omega) (by omega), W_id (n := ((z2 : Nat) : Int)) (by omega) (by omega), W_id (n := ((z3 : Nat) : Int)) (by omega) (by omega), W_id (n := ((z1 : Nat) : Int) + 1) (by omega) (by omega), W_id (n := ((z2 : Nat) : Int) + 1) (by omega) (by omega)]
  generalize a4.take (min a4.length 32) = ky at *
  rcases (by omega : r = 0 ∨ r = 1 ∨ r = 2 ∨ r = 3 ∨ r = 4 ∨ r = 5 ∨ r = 6) with rfl | rfl | rfl | rfl | rfl | rfl | rfl
  · exact ⟨⟨1, w1, ⟨w2, ky⟩, w3, 0⟩, rfl, v12 1 _ _ _ _ (Or.inl rfl) n1 n2 hk n3⟩
  · exact ⟨⟨2, w1, ⟨w2, ky⟩, w3, 0⟩, rfl, v12 2 _ _ _ _ (Or.inr rfl) n1 n2 hk n3⟩
  · exact ⟨⟨3, [], ⟨w2, ky⟩, [], (z1 : Int) + 1⟩, rfl, v3 _ _ _ n2 hk (by omega)⟩
  · exact ⟨⟨4, [], ⟨[], []⟩, [], (z2 : Int) + 1⟩, rfl, v4 _ (by omega)⟩
  · exact ⟨⟨5, [], ⟨[], []⟩, [], (z3 : Int)⟩, rfl, v5 _ (by omega)⟩
  · exact ⟨⟨6, [], ⟨[], []⟩, [], 0⟩, rfl, by decide⟩
  · exact ⟨⟨7, [], ⟨[], []⟩, [], 0⟩, rfl, by decide⟩
theorem flat_bound (a : ConsoleCommand) : ∀ ps : List UInt8, (∀ p ∈ ps, (textL p a).length ≤ 200) → (ps.flatMap (fun p => 32 :: textL p a)).length ≤ 201 * ps.length
  | [], _ => by simp
  | p :: ps, h => by
    have h1 := h p (by simp)
    have h2 := flat_bound a ps (fun q hq => h q (by simp [hq]))
    rw [List.flatMap_cons, List.length_append, List.length_cons, List.length_cons]
    omega
theorem word_pos (i : Int) (h : 1 ≤ i ∧ i ≤ 7) : 1 ≤ (fms.get i).word.length := by
  rcases (by omega : i = 1 ∨ i = 2 ∨ i = 3 ∨ i = 4 ∨ i = 5 ∨ i = 6 ∨ i = 7) with rfl | rfl | rfl | rfl | rfl | rfl | rfl <;> decide
theorem line_len {a : ConsoleCommand} (h : validL a = true) : formatL a = lineL a ∧ 1 ≤ (lineL a).length ∧ (lineL a).length ≤ 900 := by
  obtain ⟨h1, h2, _⟩ := validL_parts h
  have F := fmt_ok a.Kind (by omega)
  have hf := flat_bound a (fms.get a.Kind).words (fun p hp => (okP_text (h2 p hp).1 F.rng.1 F.rng.2 (h2 p hp).2).1)
  have hw := word_pos a.Kind h1
  have := F.len; have := F.wlen
  refine ⟨by unfold formatL; rw [h]; rfl, ?_, ?_⟩ <;> unfold lineL <;> rw [List.length_append] <;> omega
theorem bneq (z : Int) : (z != z) = false := by simp
theorem ConsoleCommands_law (a0 : ConsoleCommand) (a1 : List UInt8) (h0 : a0.ok) (h1 : a1.length ≤ maxLen) : ∃ k, actorgridlaw41_ConsoleCommands k a0 a1 = some true := by
  have h1' : a1.length ≤ 9223372036854775807 := h1
  obtain ⟨_, i1, i2, i3, _⟩ := h0
  have i4 : a0.Actor.fType.length ≤ 9223372036854775807 := i2.1
  refine ⟨a1.length + a0.Topic.length + a0.Actor.fType.length + a0.Method.length + 1000, ?_⟩
  generalize hk : a1.length + a0.Topic.length + a0.Actor.fType.length + a0.Method.length + 1000 = k
  unfold actorgridlaw41_ConsoleCommands
  rw [awake_eq k (by omega), bind_e rfl, Bool.not_true, cond_false, valid_eq k a0 (by omega), bind_e rfl, validR_eq k a0 (by omega) ⟨by omega, i1⟩ ⟨by omega, i4⟩ ⟨by omega, i3⟩, bind_e rfl, beq_self_eq_true, cond_true, format_eq k a0 (by omega), bind_e rfl, formatR_eq k a0 (by omega) ⟨by omega, i1⟩ ⟨by omega, i4⟩ ⟨by omega, i3⟩, bind_e rfl, decide_eq_true rfl, cond_true, name_eq k a1 (by omega), bind_e rfl, nameR_eq k a1 h1' (by omega), bind_e rfl, beq_self_eq_true]
theorem quotes_loop (k : Nat) (a0 a1 x9 : List UInt8) (L : List (List UInt8)) (hL : [a0, a1, (([34] : List UInt8) ++ a0), (x9 ++ a1)] = L) (hs : ∀ s ∈ L, s.length ≤ 4000) (hk : 5000 ≤ k) : ∀ n j, L.length - j < n → actorgridlaw41_ConsoleQuotes_loop1 k a0 a1 x9 n j = some (.inl ()) := by
  intro n
  have h4 : L.length = 4 := by rw [← hL]; rfl
  induction n with
  | zero => intro j h; omega
  | succ n ih =>
    intro j h
    rw [actorgridlaw41_ConsoleQuotes_loop1, hL]
    by_cases hj : j < L.length
    · have hg := hs _ (getD_memG hj)
      rw [decide_eq_true (by omega), cond_true, ifp_pos hj, unquote_eq k _ (by omega) (by omega) (by omega), bind_e rfl, unquoteR_eq k _ (by omega) (by omega) (by omega), bind_e rfl, decide_eq_true rfl, bneq, bneq]
      show Md.ifp _ _ = _
      rw [ifp_pos (by omega), ih (j + 1) (by omega)]
    · rw [decide_eq_false (by omega), cond_false]
theorem quote_len (s : List UInt8) : (quoteL s).length ≤ 4 * s.length + 2 := by
  have := flat_len s
  unfold quoteL
  rw [List.length_cons, List.length_append, List.length_singleton]; omega
theorem qc_pos (c : UInt8) : 1 ≤ (qc c).length := by
  unfold qc; split
  · simp
  · split <;> simp
theorem quote_ge : ∀ s : List UInt8, s.length ≤ (s.flatMap qc).length
  | [] => by simp
  | c :: s => by
    have := qc_pos c; have := quote_ge s
    rw [List.flatMap_cons, List.length_append, List.length_cons]; omega
theorem ConsoleQuotes_law (a0 a1 : List UInt8) (h0 : a0.length ≤ maxLen) (h1 : a1.length ≤ maxLen) : ∃ k, actorgridlaw41_ConsoleQuotes k a0 a1 = some true := by
  refine ⟨100000, ?_⟩
  unfold actorgridlaw41_ConsoleQuotes
  rw [awake_eq _ (by omega), bind_e rfl, Bool.not_true, cond_false]
  by_cases hc : a0.length ≤ 500 ∧ a1.length ≤ 500
  · have hq := quote_len a0
    rw [decide_eq_false (by omega), decide_eq_false (by omega), Bool.or_false, cond_false, quote_eq _ a0 (by omega) (by omega), bind_e rfl, quoteR_eq _ a0 (by omega) (by omega), bind_e rfl, decide_eq_true rfl, Bool.not_true, cond_false, ifp_pos (by rw [List.length_singleton]; omega), bind_e rfl, ifp_pos (by omega)]
    rw [quotes_loop _ a0 a1 (quoteL a0) _ rfl ?_ (by omega) _ 0 (by show 4 - 0 < _; omega)]
    · rfl
    · intro s hs
      simp only [List.mem_cons, List.mem_nil_iff, or_false] at hs
      rcases hs with rfl | rfl | rfl | rfl
      · omega
      · omega
      · rw [List.length_append, List.length_singleton]; omega
      · rw [List.length_append]; omega
  · have : (decide (((a0.length : Nat) : Int) > 500) || decide (((a1.length : Nat) : Int) > 500)) = true := by
      rw [Bool.or_eq_true, decide_eq_true_eq, decide_eq_true_eq]; omega
    rw [this, cond_true]
theorem ConsoleQuoteTrip_law (a0 a1 : List UInt8) (h0 : a0.length ≤ maxLen) (h1 : a1.length ≤ maxLen) : ∃ k, actorgridlaw41_ConsoleQuoteTrip k a0 a1 = some true := by
  refine ⟨100000, ?_⟩
  unfold actorgridlaw41_ConsoleQuoteTrip
  rw [awake_eq _ (by omega), bind_e rfl, Bool.not_true, cond_false]
  by_cases hc : a0.length ≤ 500 ∧ a1.length ≤ 500
  · have hq := quote_len a0
    have hl : (([34] : List UInt8) ++ a1).length = a1.length + 1 := by simp
    rw [decide_eq_false (by omega), decide_eq_false (by omega), Bool.or_false, cond_false, quote_eq _ a0 (by omega) (by omega), bind_e rfl, ifp_pos (by omega), unquote_eq _ _ (by omega) (by rw [List.length_append]; omega) (by rw [List.length_append]; omega), unquote_quote, bind_e rfl]
    rw [show ((((0 : Int) != 0) || (!(decide (a0 = a0)))) || (((quoteL a0).length : Int) != ((quoteL a0).length : Int))) = false from by simp, cond_false]
    rw [ifp_pos (by rw [List.length_singleton]; omega), unquote_eq _ _ (by omega) (by omega) (by omega), bind_e rfl]
    by_cases he : (unquote (([34] : List UInt8) ++ a1)).2.2 = 0
    · obtain ⟨t, m, e, hu⟩ : ∃ t m e, unquote (([34] : List UInt8) ++ a1) = (t, m, e) := ⟨_, _, _, rfl⟩
      rw [hu] at he ⊢
      obtain rfl : e = 0 := he
      obtain ⟨rest, hr, hm⟩ := unquote_back hu
      have hl2 : (quoteL t).length ≤ a1.length + 1 := by rw [← hl, hr, List.length_append]; omega
      have hg := quote_ge t
      have hq2 : (quoteL t).length = (t.flatMap qc).length + 2 := by unfold quoteL; simp
      rw [bneq, cond_false, ifp_pos (by omega), decide_eq_true (by show m ≤ _; omega), cond_true, ifp_pos (by rw [List.length_singleton]; omega), ifp_pos (by show 0 ≤ m; omega), ifp_pos (by show m.toNat ≤ _; omega), quote_eq _ t (by omega) (by omega), bind_e rfl]
      rw [decide_eq_true]
      show List.take m.toNat _ = _
      rw [hr, hm, Int.toNat_natCast, List.take_left']
      rfl
    · obtain ⟨e1, e2⟩ := unquote_err he
      rw [show (((unquote (([34] : List UInt8) ++ a1)).2.2 != 0) = true) from by simpa using he, cond_true, e1, e2]
      rfl
  · have : (decide (((a0.length : Nat) : Int) > 500) || decide (((a1.length : Nat) : Int) > 500)) = true := by
      rw [Bool.or_eq_true, decide_eq_true_eq, decide_eq_true_eq]; omega
    rw [this, cond_true]
theorem ConsoleTrip_law (a0 a1 a2 a3 : UInt8) (a4 : List UInt8) (a5 : UInt64) (h4 : a4.length ≤ maxLen) : ∃ k, actorgridlaw41_ConsoleTrip k a0 a1 a2 a3 a4 a5 = some true := by
  refine ⟨100000, ?_⟩
  unfold actorgridlaw41_ConsoleTrip
  obtain ⟨c, hc, hv⟩ := command_eq 100000 a0 a1 a2 a3 a4 a5
  obtain ⟨l0, l1, l2⟩ := line_len hv
  rw [awake_eq _ (by omega), bind_e rfl, Bool.not_true, cond_false, hc, bind_e rfl, format_eq _ c (by omega), bind_e rfl, l0, parse_eq _ _ (by omega) (by omega) (by omega), bind_e rfl, valid_eq _ c (by omega), bind_e rfl, parse_line hv, hv]
  show some ((((true && true) && decide (c = c)) && ((((lineL c).length : Nat) : Int) == (((lineL c).length : Nat) : Int))) && decide ((((lineL c).length : Nat) : Int) > 0)) = some true
  rw [decide_eq_true rfl, beq_self_eq_true, decide_eq_true (by omega)]; rfl
theorem pick_eq (a7 : Int) (n : Nat) (h1 : 1 ≤ n) (h2 : n ≤ 900) : ∃ t : Nat, Md.W (((UInt64.ofInt a7) % (UInt64.ofNat n)).toNat : Int) = (t : Int) ∧ t < n ∧ UInt64.ofNat n ≠ 0 ∧ Md.W ((t : Int) + 1) = ((t + 1 : Nat) : Int) := by
  have hn : (UInt64.ofNat n).toNat = n := by rw [UInt64.toNat_ofNat']; omega
  have hlt : ((UInt64.ofInt a7) % (UInt64.ofNat n)).toNat < n := by
    rw [UInt64.toNat_mod, hn]; exact Nat.mod_lt _ (by omega)
  refine ⟨_, W_id (by omega) (by omega), hlt, fun h => ?_, by rw [W_id (by omega) (by omega)]; rfl⟩
  rw [h] at hn
  have : (0 : UInt64).toNat = 0 := rfl
  omega
theorem parses_loop (k : Nat) (a0 : List UInt8) (a7 : Int) (a8 : UInt8) (x5 : List UInt8) (L : List (List UInt8)) (hL : [a0, x5, (((x5.take (((Md.W (((UInt64.ofInt a7) % (UInt64.ofNat x5.length)).toNat : Int))).toNat)) ++ [a8]) ++ (x5.drop (((Md.W ((Md.W (((UInt64.ofInt a7) % (UInt64.ofNat x5.length)).toNat : Int)) + 1))).toNat))), (x5.take (((Md.W (((UInt64.ofInt a7) % (UInt64.ofNat x5.length)).toNat : Int))).toNat)), (((x5.take (((Md.W (((UInt64.ofInt a7) % (UInt64.ofNat x5.length)).toNat : Int))).toNat)) ++ [a8]) ++ (x5.drop (((Md.W (((UInt64.ofInt a7) % (UInt64.ofNat x5.length)).toNat : Int))).toNat))), ((x5.take (((Md.W (((UInt64.ofInt a7) % (UInt64.ofNat x5.length)).toNat : Int))).toNat)) ++ (x5.drop (((Md.W ((Md.W (((UInt64.ofInt a7) % (UInt64.ofNat x5.length)).toNat : Int)) + 1))).toNat))), (x5 ++ a0)] = L) (hs : ∀ s ∈ L, s.length ≤ 4000) (hk : 5000 ≤ k) : ∀ n j, L.length - j < n → actorgridlaw41_ConsoleParses_loop1 k a0 a7 a8 x5 n j = some (.inl ()) := by
  intro n
  have h4 : L.length = 7 := by rw [← hL]; rfl
  induction n with
  | zero => intro j h; omega
  | succ n ih =>
    intro j h
    rw [actorgridlaw41_ConsoleParses_loop1, hL]
    by_cases hj : j < L.length
    · have hg := hs _ (getD_memG hj)
      rw [decide_eq_true (by omega), cond_true, ifp_pos hj, parse_eq k _ (by omega) (by omega) (by omega), bind_e rfl, parseR_eq k _ (by omega) (by omega) (by omega), bind_e rfl, decide_eq_true rfl, bneq, bneq]
      show Md.ifp _ _ = _
      rw [ifp_pos (by omega), ih (j + 1) (by omega)]
    · rw [decide_eq_false (by omega), cond_false]
theorem strict_loop (k : Nat) (a0 : List UInt8) (a7 : Int) (a8 : UInt8) (x5 : List UInt8) (L : List (List UInt8)) (hL : [a0, (((x5.take (((Md.W (((UInt64.ofInt a7) % (UInt64.ofNat x5.length)).toNat : Int))).toNat)) ++ [a8]) ++ (x5.drop (((Md.W ((Md.W (((UInt64.ofInt a7) % (UInt64.ofNat x5.length)).toNat : Int)) + 1))).toNat))), ((x5.take (((Md.W (((UInt64.ofInt a7) % (UInt64.ofNat x5.length)).toNat : Int))).toNat)) ++ (x5.drop (((Md.W ((Md.W (((UInt64.ofInt a7) % (UInt64.ofNat x5.length)).toNat : Int)) + 1))).toNat))), (x5 ++ a0)] = L) (hs : ∀ s ∈ L, s.length ≤ 4000) (hk : 5000 ≤ k) : ∀ n j, L.length - j < n → actorgridlaw41_ConsoleStrict_loop1 k a0 a7 a8 x5 n j = some (.inl ()) := by
  intro n
  have h4 : L.length = 4 := by rw [← hL]; rfl
  induction n with
  | zero => intro j h; omega
  | succ n ih =>
    intro j h
    rw [actorgridlaw41_ConsoleStrict_loop1, hL]
    by_cases hj : j < L.length
    · have hg := hs _ (getD_memG hj)
      rw [decide_eq_true (by omega), cond_true, ifp_pos hj]
      generalize L.getD j default = s at hg ⊢
      rw [parse_eq k _ (by omega) (by omega) (by omega), bind_e rfl]
      obtain ⟨c, m, e, hp⟩ : ∃ c m e, parseL s = (c, m, e) := ⟨_, _, _, rfl⟩
      have step : ∀ b : Bool, b = false → (bif b then (some (Sum.inr false)) else (Md.ifp (j + 1 ≤ 9223372036854775807) <| actorgridlaw41_ConsoleStrict_loop1 k a0 a7 a8 x5 n (j + 1))) = some (.inl ()) := fun b hb => by
        rw [hb, cond_false, ifp_pos (by omega), ih (j + 1) (by omega)]
      by_cases he : e = 0
      · subst he
        obtain ⟨hv, hf, hm⟩ := parse_back hp
        rw [hp]
        show (Option.bind (bif ((0 : Int) == 0) then _ else _) _) = _
        rw [show ((0 : Int) == 0) = true from rfl, cond_true, valid_eq k c (by omega), bind_e rfl, hv, Bool.not_true, cond_false, format_eq k c (by omega), bind_e rfl, hf, decide_eq_true rfl, bind_e rfl, hm, bneq, bind_e rfl]
        exact step _ (by simp)
      · obtain ⟨e1, e2, e3⟩ := parse_err (s := s) (by rw [hp]; exact he)
        rw [hp] at e1 e2 e3 ⊢
        show (Option.bind (bif (e == 0) then _ else _) _) = _
        rw [show (e == 0) = false from by simpa using he, cond_false, bind_e rfl]
        refine step _ ?_
        have e1' : c = (⟨0, ([] : List UInt8), (⟨([] : List UInt8), ([] : List UInt8)⟩ : Ref), ([] : List UInt8), 0⟩ : ConsoleCommand) := e1
        have e2' : 0 ≤ m := e2
        have e3' : m ≤ (s.length : Int) := e3
        show (false || ((e != 0) && (((!(decide (c = _))) || (decide (m < 0))) || (decide (m > _))))) = false
        rw [e1', decide_eq_true rfl, decide_eq_false (by omega), decide_eq_false (by omega)]
        simp
    · rw [decide_eq_false (by omega), cond_false]
theorem ConsoleParses_law (a0 : List UInt8) (a1 a2 a3 a4 : UInt8) (a5 : List UInt8) (a6 : UInt64) (a7 : Int) (a8 : UInt8) (h0 : a0.length ≤ maxLen) (h5 : a5.length ≤ maxLen) (h7 : Md.I64 a7) : ∃ k, actorgridlaw41_ConsoleParses k a0 a1 a2 a3 a4 a5 a6 a7 a8 = some true := by
  refine ⟨100000, ?_⟩
  unfold actorgridlaw41_ConsoleParses
  rw [awake_eq _ (by omega), bind_e rfl, Bool.not_true, cond_false]
  by_cases hc : a0.length ≤ 500
  · obtain ⟨c, hcm, hv⟩ := command_eq 100000 a1 a2 a3 a4 a5 a6
    obtain ⟨l0, l1, l2⟩ := line_len hv
    rw [decide_eq_false (by omega), cond_false, hcm, bind_e rfl, format_eq _ c (by omega), bind_e rfl, l0]
    generalize lineL c = x5 at l1 l2 ⊢
    obtain ⟨t, ht, hlt, hn0, ht1⟩ := pick_eq a7 x5.length l1 l2
    rw [show ((((x5.length : Nat) : Int)) == 0) = false from ib_f (by omega), cond_false, ifp_pos hn0]
    have hT : (x5.take t).length ≤ 900 := by rw [List.length_take]; omega
    have hD : (x5.drop t).length ≤ 900 := by rw [List.length_drop]; omega
    have hD1 : (x5.drop (t + 1)).length ≤ 900 := by rw [List.length_drop]; omega
    have loop := parses_loop 100000 a0 a7 a8 x5 _ rfl ?_ (by omega) 100000 0 (by show 7 - 0 < _; omega)
    · rw [loop]
      rw [ht, ht1]
      simp only [Int.toNat_natCast]
      repeat rw [ifp_pos (by first | omega | (simp only [List.length_append, List.length_singleton]; omega))]
      rfl
    · intro s hs
      rw [ht, ht1] at hs
      simp only [Int.toNat_natCast, List.mem_cons, List.mem_nil_iff, or_false] at hs
      rcases hs with rfl | rfl | rfl | rfl | rfl | rfl | rfl <;> first | omega | (simp only [List.length_append, List.length_singleton]; omega)
  · rw [decide_eq_true (by omega), cond_true]
theorem ConsoleStrict_law (a0 : List UInt8) (a1 a2 a3 a4 : UInt8) (a5 : List UInt8) (a6 : UInt64) (a7 : Int) (a8 : UInt8) (h0 : a0.length ≤ maxLen) (h5 : a5.length ≤ maxLen) (h7 : Md.I64 a7) : ∃ k, actorgridlaw41_ConsoleStrict k a0 a1 a2 a3 a4 a5 a6 a7 a8 = some true := by
  refine ⟨100000, ?_⟩
  unfold actorgridlaw41_ConsoleStrict
  rw [awake_eq _ (by omega), bind_e rfl, Bool.not_true, cond_false]
  by_cases hc : a0.length ≤ 500
  · obtain ⟨c, hcm, hv⟩ := command_eq 100000 a1 a2 a3 a4 a5 a6
    obtain ⟨l0, l1, l2⟩ := line_len hv
    rw [decide_eq_false (by omega), cond_false, hcm, bind_e rfl, format_eq _ c (by omega), bind_e rfl, l0]
    generalize lineL c = x5 at l1 l2 ⊢
    obtain ⟨t, ht, hlt, hn0, ht1⟩ := pick_eq a7 x5.length l1 l2
    rw [show ((((x5.length : Nat) : Int)) == 0) = false from ib_f (by omega), cond_false, ifp_pos hn0]
    have hT : (x5.take t).length ≤ 900 := by rw [List.length_take]; omega
    have hD : (x5.drop t).length ≤ 900 := by rw [List.length_drop]; omega
    have hD1 : (x5.drop (t + 1)).length ≤ 900 := by rw [List.length_drop]; omega
    have loop := strict_loop 100000 a0 a7 a8 x5 _ rfl ?_ (by omega) 100000 0 (by show 4 - 0 < _; omega)
    · rw [loop]
      rw [ht, ht1]
      simp only [Int.toNat_natCast]
      repeat rw [ifp_pos (by first | omega | (simp only [List.length_append, List.length_singleton]; omega))]
      rfl
    · intro s hs
      rw [ht, ht1] at hs
      simp only [Int.toNat_natCast, List.mem_cons, List.mem_nil_iff, or_false] at hs
      rcases hs with rfl | rfl | rfl | rfl <;> first | omega | (simp only [List.length_append, List.length_singleton]; omega)
  · rw [decide_eq_true (by omega), cond_true]
end Md
end Go.Proofs.YtjpiiejdaiaocaaDoor
