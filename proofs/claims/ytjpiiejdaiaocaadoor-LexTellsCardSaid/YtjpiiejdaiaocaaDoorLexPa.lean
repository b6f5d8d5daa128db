/-
  Layer 17 in plain words: bytes, runs, blanks, words, numbers. Conditions: sizes.
-/
import Derived.Test.YtjpiiejdaiaocaaDoorLexEM
namespace Go.Proofs.YtjpiiejdaiaocaaDoor
set_option linter.unusedVariables false
set_option linter.unusedSimpArgs false
set_option maxRecDepth 10000
namespace Md
theorem u8_all {P : UInt8 → Prop} (h : ∀ n, n < 256 → P (UInt8.ofNat n)) (c : UInt8) : P c := by
  have := h c.toNat c.toNat_lt
  rwa [UInt8.ofNat_toNat] at this
theorem drop_cons {l : List UInt8} {j : Nat} (h : j < l.length) : l.drop j = l.getD j 0 :: l.drop (j + 1) := by
  rw [List.drop_eq_getElem_cons h]
  simp [List.getD, h]
theorem drop_none {l : List UInt8} {j : Nat} (h : ¬ j < l.length) : l.drop j = [] := List.drop_eq_nil_of_le (by omega)
theorem getD_drop {l : List UInt8} {j i : Nat} : (l.drop j).getD i 0 = l.getD (j + i) 0 := by
  simp [List.getD_eq_getElem?_getD, List.getElem?_drop]
theorem ib_t {n : Nat} {z : Int} (h : (n : Int) = z) : ((n : Int) == z) = true := by rw [h]; exact beq_self_eq_true z
theorem ib_f {n : Nat} {z : Int} (h : (n : Int) ≠ z) : ((n : Int) == z) = false := beq_false_of_ne h
theorem nb_t {n : Nat} {z : Int} (h : (n : Int) ≠ z) : ((n : Int) != z) = true := by rw [bne, ib_f h]; rfl
theorem nb_f {n : Nat} {z : Int} (h : (n : Int) = z) : ((n : Int) != z) = false := by rw [bne, ib_t h]; rfl
theorem W1 {n : Nat} (h : n + 1 ≤ 9223372036854775807) : W ((n : Int) + 1) = ((n + 1 : Nat) : Int) := by rw [W_id (by omega) (by omega)]; omega
theorem W2 {n : Nat} (h : n + 2 ≤ 9223372036854775807) : W ((n : Int) + 2) = ((n + 2 : Nat) : Int) := by rw [W_id (by omega) (by omega)]; omega
theorem W3 {n : Nat} (h : n + 3 ≤ 9223372036854775807) : W ((n : Int) + 3) = ((n + 3 : Nat) : Int) := by rw [W_id (by omega) (by omega)]; omega
theorem Wn {n m : Nat} (h : n + m ≤ 9223372036854775807) : W ((n : Int) + (m : Int)) = ((n + m : Nat) : Int) := by rw [W_id (by omega) (by omega)]; omega
def isL (c : UInt8) : Bool := ((decide (97 ≤ c.toNat) && decide (c.toNat ≤ 122)) || (decide (65 ≤ c.toNat) && decide (c.toNat ≤ 90))) || decide (c.toNat = 95)
def isD (c : UInt8) : Bool := decide (48 ≤ c.toNat) && decide (c.toNat ≤ 57)
def isW (c : UInt8) : Bool := isL c || isD c
def plB (c : UInt8) : Bool := decide (32 ≤ c.toNat) && decide (c.toNat ≤ 126)
def isPl (c : UInt8) : Bool := plB c && decide (c.toNat ≠ 34) && decide (c.toNat ≠ 92)
def ne10 (c : UInt8) : Bool := decide (c.toNat ≠ 10)
def isB (c : UInt8) : Bool := decide (c.toNat = 32 ∨ c.toNat = 9 ∨ c.toNat = 10 ∨ c.toNat = 13)
def cm (c : UInt8) : List UInt8 → Bool
  | [] => false
  | d :: _ => decide (c.toNat = 47) && decide (d.toNat = 47)
theorem letter_eq (k : Nat) (c : UInt8) : lexer_letter k c = some (isL c) ∧ actorgridref17_letter k c = some (isL c) := by
  have h : ((((decide ((c.toNat : Int) ≥ 97)) && (decide ((c.toNat : Int) ≤ 122))) || ((decide ((c.toNat : Int) ≥ 65)) && (decide ((c.toNat : Int) ≤ 90)))) || ((c.toNat : Int) == 95)) = isL c := by
    unfold isL
    generalize c.toNat = n
    rw [Bool.eq_iff_iff]
    simp
    omega
  exact ⟨congrArg some h, congrArg some h⟩
theorem digit_eq (k : Nat) (c : UInt8) : lexer_digit k c = some (isD c) ∧ actorgridref17_digit k c = some (isD c) := by
  have h : ((decide ((c.toNat : Int) ≥ 48)) && (decide ((c.toNat : Int) ≤ 57))) = isD c := by
    unfold isD
    generalize c.toNat = n
    rw [Bool.eq_iff_iff]
    simp
    omega
  exact ⟨congrArg some h, congrArg some h⟩
theorem plain_eq (k : Nat) (c : UInt8) : lexer_plain k c = some (isPl c) := by
  refine congrArg some ?_
  unfold isPl plB
  generalize c.toNat = n
  rw [Bool.eq_iff_iff]
  simp
  omega
theorem isW_def (c : UInt8) : (if isL c = true then true else isD c) = isW c := by unfold isW; cases isL c <;> rfl
theorem word1_eq (k : Nat) (c : UInt8) : lexer_word_1 k c = some (isW c) ∧ actorgridref17_word k c = some (isW c) := by
  unfold lexer_word_1 actorgridref17_word isW
  rw [(letter_eq k c).1, (letter_eq k c).2, (digit_eq k c).1, (digit_eq k c).2]
  cases isL c <;> exact ⟨rfl, rfl⟩
theorem skip1_eq (k : Nat) (c : UInt8) : lexer_skip_1 k c = some (ne10 c) := by
  refine congrArg some ?_
  unfold ne10
  by_cases h : c.toNat = 10
  · rw [nb_f (by omega), decide_eq_false (by omega)]
  · rw [nb_t (by omega), decide_eq_true h]
theorem runW_loop (k : Nat) (a0 : List UInt8) (hl : a0.length ≤ 4000000) : ∀ n j, a0.length - j < n → lexer_run__lexer_word_1_loop1 k a0 n j = some (j + ((a0.drop j).takeWhile isW).length) := by
  intro n
  induction n with
  | zero => intro j h; omega
  | succ n ih =>
    intro j h
    rw [lexer_run__lexer_word_1_loop1]
    by_cases hj : j < a0.length
    · rw [decide_eq_true (by omega), cond_true, ifp_pos hj, (word1_eq k _).1, bind_e rfl, bind_e rfl, drop_cons hj]
      cases hq : isW (a0.getD j 0) with
      | true => rw [cond_true, ifp_pos (by omega), ih (j + 1) (by omega), List.takeWhile_cons_of_pos hq, List.length_cons]; congr 1; omega
      | false => rw [cond_false, List.takeWhile_cons_of_neg (by rw [hq]; exact Bool.false_ne_true)]; rfl
    · rw [decide_eq_false (by omega), cond_false, drop_none hj]; rfl
theorem runD_loop (k : Nat) (a0 : List UInt8) (hl : a0.length ≤ 4000000) : ∀ n j, a0.length - j < n → lexer_run__lexer_digit_loop1 k a0 n j = some (j + ((a0.drop j).takeWhile isD).length) := by
  intro n
  induction n with
  | zero => intro j h; omega
  | succ n ih =>
    intro j h
    rw [lexer_run__lexer_digit_loop1]
    by_cases hj : j < a0.length
    · rw [decide_eq_true (by omega), cond_true, ifp_pos hj, (digit_eq k _).1, bind_e rfl, bind_e rfl, drop_cons hj]
      cases hq : isD (a0.getD j 0) with
      | true => rw [cond_true, ifp_pos (by omega), ih (j + 1) (by omega), List.takeWhile_cons_of_pos hq, List.length_cons]; congr 1; omega
      | false => rw [cond_false, List.takeWhile_cons_of_neg (by rw [hq]; exact Bool.false_ne_true)]; rfl
    · rw [decide_eq_false (by omega), cond_false, drop_none hj]; rfl
theorem runS_loop (k : Nat) (a0 : List UInt8) (hl : a0.length ≤ 4000000) : ∀ n j, a0.length - j < n → lexer_run__lexer_skip_1_loop1 k a0 n j = some (j + ((a0.drop j).takeWhile ne10).length) := by
  intro n
  induction n with
  | zero => intro j h; omega
  | succ n ih =>
    intro j h
    rw [lexer_run__lexer_skip_1_loop1]
    by_cases hj : j < a0.length
    · rw [decide_eq_true (by omega), cond_true, ifp_pos hj, skip1_eq k, bind_e rfl, bind_e rfl, drop_cons hj]
      cases hq : ne10 (a0.getD j 0) with
      | true => rw [cond_true, ifp_pos (by omega), ih (j + 1) (by omega), List.takeWhile_cons_of_pos hq, List.length_cons]; congr 1; omega
      | false => rw [cond_false, List.takeWhile_cons_of_neg (by rw [hq]; exact Bool.false_ne_true)]; rfl
    · rw [decide_eq_false (by omega), cond_false, drop_none hj]; rfl
theorem runW_eq (k : Nat) (s : List UInt8) (hl : s.length ≤ 4000000) (hk : s.length < k) : lexer_run__lexer_word_1 k s = some (((s.takeWhile isW).length : Nat) : Int) := by
  unfold lexer_run__lexer_word_1
  rw [runW_loop k s hl k 0 (by omega), bind_e rfl, List.drop_zero, Nat.zero_add]
theorem runD_eq (k : Nat) (s : List UInt8) (hl : s.length ≤ 4000000) (hk : s.length < k) : lexer_run__lexer_digit k s = some (((s.takeWhile isD).length : Nat) : Int) := by
  unfold lexer_run__lexer_digit
  rw [runD_loop k s hl k 0 (by omega), bind_e rfl, List.drop_zero, Nat.zero_add]
theorem runS_eq (k : Nat) (s : List UInt8) (hl : s.length ≤ 4000000) (hk : s.length < k) : lexer_run__lexer_skip_1 k s = some (((s.takeWhile ne10).length : Nat) : Int) := by
  unfold lexer_run__lexer_skip_1
  rw [runS_loop k s hl k 0 (by omega), bind_e rfl, List.drop_zero, Nat.zero_add]
/-! ### blanks and comments -/
def skW (s : List UInt8) : Nat :=
  match s with
  | [] => 0
  | c :: r => if isB c = true then 1 + skW r else if cm c r = true then 1 + (r.takeWhile ne10).length + skW (r.drop (r.takeWhile ne10).length) else 0
  termination_by s.length
  decreasing_by all_goals simp only [List.length_cons, List.length_drop]; omega
theorem tw_le (p : UInt8 → Bool) (l : List UInt8) : (l.takeWhile p).length ≤ l.length := by
  induction l with
  | nil => exact Nat.le_refl 0
  | cons c r ih => rw [List.takeWhile_cons]; split <;> simp <;> omega
theorem tw_take (p : UInt8 → Bool) (l : List UInt8) : l.take (l.takeWhile p).length = l.takeWhile p := by
  induction l with
  | nil => rfl
  | cons c r ih => rw [List.takeWhile_cons]; split
                   · rw [List.length_cons, List.take_succ_cons, ih]
                   · rfl
theorem skW_le (s : List UInt8) : skW s ≤ s.length := by
  induction s using skW.induct with
  | case1 => rw [skW]; exact Nat.le_refl 0
  | case2 c r h ih => rw [skW, if_pos h, List.length_cons]; omega
  | case3 c r h h2 ih =>
    rw [skW, if_neg h, if_pos h2, List.length_cons]
    rw [List.length_drop] at ih
    have := tw_le ne10 r
    omega
  | case4 c r h h2 => rw [skW, if_neg h, if_neg h2]; omega
theorem ibB (c : UInt8) : decide (Lib.indexByte ([32, 9, 10, 13] : List UInt8) c ≥ 0) = isB c := u8_all (P := fun c => decide (Lib.indexByte ([32, 9, 10, 13] : List UInt8) c ≥ 0) = isB c) (by decide +kernel) c
theorem hp47 (c : UInt8) (r : List UInt8) : Lib.hasPrefix (c :: r) ([47, 47] : List UInt8) = cm c r := by
  have e : ∀ c : UInt8, ((47 : UInt8) == c) = decide (c.toNat = 47) := u8_all (by decide +kernel)
  unfold Lib.hasPrefix cm
  cases r with
  | nil => rw [List.isPrefixOf, e]; exact Bool.and_false _
  | cons d t => rw [List.isPrefixOf, List.isPrefixOf, e, e]; show (_ && (_ && true)) = _; rw [Bool.and_true]
def skE (o : Sum Int Int) : Option Int := Md.onS o (fun x => some x) (fun r => some r)
theorem cm47 {c : UInt8} {r : List UInt8} (h : cm c r = true) : c.toNat = 47 ∧ ∃ d t, r = d :: t ∧ d.toNat = 47 := by
  cases r with
  | nil => cases h
  | cons d t => simp only [cm, Bool.and_eq_true, decide_eq_true_eq] at h; exact ⟨h.1, d, t, rfl, h.2⟩
theorem skip_loop (k : Nat) (a0 : List UInt8) (hl : a0.length ≤ 4000000) (hk : a0.length < k) : ∀ n (j : Nat), a0.length - j < n → j ≤ a0.length → (lexer_skip_loop1 k a0 n (j : Int)).bind skE = some ((j + skW (a0.drop j) : Nat) : Int) := by
  intro n
  induction n with
  | zero => intro j h; omega
  | succ n ih =>
    intro j h hj'
    rw [lexer_skip_loop1]
    by_cases hj : j < a0.length
    · rw [decide_eq_true (by omega), cond_true, ifp_pos (by omega), Int.toNat_natCast]
      rw [show strings_IndexByte k ([32, 9, 10, 13] : List UInt8) (a0.getD j 0) = some (Lib.indexByte ([32, 9, 10, 13] : List UInt8) (a0.getD j 0)) from rfl, bind_e rfl, ibB, drop_cons hj]
      cases hq : isB (a0.getD j 0) with
      | true =>
        rw [cond_true, W1 (by omega), ih (j + 1) (by omega) (by omega), skW, if_pos hq]
        congr 2; omega
      | false =>
        have hq' : ¬ isB (a0.getD j 0) = true := by rw [hq]; exact Bool.false_ne_true
        rw [cond_false, ifp_pos (by omega), ifp_pos (by omega)]
        rw [show strings_HasPrefix k (a0.getD j 0 :: a0.drop (j + 1)) ([47, 47] : List UInt8) = some (Lib.hasPrefix (a0.getD j 0 :: a0.drop (j + 1)) ([47, 47] : List UInt8)) from rfl, bind_e rfl, hp47]
        cases hc : cm (a0.getD j 0) (a0.drop (j + 1)) with
        | true =>
          have h47 := (cm47 hc).1
          have hn : ne10 (a0.getD j 0) = true := decide_eq_true (by omega)
          have ht := tw_le ne10 (a0.drop (j + 1))
          rw [List.length_drop] at ht
          rw [cond_true, ifp_pos (by omega), ifp_pos (by omega), runS_eq k _ (by rw [List.length_cons, List.length_drop]; omega) (by rw [List.length_cons, List.length_drop]; omega), bind_e rfl, List.takeWhile_cons_of_pos hn, List.length_cons, Wn (by omega), ih _ (by omega) (by omega), skW, if_neg hq', if_pos hc, List.drop_drop]
          congr 2
          rw [show j + 1 + (List.takeWhile ne10 (List.drop (j + 1) a0)).length = j + ((List.takeWhile ne10 (List.drop (j + 1) a0)).length + 1) from by omega]
          omega
        | false =>
          rw [cond_false, bind_e rfl, skW, if_neg hq', if_neg (by rw [hc]; exact Bool.false_ne_true)]
          rfl
    · rw [decide_eq_false (by omega), cond_false, drop_none hj, skW]; rfl
theorem skip_eq (k : Nat) (s : List UInt8) (hl : s.length ≤ 4000000) (hk : s.length < k) : lexer_skip k s = some ((skW s : Nat) : Int) := by
  have h := skip_loop k s hl hk k 0 (by omega) (by omega)
  rw [List.drop_zero, Nat.zero_add] at h
  exact h
theorem word_eq (k : Nat) (c : UInt8) (r : List UInt8) (hl : (c :: r).length ≤ 4000000) (hk : (c :: r).length < k) : lexer_word k (c :: r) = some ((bif isL c then ((c :: r).takeWhile isW).length else 0 : Nat) : Int) := by
  unfold lexer_word
  rw [show decide ((c :: r) = ([] : List UInt8)) = false from by simp, cond_false, ifp_pos (by rw [List.length_cons]; omega), show (c :: r).getD 0 0 = c from rfl, (letter_eq k c).1, bind_e rfl, bind_e rfl]
  cases isL c with
  | true => rw [Bool.not_true, cond_false, runW_eq k _ hl hk]; rfl
  | false => rfl
/-! ### keywords -/
theorem cs {α : Type} (b : Bool) (x y : α) : (bif b then (some x) else (some y)) = some (bif b then x else y) := by cases b <;> rfl
theorem kw_ex (w : List UInt8) : ∃ b, lexer_IsKeyword 0 w = some b := by
  unfold lexer_IsKeyword
  simp only [cs]
  exact ⟨_, rfl⟩
def kwL (w : List UInt8) : Bool := (lexer_IsKeyword 0 w).getD false
theorem kw_eq (k : Nat) (w : List UInt8) : lexer_IsKeyword k w = some (kwL w) ∧ actorgridref17_IsKeyword k w = some (kwL w) := by
  obtain ⟨b, h⟩ := kw_ex w
  have : kwL w = b := by unfold kwL; rw [h]; rfl
  rw [this]; exact ⟨h, h⟩
/-! ### numbers -/
def nF (a : Nat) (l : List UInt8) : Nat := l.foldl (fun a c => 10 * a + (c.toNat - 48)) a
theorem nF_ge : ∀ (l : List UInt8) (a : Nat), a ≤ nF a l
  | [], a => Nat.le_refl a
  | c :: r, a => by
    have h := nF_ge r (10 * a + (c.toNat - 48))
    show a ≤ nF (10 * a + (c.toNat - 48)) r
    omega
theorem parseU (l : List UInt8) : ∀ a, (∀ c ∈ l, isD c = true) → (Lib.parseUintM (2 ^ 64 - 1) a l = .range ∧ 9223372036854775807 < nF a l) ∨ Lib.parseUintM (2 ^ 64 - 1) a l = .ok (nF a l) := by
  induction l with
  | nil => intro a _; exact Or.inr rfl
  | cons c r ih =>
    intro a h
    have hc := h c (by simp)
    simp only [isD, Bool.and_eq_true, decide_eq_true_eq] at hc
    have hg := nF_ge r (10 * a + (c.toNat - 48))
    have e : nF a (c :: r) = nF (10 * a + (c.toNat - 48)) r := rfl
    rw [Lib.parseUintM, if_pos hc, e]
    by_cases h1 : 1844674407370955162 ≤ a
    · rw [if_pos h1]; exact Or.inl ⟨rfl, by omega⟩
    · rw [if_neg h1]
      by_cases h2 : 2 ^ 64 - 1 < a * 10 + (c.toNat - 48)
      · rw [if_pos h2]; exact Or.inl ⟨rfl, by omega⟩
      · rw [if_neg h2, Nat.mul_comm a 10]
        exact ih _ (fun d hd => h d (by simp [hd]))
def nE (u : Nat) : Lib.NumEnd Int := if 2 ^ 63 ≤ u then Lib.NumEnd.range else Lib.NumEnd.ok (u : Int)
theorem parseB (c : UInt8) (r : List UInt8) (hc : 48 ≤ c.toNat) : (Lib.parseUintM (2 ^ 64 - 1) 0 (c :: r) = Lib.NumEnd.range → Lib.parseIntB 64 (c :: r) = Lib.NumEnd.range) ∧ ∀ u, Lib.parseUintM (2 ^ 64 - 1) 0 (c :: r) = Lib.NumEnd.ok u → Lib.parseIntB 64 (c :: r) = nE u := by
  have e2 : Lib.parseUintB 64 (if c.toNat = 43 ∨ c.toNat = 45 then r else (c :: r)) = Lib.parseUintM (2 ^ 64 - 1) 0 (c :: r) := by
    rw [if_neg (by omega)]
    exact if_neg (by simp)
  have e3 : Lib.parseIntB 64 (c :: r) = (match Lib.parseUintB 64 (if c.toNat = 43 ∨ c.toNat = 45 then r else (c :: r)) with
    | .ok u => if ¬ (c.toNat = 45) ∧ 2 ^ (64 - 1) ≤ u then Lib.NumEnd.range else if c.toNat = 45 ∧ 2 ^ (64 - 1) < u then Lib.NumEnd.range else Lib.NumEnd.ok (if c.toNat = 45 then -(u : Int) else u)
    | .range => Lib.NumEnd.range
    | _ => Lib.parseIntB 64 []) := by
    unfold Lib.parseIntB
    dsimp only
    cases Lib.parseUintB 64 (if c.toNat = 43 ∨ c.toNat = 45 then r else (c :: r)) <;> rfl
  rw [e3, e2]
  refine ⟨fun h => by rw [h], fun u h => ?_⟩
  rw [h]
  unfold nE
  show (if ¬ (c.toNat = 45) ∧ 2 ^ (64 - 1) ≤ u then Lib.NumEnd.range else if c.toNat = 45 ∧ 2 ^ (64 - 1) < u then Lib.NumEnd.range else Lib.NumEnd.ok (if c.toNat = 45 then -(u : Int) else u)) = _
  by_cases h1 : 2 ^ 63 ≤ u
  · rw [if_pos ⟨by omega, h1⟩, if_pos h1]
  · rw [if_neg (fun h => h1 h.2), if_neg (by omega), if_neg (by omega), if_neg h1]
theorem parse_num (c : UInt8) (r : List UInt8) (h : ∀ d ∈ c :: r, isD d = true) : (parseRes (c :: r)).2 = decide (9223372036854775807 < nF 0 (c :: r)) ∧ (nF 0 (c :: r) ≤ 9223372036854775807 → (parseRes (c :: r)).1 = (nF 0 (c :: r) : Nat)) := by
  have hc := h c (by simp)
  simp only [isD, Bool.and_eq_true, decide_eq_true_eq] at hc
  obtain ⟨b1, b2⟩ := parseB c r hc.1
  unfold parseRes
  rcases parseU (c :: r) 0 h with ⟨h1, h2⟩ | h1
  · rw [b1 h1]
    exact ⟨(decide_eq_true h2).symm, fun h => by omega⟩
  · rw [b2 _ h1]
    by_cases h2 : 2 ^ 63 ≤ nF 0 (c :: r)
    · rw [show nE (nF 0 (c :: r)) = Lib.NumEnd.range from if_pos h2]
      exact ⟨(decide_eq_true (by omega)).symm, fun h => by omega⟩
    · rw [show nE (nF 0 (c :: r)) = Lib.NumEnd.ok ((nF 0 (c :: r) : Nat) : Int) from if_neg h2]
      exact ⟨(decide_eq_false (by omega)).symm, fun h => rfl⟩
def badN (w : List UInt8) : Bool := decide (9223372036854775807 < nF 0 w) || (decide (w.length > 1) && decide ((w.getD 0 0).toNat = 48))
abbrev zt : Token := ⟨0, [], 0, 0⟩
def numL (w : List UInt8) : Token × Nat × Int := if badN w = true then (zt, 0, 13) else (⟨3, w, (nF 0 w : Nat), 0⟩, w.length, 0)
def tI (x : Token × Nat × Int) : Token × Int × Int := (x.1, ((x.2.1 : Nat) : Int), x.2.2)
theorem tw_all (p : UInt8 → Bool) (l : List UInt8) : ∀ c ∈ l.takeWhile p, p c = true := by
  induction l with
  | nil => intro c h; cases h
  | cons d r ih =>
    intro c h
    rw [List.takeWhile_cons] at h
    split at h
    · rename_i hd
      rcases List.mem_cons.1 h with rfl | h
      · exact hd
      · exact ih c h
    · cases h
theorem number_eq (k : Nat) (c : UInt8) (r : List UInt8) (hc : isD c = true) (hl : (c :: r).length ≤ 4000000) (hk : (c :: r).length < k) : lexer_number k (c :: r) = some (tI (numL ((c :: r).takeWhile isD))) := by
  unfold lexer_number
  have ht := tw_le isD (c :: r)
  rw [runD_eq k _ hl hk, bind_e rfl, ifp_pos (by omega), ifp_pos (by omega)]
  simp only [Int.toNat_natCast]
  rw [tw_take]
  obtain ⟨t, hw⟩ : ∃ t, (c :: r).takeWhile isD = c :: t := ⟨r.takeWhile isD, List.takeWhile_cons_of_pos hc⟩
  have hall := tw_all isD (c :: r)
  rw [hw] at ht hall ⊢
  obtain ⟨p1, p2⟩ := parse_num c t hall
  rw [show strconv_ParseInt k (c :: t) 10 64 = some (parseRes (c :: t)) from ifp_pos ⟨rfl, rfl, by omega⟩, bind_e rfl]
  have hbad : (((bif (parseRes (c :: t)).2 then (some true) else (((bif (decide ((((c :: t).length : Nat) : Int) > 1)) then (Md.ifp (0 < (c :: r).length) <| some (((((c :: r).getD 0 0)).toNat : Int) == 48)) else (some false)) : Option Bool).bind fun x9 => some x9)) : Option Bool)) = some (badN (c :: t)) := by
    unfold badN
    rw [p1, show (c :: r).getD 0 0 = c from rfl, show (c :: t).getD 0 0 = c from rfl, ifp_pos (by rw [List.length_cons]; omega)]
    cases decide (9223372036854775807 < nF 0 (c :: t)) with
    | true => rfl
    | false =>
      rw [cond_false, Bool.false_or]
      by_cases h1 : (c :: t).length > 1
      · rw [decide_eq_true (by omega), decide_eq_true h1, cond_true, bind_e rfl, Bool.true_and]
        by_cases h2 : c.toNat = 48
        · rw [ib_t (by omega), decide_eq_true h2]
        · rw [ib_f (by omega), decide_eq_false h2]
      · rw [decide_eq_false (by omega), decide_eq_false h1]; rfl
  rw [hbad, bind_e rfl]
  unfold numL
  cases hb : badN (c :: t) with
  | true => rfl
  | false =>
    rw [cond_false, ifp_pos (by omega), ifp_pos (by omega), if_neg Bool.false_ne_true, p2 (by
      unfold badN at hb
      rw [Bool.or_eq_false_iff, decide_eq_false_iff_not] at hb
      omega)]
    rfl
def decR (a : Nat) : Int × Bool := if a ≤ 9223372036854775807 then ((a : Int), true) else (0, false)
def decE (o : Sum Nat (Int × Bool)) : Option (Int × Bool) := Md.onS o (fun x => some (((x : Nat) : Int), true)) (fun r => some r)
theorem dig_sub {c : UInt8} (h : isD c = true) : (c - (48 : UInt8)).toNat = c.toNat - 48 ∧ c.toNat - 48 < 10 := by
  simp only [isD, Bool.and_eq_true, decide_eq_true_eq] at h
  have h48 : (48 : UInt8).toNat = 48 := rfl
  refine ⟨?_, by omega⟩
  rw [UInt8.toNat_sub, h48]
  omega
theorem dec_loop (k : Nat) (a0 : List UInt8) (hd : ∀ c ∈ a0, isD c = true) (hl : a0.length ≤ 4000000) : ∀ n a j, a0.length - j < n → a ≤ 9223372036854775807 → (actorgridref17_Decimal_loop1 k a0 n a j).bind decE = some (decR (nF a (a0.drop j))) := by
  intro n
  induction n with
  | zero => intro a j h; omega
  | succ n ih =>
    intro a j h ha
    rw [actorgridref17_Decimal_loop1]
    by_cases hj : j < a0.length
    · have hm : a0.getD j 0 ∈ a0 := by rw [List.getD_eq_getElem?_getD, List.getElem?_eq_getElem hj]; exact List.getElem_mem hj
      obtain ⟨d1, d2⟩ := dig_sub (hd _ hm)
      rw [decide_eq_true (by omega), cond_true, ifp_pos hj, drop_cons hj, d1]
      have e : nF a (a0.getD j 0 :: a0.drop (j + 1)) = nF (10 * a + ((a0.getD j 0).toNat - 48)) (a0.drop (j + 1)) := rfl
      rw [e]
      generalize (a0.getD j 0).toNat - 48 = d at *
      rw [W_id (n := 9223372036854775807 - (d : Int)) (by omega) (by omega)]
      have ht : (9223372036854775807 - (d : Int)).tdiv 10 = ((((9223372036854775807 - d) / 10 : Nat)) : Int) := by
        rw [show (9223372036854775807 - (d : Int)) = ((9223372036854775807 - d : Nat) : Int) by omega]; rfl
      rw [ht, W_id (by omega) (by omega)]
      by_cases hb : (9223372036854775807 - d) / 10 < a
      · have hg := nF_ge (a0.drop (j + 1)) (10 * a + d)
        rw [decide_eq_true (by omega), cond_true]
        unfold decR
        rw [if_neg (by omega)]; rfl
      · rw [decide_eq_false (by omega), cond_false, ifp_pos (by omega), ifp_pos (by omega), ifp_pos (by omega)]
        exact ih _ _ (by omega) (by omega)
    · rw [decide_eq_false (by omega), cond_false, drop_none hj]
      unfold decR
      rw [show nF a [] = a from rfl, if_pos ha]; rfl
theorem decimal_eq (k : Nat) (w : List UInt8) (hd : ∀ c ∈ w, isD c = true) (hl : w.length ≤ 4000000) (hk : w.length < k) : actorgridref17_Decimal k w = some (decR (nF 0 w)) := by
  have h := dec_loop k w hd hl k 0 0 (by omega) (by omega)
  rw [List.drop_zero] at h
  exact h
end Md
end Go.Proofs.YtjpiiejdaiaocaaDoor
