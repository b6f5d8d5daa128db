/-
  Layer 41 in plain words: quoted strings are read. Conditions: sizes.
-/
import Derived.Test.YtjpiiejdaiaocaaDoorConsPa
namespace Go.Proofs.YtjpiiejdaiaocaaDoor
set_option linter.unusedVariables false
set_option linter.unusedSimpArgs false
set_option maxRecDepth 10000
namespace Md
theorem ib_t {n : Nat} {z : Int} (h : (n : Int) = z) : ((n : Int) == z) = true := by rw [h]; exact beq_self_eq_true z
theorem ib_f {n : Nat} {z : Int} (h : (n : Int) ≠ z) : ((n : Int) == z) = false := beq_false_of_ne h
theorem nb_t {n : Nat} {z : Int} (h : (n : Int) ≠ z) : ((n : Int) != z) = true := by rw [bne, ib_f h]; rfl
theorem nb_f {n : Nat} {z : Int} (h : (n : Int) = z) : ((n : Int) != z) = false := by rw [bne, ib_t h]; rfl
def hexv (c : UInt8) : Int := Lib.indexByte hexs c
def hexb (x y : UInt8) : UInt8 := UInt8.ofInt (Md.ior (Md.ishl (hexv x) 4) (hexv y))
def escL (s : List UInt8) : UInt8 × Nat × Int :=
  if s.length < 2 then (0, 0, 2)
  else if (s.getD 1 0).toNat = 34 ∨ (s.getD 1 0).toNat = 92 then (s.getD 1 0, 2, 0)
  else if (s.getD 1 0).toNat ≠ 120 then (0, 0, 13)
  else if s.length = 2 then (0, 0, 2)
  else if hexv (s.getD 2 0) < 0 then (0, 0, 13)
  else if s.length = 3 then (0, 0, 2)
  else if hexv (s.getD 3 0) < 0 then (0, 0, 13)
  else if plB (hexb (s.getD 2 0) (s.getD 3 0)) = true then (0, 0, 13)
  else (hexb (s.getD 2 0) (s.getD 3 0), 4, 0)
def esI (e : UInt8 × Nat × Int) : UInt8 × Int × Int := (e.1, ((e.2.1 : Nat) : Int), e.2.2)
theorem hex_eq (k : Nat) (c : UInt8) : console_hex k c = some (hexv c) := rfl
theorem hexv_le (c : UInt8) : hexv c < 16 := u8_all (P := fun c => hexv c < 16) (by decide +kernel) c
theorem escape_eq (k : Nat) (s : List UInt8) (hk : 4 ≤ k) (hl : s.length ≤ 9223372036854775807) : console_escape k s = some (esI (escL s)) := by
  obtain ⟨k, rfl⟩ : ∃ q, k = q + 4 := ⟨k - 4, by omega⟩
  unfold console_escape escL
  by_cases h1 : s.length < 2
  · rw [decide_eq_true (by omega), if_pos h1]; rfl
  rw [decide_eq_false (by omega), if_neg h1, cond_false, ifp_pos (by omega)]
  by_cases h2 : (s.getD 1 0).toNat = 34
  · rw [if_pos (.inl h2), ib_t (n := (s.getD 1 0).toNat) (z := 34) (by omega), cond_true, bind_e rfl, cond_true, ifp_pos (by omega)]; rfl
  rw [ib_f (n := (s.getD 1 0).toNat) (z := 34) (by omega), cond_false, ifp_pos (by omega), bind_e rfl]
  by_cases h3 : (s.getD 1 0).toNat = 92
  · rw [if_pos (.inr h3), ib_t (n := (s.getD 1 0).toNat) (z := 92) (by omega), cond_true, ifp_pos (by omega)]; rfl
  rw [if_neg (by omega), ib_f (n := (s.getD 1 0).toNat) (z := 92) (by omega), cond_false, ifp_pos (by omega)]
  by_cases h4 : (s.getD 1 0).toNat ≠ 120
  · rw [if_pos h4, nb_t (n := (s.getD 1 0).toNat) (z := 120) (by omega)]; rfl
  rw [if_neg h4, nb_f (n := (s.getD 1 0).toNat) (z := 120) (by omega), cond_false]
  rw [console_escape_loop1, decide_eq_true (by omega), cond_true]
  by_cases h5 : s.length = 2
  · rw [if_pos h5, show (((s.length : Nat) : Int) == ((2 : Nat) : Int)) = true from by simp [h5]]; rfl
  rw [if_neg h5, show (((s.length : Nat) : Int) == ((2 : Nat) : Int)) = false from by simp; omega, cond_false, ifp_pos (by omega), hex_eq, bind_e rfl]
  by_cases h6 : hexv (s.getD 2 0) < 0
  · rw [if_pos h6, decide_eq_true h6]; rfl
  rw [if_neg h6, decide_eq_false h6, cond_false, ifp_pos (by omega), console_escape_loop1, decide_eq_true (by omega), cond_true]
  by_cases h7 : s.length = 3
  · rw [if_pos h7, show (((s.length : Nat) : Int) == ((2 + 1 : Nat) : Int)) = true from by simp [h7]]; rfl
  rw [if_neg h7, show (((s.length : Nat) : Int) == ((2 + 1 : Nat) : Int)) = false from by simp; omega, cond_false, ifp_pos (by omega), hex_eq, bind_e rfl]
  by_cases h8 : hexv (s.getD 3 0) < 0
  · rw [if_pos h8, decide_eq_true h8]; rfl
  rw [if_neg h8, decide_eq_false h8, cond_false, ifp_pos (by omega), console_escape_loop1, decide_eq_false (by omega), cond_false, bind_e rfl]
  show Md.ifp _ _ = _
  rw [ifp_pos (by omega), bind_e rfl, ifp_pos (by omega), bind_e rfl, plain_eq, bind_e rfl]
  show (bif plB (hexb (s.getD 2 0) (s.getD 3 0)) then _ else _) = _
  cases h9 : plB (hexb (s.getD 2 0) (s.getD 3 0)) with
  | true => rw [if_pos rfl]; rfl
  | false => rw [if_neg (by decide)]; rfl
theorem unhex_eq (k : Nat) (c : UInt8) : actorgridref41_unhex k c = some (bif decide (hexv c < 0) then (0, false) else (UInt8.ofInt (hexv c), true)) :=
  u8_all (P := fun c => actorgridref41_unhex k c = some (bif decide (hexv c < 0) then (0, false) else (UInt8.ofInt (hexv c), true))) (by unfold actorgridref41_unhex; decide +kernel) c
theorem hexb_val (x y : Nat) (hx : x < 16) (hy : y < 16) : UInt8.ofInt (Md.ior (Md.ishl (x : Int) 4) (y : Int)) = (16 : UInt8) * ((16 : UInt8) * 0 + UInt8.ofInt (x : Int)) + UInt8.ofInt (y : Int) ∧ (UInt8.ofInt (Md.ior (Md.ishl (x : Int) 4) (y : Int))).toNat = 16 * x + y := by
  have h : ∀ x : Nat, x < 16 → ∀ y : Nat, y < 16 → UInt8.ofInt (Md.ior (Md.ishl (x : Int) 4) (y : Int)) = (16 : UInt8) * ((16 : UInt8) * 0 + UInt8.ofInt (x : Int)) + UInt8.ofInt (y : Int) ∧ (UInt8.ofInt (Md.ior (Md.ishl (x : Int) 4) (y : Int))).toNat = 16 * x + y := by decide +kernel
  exact h x hx y hy
theorem hexv_nat {c : UInt8} (h : ¬ hexv c < 0) : ∃ n : Nat, n < 16 ∧ hexv c = (n : Int) := ⟨(hexv c).toNat, by have := hexv_le c; omega, by omega⟩
theorem hexb_ref {x y : UInt8} (h1 : ¬ hexv x < 0) (h2 : ¬ hexv y < 0) : (16 : UInt8) * ((16 : UInt8) * 0 + UInt8.ofInt (hexv x)) + UInt8.ofInt (hexv y) = hexb x y := by
  obtain ⟨a, ha, e1⟩ := hexv_nat h1
  obtain ⟨b, hb, e2⟩ := hexv_nat h2
  unfold hexb
  rw [e1, e2, (hexb_val a b ha hb).1]
theorem plN (c : UInt8) : ((decide ((c.toNat : Int) ≥ 32)) && (decide ((c.toNat : Int) ≤ 126))) = plB c := by
  unfold plB
  congr 1 <;> exact decide_eq_decide.2 (by omega)
theorem escapeR_eq (k : Nat) (s : List UInt8) (hk : 4 ≤ k) (hl : s.length ≤ 9223372036854775807) : actorgridref41_escape k s = some (esI (escL s)) := by
  obtain ⟨k, rfl⟩ : ∃ q, k = q + 4 := ⟨k - 4, by omega⟩
  unfold actorgridref41_escape escL
  by_cases h1 : s.length < 2
  · rw [decide_eq_true (by omega), if_pos h1]; rfl
  rw [decide_eq_false (by omega), if_neg h1, cond_false, ifp_pos (by omega)]
  by_cases h2 : (s.getD 1 0).toNat = 34
  · rw [if_pos (.inl h2), ib_t (n := (s.getD 1 0).toNat) (z := 34) (by omega), cond_true, bind_e rfl, cond_true, ifp_pos (by omega)]; rfl
  rw [ib_f (n := (s.getD 1 0).toNat) (z := 34) (by omega), cond_false, ifp_pos (by omega), bind_e rfl]
  by_cases h3 : (s.getD 1 0).toNat = 92
  · rw [if_pos (.inr h3), ib_t (n := (s.getD 1 0).toNat) (z := 92) (by omega), cond_true, ifp_pos (by omega)]; rfl
  rw [if_neg (by omega), ib_f (n := (s.getD 1 0).toNat) (z := 92) (by omega), cond_false, ifp_pos (by omega)]
  by_cases h4 : (s.getD 1 0).toNat ≠ 120
  · rw [if_pos h4, nb_t (n := (s.getD 1 0).toNat) (z := 120) (by omega)]; rfl
  rw [if_neg h4, nb_f (n := (s.getD 1 0).toNat) (z := 120) (by omega), cond_false]
  rw [actorgridref41_escape_loop1, decide_eq_true (by omega), cond_true]
  by_cases h5 : s.length = 2
  · rw [if_pos h5, decide_eq_true (by omega)]; rfl
  rw [if_neg h5, decide_eq_false (by omega), cond_false, ifp_pos (by omega), unhex_eq, bind_e rfl]
  by_cases h6 : hexv (s.getD 2 0) < 0
  · rw [if_pos h6, decide_eq_true h6]; rfl
  rw [if_neg h6, decide_eq_false h6]
  simp only [cond_false, Bool.not_true]
  rw [ifp_pos (by omega), actorgridref41_escape_loop1, decide_eq_true (by omega), cond_true]
  by_cases h7 : s.length = 3
  · rw [if_pos h7, decide_eq_true (by omega)]; rfl
  rw [if_neg h7, decide_eq_false (by omega), cond_false, ifp_pos (by omega), unhex_eq, bind_e rfl]
  by_cases h8 : hexv (s.getD 3 0) < 0
  · rw [if_pos h8, decide_eq_true h8]; rfl
  rw [if_neg h8, decide_eq_false h8]
  simp only [cond_false, Bool.not_true]
  rw [ifp_pos (by omega), actorgridref41_escape_loop1, decide_eq_false (by omega), cond_false, bind_e rfl, hexb_ref h6 h8]
  show (bif _ then _ else _) = _
  rw [plN]
  cases h9 : plB (hexb (s.getD 2 0) (s.getD 3 0)) with
  | true => rw [if_pos rfl]; rfl
  | false => rw [if_neg (by decide)]; rfl
abbrev URes := List UInt8 × Int × Int
def unqL : Nat → List UInt8 → Nat → List UInt8 → URes
  | 0, _, _, _ => ([], 0, 2)
  | _ + 1, [], _, _ => ([], 0, 2)
  | n + 1, c :: r, at', out => if c.toNat = 34 then (out, ((at' + 1 : Nat) : Int), 0) else if c.toNat = 92 then (if (escL (c :: r)).2.2 ≠ 0 then ([], 0, (escL (c :: r)).2.2) else unqL n ((c :: r).drop (escL (c :: r)).2.1) (at' + (escL (c :: r)).2.1) (out ++ [(escL (c :: r)).1])) else if plB c = true then unqL n r (at' + 1) (out ++ [c]) else ([], 0, 13)
theorem escL_ok (s : List UInt8) : (escL s).2.2 = 0 → ((escL s).2.1 = 2 ∨ (escL s).2.1 = 4) ∧ (escL s).2.1 ≤ s.length := by
  unfold escL
  split
  · intro h; cases h
  · split
    · intro _; exact ⟨.inl rfl, by show 2 ≤ _; omega⟩
    · split
      · intro h; cases h
      · split
        · intro h; cases h
        · split
          · intro h; cases h
          · split
            · intro h; cases h
            · split
              · intro h; cases h
              · split
                · intro h; cases h
                · intro _; exact ⟨.inr rfl, by show 4 ≤ _; omega⟩
theorem unqL_fuel : ∀ n m r at' out, r.length < n → r.length < m → unqL n r at' out = unqL m r at' out := by
  intro n
  induction n with
  | zero => intro m r a o h; omega
  | succ n ih =>
    intro m r a o h1 h2
    obtain ⟨m, rfl⟩ : ∃ q, m = q + 1 := ⟨m - 1, by omega⟩
    cases r with
    | nil => rfl
    | cons c r =>
      simp only [List.length_cons] at h1 h2
      unfold unqL
      split
      · rfl
      · split
        · split
          · rfl
          · rename_i h3
            have h4 := escL_ok (c :: r) (by simpa using h3)
            have h5 : ((c :: r).drop (escL (c :: r)).2.1).length < (c :: r).length := by rw [List.length_drop]; simp only [List.length_cons] at h4 ⊢; omega
            simp only [List.length_cons] at h5
            exact ih _ _ _ _ (by omega) (by omega)
        · split
          · exact ih _ _ _ _ (by omega) (by omega)
          · rfl
def unqEnd (o : Sum Unit URes) : Option URes := Md.onS o (fun _ => some (([] : List UInt8), 0, 2)) (fun r => some r)
theorem at_drop {l : List UInt8} {j : Nat} (m : Nat) : (l.drop j).drop m = l.drop (j + m) := by rw [List.drop_drop]
theorem unq_loop (k : Nat) (a0 : List UInt8) (hk : 4 ≤ k) (hl : a0.length ≤ 2000000) : ∀ n at' out, a0.length - at' < n → at' ≤ a0.length → out.length + (a0.length - at') ≤ 4000000 → (console_Unquote_loop1 k a0 n (at' : Int) out).bind unqEnd = some (unqL n (a0.drop at') at' out) := by
  intro n
  induction n with
  | zero => intro a o h; omega
  | succ n ih =>
    intro a o h ha ho
    rw [console_Unquote_loop1]
    by_cases hj : a < a0.length
    · rw [decide_eq_true (by omega), cond_true, ifp_pos (by omega), Int.toNat_natCast, drop_cons hj]
      rw [unqL]
      have hW : W ((a : Int) + 1) = ((a + 1 : Nat) : Int) := (W_id (by omega) (by omega)).trans (by omega)
      by_cases h1 : (a0.getD a 0).toNat = 34
      · rw [if_pos h1, ib_t (n := (a0.getD a 0).toNat) (z := 34) (by omega), cond_true, hW]; rfl
      rw [if_neg h1, ib_f (n := (a0.getD a 0).toNat) (z := 34) (by omega), cond_false]
      by_cases h2 : (a0.getD a 0).toNat = 92
      · rw [if_pos h2, ib_t (n := (a0.getD a 0).toNat) (z := 92) (by omega), cond_true, ifp_pos (by omega), ifp_pos (by omega), ← drop_cons hj, escape_eq k _ hk (by rw [List.length_drop]; omega), bind_e rfl]
        by_cases h3 : (escL (a0.drop a)).2.2 ≠ 0
        · rw [if_pos h3, show ((esI (escL (a0.drop a))).2.2 != 0) = true from by simpa [esI] using h3]; rfl
        · obtain ⟨h4, h5⟩ := escL_ok (a0.drop a) (by simpa using h3)
          rw [List.length_drop] at h5
          have hW2 : W ((a : Int) + (esI (escL (a0.drop a))).2.1) = ((a + (escL (a0.drop a)).2.1 : Nat) : Int) := (W_id (by simp only [esI]; omega) (by simp only [esI]; omega)).trans (by simp only [esI]; omega)
          rw [if_neg h3, show ((esI (escL (a0.drop a))).2.2 != 0) = false from by simpa [esI] using h3, cond_false, ifp_pos (by simp; omega), hW2, ih _ _ (by omega) (by omega) (by simp; omega), at_drop]
          rfl
      rw [if_neg h2, ib_f (n := (a0.getD a 0).toNat) (z := 92) (by omega), cond_false, plain_eq, bind_e rfl]
      cases h3 : plB (a0.getD a 0) with
      | true => rw [if_pos rfl, cond_true, ifp_pos (by simp; omega), hW, ih _ _ (by omega) (by omega) (by simp; omega)]
      | false => rw [if_neg (by decide)]; rfl
    · rw [decide_eq_false (by omega), cond_false, drop_none hj]; rfl
theorem unqR_loop (k : Nat) (a0 : List UInt8) (hk : 4 ≤ k) (hl : a0.length ≤ 2000000) : ∀ n at' out, a0.length - at' < n → at' ≤ a0.length → out.length + (a0.length - at') ≤ 4000000 → (actorgridref41_Unquote_loop1 k a0 n (at' : Int) out).bind unqEnd = some (unqL n (a0.drop at') at' out) := by
  intro n
  induction n with
  | zero => intro a o h; omega
  | succ n ih =>
    intro a o h ha ho
    rw [actorgridref41_Unquote_loop1]
    by_cases hj : a < a0.length
    · rw [decide_eq_true (by omega), cond_true, ifp_pos (by omega), Int.toNat_natCast, drop_cons hj]
      rw [unqL]
      have hW : W ((a : Int) + 1) = ((a + 1 : Nat) : Int) := (W_id (by omega) (by omega)).trans (by omega)
      by_cases h1 : (a0.getD a 0).toNat = 34
      · rw [if_pos h1, ib_t (n := (a0.getD a 0).toNat) (z := 34) (by omega), cond_true, hW]; rfl
      rw [if_neg h1, ib_f (n := (a0.getD a 0).toNat) (z := 34) (by omega), cond_false, npl]
      by_cases h2 : (a0.getD a 0).toNat = 92
      · have hp : plB (a0.getD a 0) = true := by unfold plB; rw [h2]; rfl
        rw [hp, Bool.not_true, cond_false, if_pos h2, nb_f (n := (a0.getD a 0).toNat) (z := 92) (by omega), cond_false, ifp_pos (by omega), ifp_pos (by omega), ← drop_cons hj, escapeR_eq k _ hk (by rw [List.length_drop]; omega), bind_e rfl]
        by_cases h3 : (escL (a0.drop a)).2.2 ≠ 0
        · rw [if_pos h3, show ((esI (escL (a0.drop a))).2.2 != 0) = true from by simpa [esI] using h3]; rfl
        · obtain ⟨h4, h5⟩ := escL_ok (a0.drop a) (by simpa using h3)
          rw [List.length_drop] at h5
          have hW2 : W ((a : Int) + (esI (escL (a0.drop a))).2.1) = ((a + (escL (a0.drop a)).2.1 : Nat) : Int) := (W_id (by simp only [esI]; omega) (by simp only [esI]; omega)).trans (by simp only [esI]; omega)
          rw [if_neg h3, show ((esI (escL (a0.drop a))).2.2 != 0) = false from by simpa [esI] using h3, cond_false, ifp_pos (by simp; omega), hW2, ih _ _ (by omega) (by omega) (by simp; omega), at_drop]
          rfl
      rw [if_neg h2, nb_t (n := (a0.getD a 0).toNat) (z := 92) (by omega)]
      cases h3 : plB (a0.getD a 0) with
      | true => rw [if_pos rfl, Bool.not_true, cond_false, cond_true, ifp_pos (by simp; omega), hW, ih _ _ (by omega) (by omega) (by simp; omega)]
      | false => rw [if_neg (by decide)]; rfl
    · rw [decide_eq_false (by omega), cond_false, drop_none hj]; rfl
def unquote : List UInt8 → URes
  | [] => ([], 0, 2)
  | c :: r => if c.toNat ≠ 34 then ([], 0, 13) else unqL (r.length + 1) r 1 []
theorem unquote_cons (c : UInt8) (r : List UInt8) : unquote (c :: r) = if c.toNat ≠ 34 then ([], 0, 13) else unqL (r.length + 1) r 1 [] := rfl
theorem unquote_eq (k : Nat) (s : List UInt8) (hk : 4 ≤ k) (hk2 : s.length < k) (hl : s.length ≤ 2000000) : console_Unquote k s = some (unquote s) := by
  unfold console_Unquote
  cases s with
  | nil => rfl
  | cons c r =>
    rw [decide_eq_false (by simp), cond_false, ifp_pos (by simp)]
    rw [unquote]
    by_cases h : c.toNat ≠ 34
    · rw [if_pos h, nb_t (n := ((c :: r).getD 0 0).toNat) (z := 34) (by show ((c.toNat : Nat) : Int) ≠ 34; omega)]; rfl
    · rw [if_neg h, nb_f (n := ((c :: r).getD 0 0).toNat) (z := 34) (by show ((c.toNat : Nat) : Int) = 34; omega), cond_false]
      simp only [List.length_cons] at hk2 hl
      exact (unq_loop k (c :: r) hk (by simp; omega) k 1 [] (by simp; omega) (by simp) (by simp; omega)).trans (congrArg some (unqL_fuel _ _ _ _ _ (by simp; omega) (by simp)))
theorem unquoteR_eq (k : Nat) (s : List UInt8) (hk : 4 ≤ k) (hk2 : s.length < k) (hl : s.length ≤ 2000000) : actorgridref41_Unquote k s = some (unquote s) := by
  unfold actorgridref41_Unquote
  cases s with
  | nil => rfl
  | cons c r =>
    rw [show ((((c :: r).length : Nat) : Int) == 0) = false from by simp; omega, cond_false, ifp_pos (by simp)]
    rw [unquote]
    by_cases h : c.toNat ≠ 34
    · rw [if_pos h, nb_t (n := ((c :: r).getD 0 0).toNat) (z := 34) (by show ((c.toNat : Nat) : Int) ≠ 34; omega)]; rfl
    · rw [if_neg h, nb_f (n := ((c :: r).getD 0 0).toNat) (z := 34) (by show ((c.toNat : Nat) : Int) = 34; omega), cond_false]
      simp only [List.length_cons] at hk2 hl
      exact (unqR_loop k (c :: r) hk (by simp; omega) k 1 [] (by simp; omega) (by simp) (by simp; omega)).trans (congrArg some (unqL_fuel _ _ _ _ _ (by simp; omega) (by simp)))
/-! ### there and back -/
theorem hex_back (c : UInt8) (h : plB c = false) : ¬ hexv (hexd (c.toNat / 16)) < 0 ∧ ¬ hexv (hexd (c.toNat % 16)) < 0 ∧ hexb (hexd (c.toNat / 16)) (hexd (c.toNat % 16)) = c := by
  have := u8_all (P := fun c => ¬ hexv (hexd (c.toNat / 16)) < 0 ∧ ¬ hexv (hexd (c.toNat % 16)) < 0 ∧ hexb (hexd (c.toNat / 16)) (hexd (c.toNat % 16)) = c) (by decide +kernel) c
  exact this
theorem esc_qc {c : UInt8} (r : List UInt8) : (c.toNat = 34 ∨ c.toNat = 92 → escL (92 :: c :: r) = (c, 2, 0)) ∧ (plB c = false → escL (92 :: 120 :: hexd (c.toNat / 16) :: hexd (c.toNat % 16) :: r) = (c, 4, 0)) := by
  constructor
  · intro h
    unfold escL
    simp only [List.getD_cons_succ, List.getD_cons_zero]
    rw [if_neg (by simp), if_pos h]
  · intro h
    obtain ⟨h1, h2, h3⟩ := hex_back c h
    unfold escL
    simp only [List.getD_cons_succ, List.getD_cons_zero]
    rw [if_neg (by simp), if_neg (show ¬ ((120 : UInt8).toNat = 34 ∨ (120 : UInt8).toNat = 92) by decide), if_neg (show ¬ (120 : UInt8).toNat ≠ 120 by decide), if_neg (by simp), if_neg h1, if_neg (by simp), if_neg h2]
    show (if plB (hexb (hexd (c.toNat / 16)) (hexd (c.toNat % 16))) = true then _ else (hexb (hexd (c.toNat / 16)) (hexd (c.toNat % 16)), 4, 0)) = _
    rw [h3, h, if_neg (by decide)]
theorem qc_esc {c : UInt8} (h : c.toNat = 34 ∨ c.toNat = 92) : qc c = [92, c] := if_pos h
theorem qc_pl {c : UInt8} (h : ¬ (c.toNat = 34 ∨ c.toNat = 92)) (h2 : plB c = true) : qc c = [c] := by unfold qc; rw [if_neg h, if_pos h2]
theorem qc_hex {c : UInt8} (h : ¬ (c.toNat = 34 ∨ c.toNat = 92)) (h2 : plB c = false) : qc c = [92, 120, hexd (c.toNat / 16), hexd (c.toNat % 16)] := by unfold qc; rw [if_neg h, h2, if_neg (by decide)]
theorem unqL_quote (more : List UInt8) : ∀ (s : List UInt8) n at' out, (s.flatMap qc).length + more.length + 1 < n → unqL n (s.flatMap qc ++ 34 :: more) at' out = (out ++ s, ((at' + (s.flatMap qc).length + 1 : Nat) : Int), 0) := by
  intro s
  induction s with
  | nil =>
    intro n a o h
    obtain ⟨n, rfl⟩ : ∃ q, n = q + 1 := ⟨n - 1, by omega⟩
    show unqL (n + 1) (34 :: more) a o = _
    rw [unqL, if_pos (by decide)]
    simp
  | cons c s ih =>
    intro n a o h
    obtain ⟨n, rfl⟩ : ∃ q, n = q + 1 := ⟨n - 1, by omega⟩
    rw [List.flatMap_cons, List.length_append] at h
    rw [List.flatMap_cons, List.length_append, List.append_assoc]
    by_cases h1 : c.toNat = 34 ∨ c.toNat = 92
    · rw [qc_esc h1] at h ⊢
      simp only [List.length_cons, List.length_nil] at h ⊢
      show unqL (n + 1) (92 :: c :: (s.flatMap qc ++ 34 :: more)) a o = _
      rw [unqL, if_neg (by decide), if_pos (by decide), (esc_qc _).1 h1, if_neg (by simp)]
      refine (ih n (a + 2) (o ++ [c]) (by omega)).trans ?_
      rw [List.append_assoc]
      congr 2
      omega
    · cases h2 : plB c with
      | true =>
        rw [qc_pl h1 h2] at h ⊢
        simp only [List.length_cons, List.length_nil] at h ⊢
        show unqL (n + 1) (c :: (s.flatMap qc ++ 34 :: more)) a o = _
        rw [unqL, if_neg (by omega), if_neg (by omega), if_pos h2]
        refine (ih n (a + 1) (o ++ [c]) (by omega)).trans ?_
        rw [List.append_assoc]
        congr 2
        omega
      | false =>
        rw [qc_hex h1 h2] at h ⊢
        simp only [List.length_cons, List.length_nil] at h ⊢
        show unqL (n + 1) (92 :: 120 :: hexd (c.toNat / 16) :: hexd (c.toNat % 16) :: (s.flatMap qc ++ 34 :: more)) a o = _
        rw [unqL, if_neg (by decide), if_pos (by decide), (esc_qc _).2 h2, if_neg (by simp)]
        refine (ih n (a + 4) (o ++ [c]) (by omega)).trans ?_
        rw [List.append_assoc]
        congr 2
        omega
theorem unquote_quote (s more : List UInt8) : unquote (quoteL s ++ more) = (s, ((quoteL s).length : Int), 0) := by
  unfold quoteL
  show unquote (34 :: (s.flatMap qc ++ [34] ++ more)) = _
  rw [unquote_cons, if_neg (by decide), List.append_assoc]
  refine (unqL_quote more s _ 1 [] (by simp only [List.length_append, List.length_cons, List.length_nil]; omega)).trans ?_
  rw [List.nil_append]
  congr 2
  simp only [List.length_append, List.length_cons, List.length_nil]
  omega
theorem hex_fwd (x y : UInt8) (h1 : ¬ hexv x < 0) (h2 : ¬ hexv y < 0) : hexd ((hexb x y).toNat / 16) = x ∧ hexd ((hexb x y).toNat % 16) = y := by
  have key : ∀ c : UInt8, ¬ hexv c < 0 → hexd (hexv c).toNat = c := fun c => u8_all (P := fun c => ¬ hexv c < 0 → hexd (hexv c).toNat = c) (by decide +kernel) c
  have k1 := key x h1
  have k2 := key y h2
  obtain ⟨a, ha, e1⟩ := hexv_nat h1
  obtain ⟨b, hb, e2⟩ := hexv_nat h2
  unfold hexb
  rw [e1] at k1 ⊢
  rw [e2] at k2 ⊢
  rw [(hexb_val a b ha hb).2, show (16 * a + b) / 16 = a by omega, show (16 * a + b) % 16 = b by omega]
  exact ⟨by simpa using k1, by simpa using k2⟩
theorem escL_back {r : List UInt8} (h : (escL (92 :: r)).2.2 = 0) : ∃ rest, 92 :: r = qc (escL (92 :: r)).1 ++ rest ∧ (escL (92 :: r)).2.1 = (qc (escL (92 :: r)).1).length := by
  unfold escL at h ⊢
  split at h
  · cases h
  rename_i h0
  rw [if_neg h0]
  match r, h0, h with
  | [], h0, _ => simp at h0
  | c :: r, h0, h =>
    simp only [List.getD_cons_succ, List.getD_cons_zero] at h ⊢
    split at h
    · rename_i h1
      rw [if_pos h1]
      unfold qc
      rw [if_pos h1]
      exact ⟨r, rfl, rfl⟩
    · rename_i h1
      rw [if_neg h1]
      split at h
      · cases h
      rename_i h2
      rw [if_neg h2]
      split at h
      · cases h
      rename_i h3
      rw [if_neg h3]
      match r, h3, h with
      | [], h3, _ => simp at h3
      | x :: r, h3, h =>
        simp only [List.getD_cons_succ, List.getD_cons_zero] at h ⊢
        split at h
        · cases h
        rename_i h4
        rw [if_neg h4]
        split at h
        · cases h
        rename_i h5
        rw [if_neg h5]
        match r, h5, h with
        | [], h5, _ => simp at h5
        | y :: r, h5, h =>
          simp only [List.getD_cons_succ, List.getD_cons_zero] at h ⊢
          split at h
          · cases h
          rename_i h6
          rw [if_neg h6]
          split at h
          · cases h
          rename_i h7
          rw [if_neg h7]
          obtain ⟨e1, e2⟩ := hex_fwd x y h4 h6
          have e3 : c = 120 := by
            apply UInt8.toNat_inj.1
            have : (120 : UInt8).toNat = 120 := rfl
            omega
          unfold qc
          have h8 : ¬ ((hexb x y).toNat = 34 ∨ (hexb x y).toNat = 92) := fun hq => h7 (by unfold plB; rcases hq with hq | hq <;> rw [hq] <;> rfl)
          rw [if_neg h8, if_neg h7, e1, e2, e3]
          exact ⟨r, rfl, rfl⟩
theorem unqL_back : ∀ n r at' out t (m : Int), unqL n r at' out = (t, m, 0) → ∃ u rest, t = out ++ u ∧ r = u.flatMap qc ++ 34 :: rest ∧ m = ((at' + (u.flatMap qc).length + 1 : Nat) : Int) := by
  intro n
  induction n with
  | zero => intro r a o t m h; exact absurd (congrArg (·.2.2) h) (show (2 : Int) ≠ 0 by decide)
  | succ n ih =>
    intro r a o t m h
    cases r with
    | nil => exact absurd (congrArg (·.2.2) h) (show (2 : Int) ≠ 0 by decide)
    | cons c r =>
      rw [unqL] at h
      split at h
      · rename_i h1
        cases h
        have : c = 34 := UInt8.toNat_inj.1 h1
        subst this
        exact ⟨[], r, by simp, rfl, rfl⟩
      · rename_i h1
        split at h
        · rename_i h2
          have : c = 92 := UInt8.toNat_inj.1 h2
          subst this
          split at h
          · rename_i h3; exact absurd (congrArg (·.2.2) h) h3
          · rename_i h3
            obtain ⟨rest, e1, e2⟩ := escL_back (by simpa using h3)
            generalize escL (92 :: r) = e at *
            rw [e1, e2, List.drop_left] at h
            obtain ⟨u, rest', e3, e4, e5⟩ := ih _ _ _ _ _ h
            refine ⟨e.1 :: u, rest', by rw [e3, List.append_assoc]; rfl, by rw [e1, e4, List.flatMap_cons, List.append_assoc], ?_⟩
            rw [e5, List.flatMap_cons, List.length_append]
            omega
        · rename_i h2
          split at h
          · rename_i h3
            obtain ⟨u, rest', e3, e4, e5⟩ := ih _ _ _ _ _ h
            have hq : qc c = [c] := by unfold qc; rw [if_neg (by omega), if_pos h3]
            refine ⟨c :: u, rest', by rw [e3, List.append_assoc]; rfl, by rw [e4, List.flatMap_cons, hq]; rfl, ?_⟩
            rw [e5, List.flatMap_cons, List.length_append, hq]
            simp only [List.length_cons, List.length_nil]
            omega
          · exact absurd (congrArg (·.2.2) h) (show (13 : Int) ≠ 0 by decide)
theorem unquote_back {s t : List UInt8} {m : Int} (h : unquote s = (t, m, 0)) : ∃ rest, s = quoteL t ++ rest ∧ m = ((quoteL t).length : Int) := by
  cases s with
  | nil => exact absurd (congrArg (·.2.2) h) (show (2 : Int) ≠ 0 by decide)
  | cons c r =>
    rw [unquote_cons] at h
    split at h
    · exact absurd (congrArg (·.2.2) h) (show (13 : Int) ≠ 0 by decide)
    · rename_i h1
      have : c = 34 := UInt8.toNat_inj.1 (by simpa using h1)
      subst this
      obtain ⟨u, rest, e1, e2, e3⟩ := unqL_back _ _ _ _ _ _ h
      rw [List.nil_append] at e1
      subst e1
      refine ⟨rest, by unfold quoteL; rw [e2]; simp, ?_⟩
      rw [e3]
      unfold quoteL
      simp only [List.length_append, List.length_cons, List.length_nil]
      omega
theorem unqL_err : ∀ n r at' out, (unqL n r at' out).2.2 ≠ 0 → (unqL n r at' out).1 = [] ∧ (unqL n r at' out).2.1 = 0 := by
  intro n
  induction n with
  | zero => intro r a o h; exact ⟨rfl, rfl⟩
  | succ n ih =>
    intro r a o h
    cases r with
    | nil => exact ⟨rfl, rfl⟩
    | cons c r =>
      rw [unqL] at h ⊢
      split at h
      · exact absurd rfl h
      · rename_i h1
        rw [if_neg h1]
        split at h
        · rename_i h2
          rw [if_pos h2]
          split at h
          · rename_i h3; rw [if_pos h3]; exact ⟨rfl, rfl⟩
          · rename_i h3; rw [if_neg h3]; exact ih _ _ _ h
        · rename_i h2
          rw [if_neg h2]
          split at h
          · rename_i h3; rw [if_pos h3]; exact ih _ _ _ h
          · rename_i h3; rw [if_neg h3]; exact ⟨rfl, rfl⟩
theorem unquote_err {s : List UInt8} (h : (unquote s).2.2 ≠ 0) : (unquote s).1 = [] ∧ (unquote s).2.1 = 0 := by
  cases s with
  | nil => exact ⟨rfl, rfl⟩
  | cons c r =>
    rw [unquote_cons] at h ⊢
    split at h
    · rename_i h1; rw [if_pos h1]; exact ⟨rfl, rfl⟩
    · rename_i h1; rw [if_neg h1]; exact unqL_err _ _ _ _ h
end Md
end Go.Proofs.YtjpiiejdaiaocaaDoor
