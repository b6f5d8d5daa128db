/-
  Layer 1 in plain words: strings and lists. Conditions: sizes.
-/
import Derived.Test.YtbnjdkpangmneaaWirePd
namespace Go.Proofs.Ytbnjdkpangmneaa
set_option linter.unusedVariables false
set_option linter.unusedSimpArgs false
namespace Md
/-! ### read -/
def readLen (b : List UInt8) (max : Int) : Int × Int × Int :=
  if max < 0 then (0, 0, 1) else if (readU b).2.2 ≠ 0 then (0, 0, (readU b).2.2) else if max.toNat < (readU b).1.toNat then (0, 0, 5) else (((readU b).1.toNat : Int), (readU b).2.1, 0)
theorem readLen_eq (k : Nat) (b : List UInt8) (max : Int) (hb : b.length ≤ 4000000) (hk : b.length < k) (hm : I64 max) : wire_length k b max = some (readLen b max) := by
  unfold readLen
  by_cases h : max < 0
  · rw [if_pos h]
    unfold wire_length
    rw [decide_eq_true h]; rfl
  · rw [if_neg h]
    obtain ⟨m, rfl⟩ : ∃ m : Nat, max = (m : Int) := ⟨max.toNat, by omega⟩
    have := length_u k b m hb hk (by unfold I64 at hm; omega)
    rwa [Int.toNat_natCast]
/-- An error without a value, or a length and the bytes that it takes. -/
theorem readLen_ok (b : List UInt8) (max : Int) : ((readLen b max).2.2 ≠ 0 ∧ (readLen b max).1 = 0 ∧ (readLen b max).2.1 = 0) ∨ ((readLen b max).2.2 = 0 ∧ ∃ u n : Nat, readLen b max = ((u : Int), (n : Int), 0) ∧ 0 < n ∧ n ≤ b.length ∧ (u : Int) ≤ max ∧ u = (readU b).1.toNat) := by
  unfold readLen
  split
  · exact .inl ⟨by decide, rfl, rfl⟩
  · split
    · exact .inl ⟨by assumption, rfl, rfl⟩
    · split
      · exact .inl ⟨by decide, rfl, rfl⟩
      · rename_i h1 h2 h3
        rcases readU_ok b with ⟨h4, _⟩ | ⟨h4, n, h5, h6, h7⟩
        · exact absurd h4 h2
        · exact .inr ⟨rfl, _, n, by rw [h5], h6, h7, by omega, rfl⟩
def readS (b : List UInt8) (max : Int) : List UInt8 × Int × Int :=
  if (readLen b max).2.2 ≠ 0 then ([], 0, (readLen b max).2.2)
  else if (b.length : Int) - (readLen b max).2.1 < (readLen b max).1 then ([], 0, 2)
  else ((b.drop (readLen b max).2.1.toNat).take (readLen b max).1.toNat, (readLen b max).2.1 + (readLen b max).1, 0)
theorem readS_eq (k : Nat) (b : List UInt8) (max : Int) (hb : b.length ≤ 4000000) (hk : b.length < k) (hm : I64 max) : wire_String k b max = some (readS b max) := by
  unfold wire_String readS
  rw [readLen_eq k b max hb hk hm, bind_e rfl]
  rcases readLen_ok b max with ⟨h1, h2, h3⟩ | ⟨h1, u, n, h2, h3, h4, h5, _⟩
  · rw [if_pos h1, show ((readLen b max).2.2 != 0) = true from by simp [h1]]; rfl
  · rw [h2]
    dsimp only
    unfold I64 at hm
    have hW : W (((b.length : Nat) : Int) - (n : Int)) = (b.length : Int) - n := W_id (by omega) (by omega)
    rw [if_neg (by decide), hW]
    by_cases h6 : (b.length : Int) - n < u
    · rw [if_pos h6, decide_eq_true h6]; rfl
    · have hW2 : W ((n : Int) + (u : Int)) = ((n + u : Nat) : Int) := (W_id (by omega) (by omega)).trans (by omega)
      rw [if_neg h6, decide_eq_false h6, hW2]
      simp only [bne_self_eq_false, cond_false, Int.toNat_natCast]
      rw [ifp_pos (by omega), ifp_pos (by omega), ifp_pos (by omega), show n + u - n = u by omega]
      congr 3
theorem readS_ref (k : Nat) (b : List UInt8) (max : Int) (hb : b.length ≤ 4000000) (hk : b.length < k) (hm : I64 max) : actorgridref1_ReadString k b max = some (readS b max) := by
  unfold actorgridref1_ReadString readS readLen
  by_cases h : max < 0
  · rw [decide_eq_true h, if_pos h]; rfl
  rw [decide_eq_false h, if_neg h, cond_false, uintR_ref k b hb hk, bind_e rfl]
  rcases readU_ok b with ⟨h1, h2, h3, _⟩ | ⟨h1, n, h2, h3, h4⟩
  · rw [if_pos h1, show ((readU b).2.2 != 0) = true from by simp [h1], if_pos h1]; rfl
  unfold I64 at hm
  have hm' : (UInt64.ofInt max).toNat = max.toNat := by rw [ofInt_nat]; omega
  have hu := (readU b).1.toNat_lt
  have hn : ¬ (readU b).2.2 ≠ 0 := by simp [h1]
  rw [if_neg hn, hm', h2, h1]
  generalize (readU b).1.toNat = u at *
  by_cases h5 : max.toNat < u
  · rw [if_pos h5, decide_eq_true (by omega)]; rfl
  rw [if_neg h5, decide_eq_false (by omega)]
  have hW : W (((b.length : Nat) : Int) - (n : Int)) = (b.length : Int) - n := W_id (by omega) (by omega)
  have hl : (UInt64.ofInt ((b.length : Int) - n)).toNat = b.length - n := by rw [ofInt_nat]; omega
  rw [hW, hl]
  dsimp only
  by_cases h6 : (b.length : Int) - n < u
  · rw [if_neg (by decide), if_pos h6, decide_eq_true (by omega)]; rfl
  · have hW1 : W (u : Int) = (u : Int) := W_id (by omega) (by omega)
    have hW2 : W ((n : Int) + (u : Int)) = ((n + u : Nat) : Int) := (W_id (by omega) (by omega)).trans (by omega)
    rw [if_neg (by decide), if_neg h6, decide_eq_false (by omega), hW1, hW2]
    simp only [bne_self_eq_false, cond_false, Int.toNat_natCast]
    rw [ifp_pos (by omega), ifp_pos (by omega), ifp_pos (by omega), show n + u - n = u by omega]
    congr 3
/-- What a reader of an element gives. -/
def Rd {α : Type} (rd : List UInt8 → α × Int × Int) : Prop := ∀ b, (rd b).2.2 ≠ 0 ∨ ((rd b).2.2 = 0 ∧ ∃ n : Nat, (rd b).2.1 = (n : Int) ∧ 0 < n ∧ n ≤ b.length)
theorem rd_int : Rd readI := fun b => by
  rcases readU_ok b with ⟨h, _⟩ | ⟨h, n, h2, h3, h4⟩
  · exact .inl h
  · exact .inr ⟨h, n, h2, h3, h4⟩
theorem rd_str (max : Int) : Rd (fun b => readS b max) := fun b => by
  show (readS b max).2.2 ≠ 0 ∨ ((readS b max).2.2 = 0 ∧ ∃ n : Nat, (readS b max).2.1 = (n : Int) ∧ 0 < n ∧ n ≤ b.length)
  unfold readS
  rcases readLen_ok b max with ⟨h1, h2, h3⟩ | ⟨h1, u, n, h2, h3, h4, h5, _⟩
  · rw [if_pos h1]; exact .inl h1
  · rw [h2]
    dsimp only
    rw [if_neg (by decide)]
    split
    · exact .inl (by decide)
    · exact .inr ⟨rfl, n + u, (show (n : Int) + (u : Int) = ((n + u : Nat) : Int) by omega), by omega, by omega⟩
/-- c more elements from place p on. -/
def readN {α : Type} (rd : List UInt8 → α × Int × Int) (b : List UInt8) : Nat → Nat → List α → List α × Int × Int
  | 0, p, acc => (acc, (p : Int), 0)
  | c + 1, p, acc => if (rd (b.drop p)).2.2 ≠ 0 then ([], 0, (rd (b.drop p)).2.2) else readN rd b c (p + (rd (b.drop p)).2.1.toNat) (acc ++ [(rd (b.drop p)).1])
def readL {α : Type} (rd : List UInt8 → α × Int × Int) (b : List UInt8) (max : Int) : List α × Int × Int :=
  if (readLen b max).2.2 ≠ 0 then ([], 0, (readLen b max).2.2) else readN rd b (readLen b max).1.toNat (readLen b max).2.1.toNat []
theorem and_t (a b : Bool) (h : a = true) : (a && b) = b := by rw [h]; rfl
theorem ints_loop (k : Nat) (b : List UInt8) (hb : b.length ≤ 3000000) (hk : b.length < k) (u : Nat) (hu : (u : Int) ≤ 9223372036854775807) (x1 : Int × Int × Int) (hx : x1.1 = (u : Int)) : ∀ (n p i : Nat) (acc : List Int), p ≤ b.length → acc.length ≤ p → i ≤ u → b.length - p + 1 < n → i ≤ p →
    ((wire_list_int__wire_Int_loop1 k b x1 n (p : Int) 0 i acc).bind fun x2_0 => bif (x2_0.2.1 != 0) then (some (([] : List Int), (0 : Int), x2_0.2.1)) else (some (x2_0.2.2, x2_0.1, (0 : Int)))) = some (readN readI b (u - i) p acc) := by
  intro n
  induction n with
  | zero => intro p i acc h1 h2 h3 h4; omega
  | succ n ih =>
    intro p i acc h1 h2 h3 h4 h4'
    rw [wire_list_int__wire_Int_loop1, hx, and_t _ _ (by rfl)]
    by_cases h : i < u
    · have hd : (b.drop p).length = b.length - p := List.length_drop
      rw [decide_eq_true (by omega), cond_true, ifp_pos (by omega), Int.toNat_natCast, ifp_pos h1, intR_eq k _ (by omega) (by omega), bind_e rfl, ifp_pos (by simp; omega), ifp_pos (by omega), show u - i = (u - (i + 1)) + 1 by omega]
      show _ = some (if (readI (b.drop p)).2.2 ≠ 0 then ([], 0, (readI (b.drop p)).2.2) else readN readI b (u - (i + 1)) (p + (readI (b.drop p)).2.1.toNat) (acc ++ [(readI (b.drop p)).1]))
      rcases rd_int (b.drop p) with h5 | ⟨h5, m, h6, h7, h8⟩
      · rw [if_pos h5]
        obtain ⟨n, rfl⟩ : ∃ q, n = q + 1 := ⟨n - 1, by omega⟩
        rw [wire_list_int__wire_Int_loop1, show ((readI (b.drop p)).2.2 == 0) = false from by simp [h5], Bool.false_and, cond_false, bind_e rfl]
        dsimp only
        rw [show ((readI (b.drop p)).2.2 != 0) = true from by simp [h5], cond_true]
      · have hn : ¬ (readI (b.drop p)).2.2 ≠ 0 := by simp [h5]
        rw [if_neg hn, h5, h6, Int.toNat_natCast, show W ((p : Int) + (m : Int)) = ((p + m : Nat) : Int) from (W_id (by omega) (by omega)).trans (by omega)]
        exact ih (p + m) (i + 1) _ (by omega) (by simp; omega) (by omega) (by omega) (by omega)
    · rw [decide_eq_false (by omega), cond_false, bind_e rfl, show u - i = 0 by omega]
      rfl
theorem intsR_eq (k : Nat) (b : List UInt8) (max : Int) (hb : b.length ≤ 3000000) (hk : b.length + 2 < k) (hm : I64 max) : wire_IntList k b max = some (readL readI b max) := by
  unfold wire_IntList wire_list_int__wire_Int readL
  rw [readLen_eq k b max (by omega) (by omega) hm, bind_e rfl]
  rcases readLen_ok b max with ⟨h1, h2, h3⟩ | ⟨h1, u, n, h2, h3, h4, h5, _⟩
  · rw [if_pos h1]
    obtain ⟨k', rfl⟩ : ∃ q, k = q + 1 := ⟨k - 1, by omega⟩
    rw [wire_list_int__wire_Int_loop1, show ((readLen b max).2.2 == 0) = false from by simp [h1], Bool.false_and, cond_false, bind_e rfl]
    dsimp only
    rw [show ((readLen b max).2.2 != 0) = true from by simp [h1], cond_true, bind_e rfl]
  · rw [h2]
    dsimp only
    unfold I64 at hm
    rw [if_neg (by decide), Int.toNat_natCast, Int.toNat_natCast, ints_loop k b hb (by omega) u (by omega) _ rfl k n 0 [] (by omega) (by simp) (by omega) (by omega) (by omega), bind_e rfl]
    rfl
theorem strs1_eq (k : Nat) (b : List UInt8) (hb : b.length ≤ 4000000) (hk : b.length < k) : wire_StringList_1 k b = some (readS b 64) := by
  unfold wire_StringList_1
  rw [readS_eq k b 64 hb hk (by unfold I64; omega), bind_e rfl]
theorem strs_loop (k : Nat) (b : List UInt8) (hb : b.length ≤ 3000000) (hk : b.length < k) (u : Nat) (hu : (u : Int) ≤ 9223372036854775807) (x1 : Int × Int × Int) (hx : x1.1 = (u : Int)) : ∀ (n p i : Nat) (acc : List (List UInt8)), p ≤ b.length → acc.length ≤ p → i ≤ u → b.length - p + 1 < n → i ≤ p →
    ((wire_list_string__wire_StringList_1_loop1 k b x1 n (p : Int) 0 i acc).bind fun x2_0 => bif (x2_0.2.1 != 0) then (some (([] : List (List UInt8)), (0 : Int), x2_0.2.1)) else (some (x2_0.2.2, x2_0.1, (0 : Int)))) = some (readN (fun b => readS b 64) b (u - i) p acc) := by
  intro n
  induction n with
  | zero => intro p i acc h1 h2 h3 h4; omega
  | succ n ih =>
    intro p i acc h1 h2 h3 h4 h4'
    rw [wire_list_string__wire_StringList_1_loop1, hx, and_t _ _ (by rfl)]
    by_cases h : i < u
    · have hd : (b.drop p).length = b.length - p := List.length_drop
      rw [decide_eq_true (by omega), cond_true, ifp_pos (by omega), Int.toNat_natCast, ifp_pos h1, strs1_eq k _ (by omega) (by omega), bind_e rfl, ifp_pos (by simp; omega), ifp_pos (by omega), show u - i = (u - (i + 1)) + 1 by omega]
      show _ = some (if (readS (b.drop p) 64).2.2 ≠ 0 then ([], 0, (readS (b.drop p) 64).2.2) else readN (fun b => readS b 64) b (u - (i + 1)) (p + (readS (b.drop p) 64).2.1.toNat) (acc ++ [(readS (b.drop p) 64).1]))
      rcases rd_str 64 (b.drop p) with h5 | ⟨h5, m, h6, h7, h8⟩
      · dsimp only at h5
        rw [if_pos h5]
        obtain ⟨n, rfl⟩ : ∃ q, n = q + 1 := ⟨n - 1, by omega⟩
        rw [wire_list_string__wire_StringList_1_loop1, show ((readS (b.drop p) 64).2.2 == 0) = false from by simp [h5], Bool.false_and, cond_false, bind_e rfl]
        dsimp only
        rw [show ((readS (b.drop p) 64).2.2 != 0) = true from by simp [h5], cond_true]
      · dsimp only at h5 h6
        have hn : ¬ (readS (b.drop p) 64).2.2 ≠ 0 := by simp [h5]
        rw [if_neg hn, h5, h6, Int.toNat_natCast, show W ((p : Int) + (m : Int)) = ((p + m : Nat) : Int) from (W_id (by omega) (by omega)).trans (by omega)]
        exact ih (p + m) (i + 1) _ (by omega) (by simp; omega) (by omega) (by omega) (by omega)
    · rw [decide_eq_false (by omega), cond_false, bind_e rfl, show u - i = 0 by omega]
      rfl
theorem strsR_eq (k : Nat) (b : List UInt8) (max : Int) (hb : b.length ≤ 3000000) (hk : b.length + 2 < k) (hm : I64 max) : wire_StringList k b max = some (readL (fun b => readS b 64) b max) := by
  unfold wire_StringList wire_list_string__wire_StringList_1 readL
  rw [readLen_eq k b max (by omega) (by omega) hm, bind_e rfl]
  rcases readLen_ok b max with ⟨h1, h2, h3⟩ | ⟨h1, u, n, h2, h3, h4, h5, _⟩
  · rw [if_pos h1]
    obtain ⟨k', rfl⟩ : ∃ q, k = q + 1 := ⟨k - 1, by omega⟩
    rw [wire_list_string__wire_StringList_1_loop1, show ((readLen b max).2.2 == 0) = false from by simp [h1], Bool.false_and, cond_false, bind_e rfl]
    dsimp only
    rw [show ((readLen b max).2.2 != 0) = true from by simp [h1], cond_true, bind_e rfl]
  · rw [h2]
    dsimp only
    unfold I64 at hm
    rw [if_neg (by decide), Int.toNat_natCast, Int.toNat_natCast, strs_loop k b hb (by omega) u (by omega) _ rfl k n 0 [] (by omega) (by simp) (by omega) (by omega) (by omega), bind_e rfl]
    rfl
end Md
end Go.Proofs.Ytbnjdkpangmneaa
