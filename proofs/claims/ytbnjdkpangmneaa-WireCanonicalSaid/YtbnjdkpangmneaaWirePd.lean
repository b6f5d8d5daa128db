/-
  Layer 1 in plain words: frames opened. Conditions: sizes.
-/
import Derived.Test.YtbnjdkpangmneaaWirePc
namespace Go.Proofs.Ytbnjdkpangmneaa
set_option linter.unusedVariables false
set_option linter.unusedSimpArgs false
namespace Md
/-- What is read behind the first three bytes: u is the body's length, n the bytes that u takes. -/
def openAt (b : List UInt8) (u n : Nat) : Int × List UInt8 × Int × Int :=
  if b.length < 3 + n + u + 4 then (0, [], 0, 2)
  else if low (crc (b.take (3 + n + u))) = (b.drop (3 + n + u)).take 4 then ((((b.getD 2 default).toNat : Nat) : Int), (b.drop (3 + n)).take u, ((3 + n + u + 4 : Nat) : Int), 0)
  else (0, [], 0, 4)
def openF (b : List UInt8) : Int × List UInt8 × Int × Int :=
  if b.length < 3 then (0, [], 0, 2)
  else if (b.getD 0 default).toNat ≠ 65 ∨ (b.getD 1 default).toNat ≠ 71 ∨ (b.getD 2 default).toNat = 0 then (0, [], 0, 3)
  else if (readU (b.drop 3)).2.2 ≠ 0 then (0, [], 0, (readU (b.drop 3)).2.2)
  else if 16777216 < (readU (b.drop 3)).1.toNat then (0, [], 0, 5)
  else openAt b (readU (b.drop 3)).1.toNat (readU (b.drop 3)).2.1.toNat
theorem head_test (b : List UInt8) (h : 3 ≤ b.length) {R : Type} (X : Option R) (Y : Option R) :
    (((bif ((((b.getD 0 default)).toNat : Int) != 65) then (some true) else (Md.ifp (1 < b.length) <| some ((((b.getD 1 default)).toNat : Int) != 71))) : Option Bool).bind fun x3 => ((bif x3 then (some true) else (Md.ifp (2 < b.length) <| some ((((b.getD 2 default)).toNat : Int) == 0))) : Option Bool).bind fun x4 => bif x4 then X else Y) =
      if (b.getD 0 default).toNat ≠ 65 ∨ (b.getD 1 default).toNat ≠ 71 ∨ (b.getD 2 default).toNat = 0 then X else Y := by
  generalize (b.getD 0 default).toNat = p
  generalize (b.getD 1 default).toNat = q
  generalize (b.getD 2 default).toNat = r
  rw [ifp_pos (by omega), ifp_pos (by omega)]
  by_cases h1 : p = 65
  · by_cases h2 : q = 71
    · by_cases h3 : r = 0
      · subst h1 h2 h3; rfl
      · subst h1 h2
        have : ((r : Int) == 0) = false := by simp; omega
        simp [h3, this]
    · subst h1
      have : ((q : Int) != 71) = true := by simp; omega
      simp [h2, this]
  · have : ((p : Int) != 65) = true := by simp; omega
    simp [h1, this]
theorem length_u (k : Nat) (b : List UInt8) (m : Nat) (hb : b.length ≤ 4000000) (hk : b.length < k) (hm : m ≤ 9223372036854775807) : wire_length k b (m : Int) =
    some (if (readU b).2.2 ≠ 0 then (0, 0, (readU b).2.2) else if m < (readU b).1.toNat then (0, 0, 5) else (((readU b).1.toNat : Int), (readU b).2.1, 0)) := by
  unfold wire_length
  rw [decide_eq_false (by omega), cond_false, uintR_eq k b hb hk, bind_e rfl]
  have hm' : (UInt64.ofInt (m : Int)).toNat = m := by rw [ofInt_nat]; omega
  rw [hm']
  by_cases h : (readU b).2.2 = 0
  · rw [h, if_neg (by simp)]
    by_cases h2 : m < (readU b).1.toNat
    · rw [if_pos h2, decide_eq_true (by omega)]; rfl
    · rw [if_neg h2, decide_eq_false (by omega), W_id (by omega) (by omega)]; rfl
  · rw [if_pos h, show ((readU b).2.2 != 0) = true from by simp [h]]
    rfl
theorem low_len (c : UInt32) : (low c).length = 4 := rfl
theorem open_eq (k : Nat) (b : List UInt8) (hb : b.length ≤ 3000000) (hk : b.length + 20 ≤ k) : wire_Open k b = some (openF b) := by
  unfold wire_Open openF
  by_cases h3 : b.length < 3
  · rw [decide_eq_true (by omega), if_pos h3]; rfl
  rw [decide_eq_false (by omega), if_neg h3, cond_false, ifp_pos (by omega), head_test b (by omega)]
  split
  · rfl
  have hl : (b.drop 3).length = b.length - 3 := List.length_drop
  have hlu := length_u k (b.drop 3) 16777216 (by omega) (by omega) (by omega)
  rw [show ((16777216 : Nat) : Int) = 16777216 from rfl] at hlu
  rw [ifp_pos (by omega), hlu, bind_e rfl]
  rcases readU_ok (b.drop 3) with ⟨h1, _⟩ | ⟨h1, n, h2, h4, h5⟩
  · rw [if_pos h1, if_pos h1, show ((readU (b.drop 3)).2.2 != 0) = true from by simp [h1]]
    rfl
  have hn : ¬ (readU (b.drop 3)).2.2 ≠ 0 := by simp [h1]
  rw [if_neg hn, if_neg hn]
  generalize (readU (b.drop 3)).1.toNat = u
  by_cases h6 : 16777216 < u
  · rw [if_pos h6, if_pos h6]; rfl
  rw [if_neg h6, if_neg h6, h2]
  have hW1 : W (3 + (n : Int)) = ((3 + n : Nat) : Int) := (W_id (by omega) (by omega)).trans (by omega)
  have hW2 : W ((b.length : Int) - ((3 + n : Nat) : Int)) = (b.length : Int) - ((3 + n : Nat) : Int) := W_id (by omega) (by omega)
  have hW3 : W ((u : Int) + 4) = ((u + 4 : Nat) : Int) := (W_id (by omega) (by omega)).trans (by omega)
  have hW4 : W (((3 + n : Nat) : Int) + (u : Int)) = ((3 + n + u : Nat) : Int) := (W_id (by omega) (by omega)).trans (by omega)
  have hW5 : W (((3 + n + u : Nat) : Int) + 4) = ((3 + n + u + 4 : Nat) : Int) := (W_id (by omega) (by omega)).trans (by omega)
  simp only [hW1, hW2, hW3, hW4, hW5, Int.toNat_natCast, bne_self_eq_false, cond_false]
  unfold openAt
  by_cases h7 : b.length < 3 + n + u + 4
  · rw [decide_eq_true (by omega), if_pos h7]; rfl
  have ht : (b.take (3 + n + u)).length = 3 + n + u := by rw [List.length_take]; omega
  rw [decide_eq_false (by omega), if_neg h7, cond_false, ifp_pos (by omega), ifp_pos (by omega), crc_eq k (by omega) _ (by omega) (by omega), bind_e rfl, word_eq k _ _ (by simp), bind_e rfl, List.nil_append]
  rw [ifp_pos (by omega), ifp_pos (by omega), ifp_pos (by omega), show 3 + n + u + 4 - (3 + n + u) = 4 by omega]
  by_cases h8 : low (crc (b.take (3 + n + u))) = (b.drop (3 + n + u)).take 4
  · rw [if_pos h8, decide_eq_true h8, Bool.not_true, cond_false, ifp_pos (by omega), ifp_pos (by omega), ifp_pos (by omega), ifp_pos (by omega), show 3 + n + u - (3 + n) = u by omega]
    rw [show (0 : Int) = ((0 : Nat) : Int) from rfl, extend_eq k _ 0 (by rw [List.length_take, List.length_drop]; omega) (by omega), bind_e rfl]
  · rw [if_neg h8, decide_eq_false h8]; rfl
theorem open_ref (k : Nat) (b : List UInt8) (hb : b.length ≤ 3000000) (hk : b.length + 20 ≤ k) : actorgridref1_Open k b = some (openF b) := by
  unfold actorgridref1_Open openF
  by_cases h3 : b.length < 3
  · rw [decide_eq_true (by omega), if_pos h3]; rfl
  rw [decide_eq_false (by omega), if_neg h3, cond_false, ifp_pos (by omega), head_test b (by omega)]
  split
  · rfl
  have hl : (b.drop 3).length = b.length - 3 := List.length_drop
  rw [ifp_pos (by omega), uintR_ref k _ (by omega) (by omega), bind_e rfl]
  rcases readU_ok (b.drop 3) with ⟨h1, _⟩ | ⟨h1, n, h2, h4, h5⟩
  · rw [if_pos h1, show ((readU (b.drop 3)).2.2 != 0) = true from by simp [h1]]
    rfl
  have hn : ¬ (readU (b.drop 3)).2.2 ≠ 0 := by simp [h1]
  rw [if_neg hn, h1]
  generalize (readU (b.drop 3)).1.toNat = u
  by_cases h6 : 16777216 < u
  · rw [if_pos h6, decide_eq_true (by omega)]; rfl
  rw [if_neg h6, decide_eq_false (by omega), h2]
  have hW0 : W (u : Int) = (u : Int) := W_id (by omega) (by omega)
  have hW1 : W (3 + (n : Int)) = ((3 + n : Nat) : Int) := (W_id (by omega) (by omega)).trans (by omega)
  have hW2 : W ((b.length : Int) - ((3 + n : Nat) : Int)) = (b.length : Int) - ((3 + n : Nat) : Int) := W_id (by omega) (by omega)
  have hW3 : W ((u : Int) + 4) = ((u + 4 : Nat) : Int) := (W_id (by omega) (by omega)).trans (by omega)
  have hW4 : W (((3 + n : Nat) : Int) + (u : Int)) = ((3 + n + u : Nat) : Int) := (W_id (by omega) (by omega)).trans (by omega)
  have hW5 : W (((3 + n + u : Nat) : Int) + 4) = ((3 + n + u + 4 : Nat) : Int) := (W_id (by omega) (by omega)).trans (by omega)
  simp only [hW0, hW1, hW2, hW3, hW4, hW5, Int.toNat_natCast, bne_self_eq_false, cond_false]
  unfold openAt
  by_cases h7 : b.length < 3 + n + u + 4
  · rw [decide_eq_true (by omega), if_pos h7]; rfl
  have ht : (b.take (3 + n + u)).length = 3 + n + u := by rw [List.length_take]; omega
  rw [decide_eq_false (by omega), if_neg h7, cond_false, ifp_pos (by omega), ifp_pos (by omega), crc_ref k (by omega) _ (by omega) (by omega), bind_e rfl, low_ref, bind_e rfl]
  rw [ifp_pos (by omega), ifp_pos (by omega), ifp_pos (by omega), show 3 + n + u + 4 - (3 + n + u) = 4 by omega]
  by_cases h8 : low (crc (b.take (3 + n + u))) = (b.drop (3 + n + u)).take 4
  · rw [if_pos h8, decide_eq_true h8, Bool.not_true, cond_false, ifp_pos (by omega), ifp_pos (by omega), ifp_pos (by omega), ifp_pos (by omega), show 3 + n + u - (3 + n) = u by omega]
    rw [ifp_pos (by rw [List.length_take, List.length_drop]; omega)]
  · rw [if_neg h8, decide_eq_false h8]; rfl
theorem same_eq (k : Nat) (a : List UInt8) : actorgridlaw1_same k a a = some true := by unfold actorgridlaw1_same; simp
end Md
end Go.Proofs.Ytbnjdkpangmneaa
