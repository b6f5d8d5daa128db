/-
  Law 1 in plain words: WireSums. Conditions: none.
-/
import Derived.Test.YtbnjdkpangmneaaWirePd
import Derived.Test.YtbnjdkpangmneaaWlSumsM
namespace Go.Proofs.Ytbnjdkpangmneaa
set_option linter.unusedVariables false
set_option linter.unusedSimpArgs false
namespace Md
theorem shr1_bv (c : UInt32) : (shr32 c 1).toBitVec = c.toBitVec >>> 1 := by
  apply BitVec.eq_of_toNat_eq
  show (shr32 c 1).toNat = _
  unfold shr32
  rw [UInt32.toNat_ofNat', BitVec.toNat_ushiftRight, Nat.shiftRight_eq_div_pow]
  have h := c.toNat_lt
  show c.toNat / 2 % 2 ^ 32 = c.toNat / 2
  omega
theorem shr1_xor (c d : UInt32) : shr32 (c ^^^ d) 1 = shr32 c 1 ^^^ shr32 d 1 := by
  apply UInt32.toBitVec_inj.1
  rw [UInt32.toBitVec_xor, shr1_bv, shr1_bv, shr1_bv, UInt32.toBitVec_xor, BitVec.ushiftRight_xor_distrib]
theorem par_xor (c d : UInt32) : (c ^^^ d).toNat % 2 = (c.toNat % 2 + d.toNat % 2) % 2 := by
  rw [UInt32.toNat_xor]
  have h := Nat.testBit_xor c.toNat d.toNat 0
  simp only [Nat.testBit_zero] at h
  generalize c.toNat ^^^ d.toNat = x at *
  have hx := Nat.mod_two_eq_zero_or_one x
  rcases Nat.mod_two_eq_zero_or_one c.toNat with hc | hc <;> rcases Nat.mod_two_eq_zero_or_one d.toNat with hd | hd <;> rw [hc, hd] at h ⊢ <;> rcases hx with hx | hx <;> rw [hx] at h ⊢ <;> first | rfl | (revert h; decide)
theorem x_ass (a b c : UInt32) : a ^^^ b ^^^ c = a ^^^ (b ^^^ c) := UInt32.xor_assoc ..
theorem x_com (a b : UInt32) : a ^^^ b = b ^^^ a := UInt32.xor_comm ..
theorem x_left (a b c : UInt32) : a ^^^ (b ^^^ c) = b ^^^ (a ^^^ c) := by rw [← x_ass, x_com a b, x_ass]
theorem x_self (a : UInt32) : a ^^^ a = 0 := UInt32.xor_self
theorem x_zero (a : UInt32) : a ^^^ 0 = a := UInt32.xor_zero
theorem crc1_xor (c d : UInt32) : crc1 (c ^^^ d) = crc1 c ^^^ crc1 d := by
  have hp := par_xor c d
  rcases Nat.mod_two_eq_zero_or_one c.toNat with hc | hc <;> rcases Nat.mod_two_eq_zero_or_one d.toNat with hd | hd <;> rw [hc, hd] at hp
  · rw [crc1_zero hc, crc1_zero hd, crc1_zero hp, shr1_xor]
  · rw [crc1_zero hc, crc1_one hd, crc1_one hp, shr1_xor, x_ass]
  · rw [crc1_one hc, crc1_zero hd, crc1_one hp, shr1_xor, x_ass, x_ass, x_com (shr32 d 1)]
  · rw [crc1_one hc, crc1_one hd, crc1_zero hp, shr1_xor, x_ass, x_left 3988292384, x_self, x_zero]
theorem crcN_xor : ∀ (n : Nat) (c d : UInt32), crcN n (c ^^^ d) = crcN n c ^^^ crcN n d
  | 0, _, _ => rfl
  | n + 1, c, d => by
    show crcN n (crc1 (c ^^^ d)) = crcN n (crc1 c) ^^^ crcN n (crc1 d)
    rw [crc1_xor, crcN_xor n]
def xorL (a b : List UInt8) : List UInt8 := List.zipWith (· ^^^ ·) a b
theorem crcGo_xor : ∀ (a b : List UInt8) (c d : UInt32), a.length = b.length → crcGo (xorL a b) (c ^^^ d) = crcGo a c ^^^ crcGo b d
  | [], [], c, d, _ => rfl
  | x :: a, y :: b, c, d, h => by
    show crcGo (xorL a b) (crcN 8 ((c ^^^ d) ^^^ (x ^^^ y).toUInt32)) = crcGo a (crcN 8 (c ^^^ x.toUInt32)) ^^^ crcGo b (crcN 8 (d ^^^ y.toUInt32))
    rw [← crcGo_xor a b _ _ (by simpa using h), ← crcN_xor]
    congr 2
    rw [UInt8.toUInt32_xor, x_ass, x_ass, x_left d]
  | [], _ :: _, _, _, h => by simp at h
  | _ :: _, [], _, _, h => by simp at h
theorem xorL_zero (a : List UInt8) : xorL a (List.replicate a.length 0) = a := by
  unfold xorL
  apply List.ext_getElem
  · simp
  · intro i h1 h2
    simp
theorem xorL_len (a b : List UInt8) (h : a.length = b.length) : (xorL a b).length = a.length := by simp [xorL, h]
theorem not_not (a b : UInt32) : ~~~a ^^^ ~~~b = a ^^^ b := by
  apply UInt32.toBitVec_inj.1
  show ~~~a.toBitVec ^^^ ~~~b.toBitVec = a.toBitVec ^^^ b.toBitVec
  ext i hi
  simp [hi]
theorem x_not (a b : UInt32) : a ^^^ ~~~b = ~~~(a ^^^ b) := by
  apply UInt32.toBitVec_inj.1
  show a.toBitVec ^^^ ~~~b.toBitVec = ~~~(a.toBitVec ^^^ b.toBitVec)
  ext i hi
  simp [hi]
theorem crc_sum (a b : List UInt8) (h : a.length = b.length) : crc (xorL a b) = crc a ^^^ crc b ^^^ crc (List.replicate a.length 0) := by
  unfold crc
  rw [not_not, x_not]
  congr 1
  have h1 := crcGo_xor (xorL a b) (List.replicate a.length 0) (4294967295 ^^^ 4294967295) 4294967295 (by rw [xorL_len a b h]; simp)
  rw [crcGo_xor a b _ _ h] at h1
  rw [← h1, ← xorL_len a b h, xorL_zero]
  rfl
theorem sums_loop (k : Nat) (a b : List UInt8) (hb : a.length ≤ b.length) (hs : a.length ≤ 1000) : ∀ (n i : Nat), i ≤ a.length → a.length - i < n →
    actorgridlaw1_WireSums_loop1 k a b n i ((xorL a (b.take a.length)).take i ++ (List.replicate a.length (0 : UInt8)).drop i) = some (xorL a (b.take a.length)) := by
  have hX : (xorL a (b.take a.length)).length = a.length := by simp [xorL]; omega
  intro n
  induction n with
  | zero => intro i h1 h2; omega
  | succ n ih =>
    intro i h1 h2
    rw [actorgridlaw1_WireSums_loop1]
    by_cases h : i < a.length
    · rw [decide_eq_true (by omega), cond_true, ifp_pos h, ifp_pos (by omega), ifp_pos (by simp [hX]; omega), ifp_pos (by omega)]
      have e : ((xorL a (b.take a.length)).take i ++ (List.replicate a.length (0 : UInt8)).drop i).set i ((a.getD i default) ^^^ (b.getD i default)) = (xorL a (b.take a.length)).take (i + 1) ++ (List.replicate a.length (0 : UInt8)).drop (i + 1) := by
        have hlt : i < (xorL a (b.take a.length)).length := by omega
        rw [List.set_append_right _ _ (by simp; omega), List.take_succ_eq_append_getElem hlt, List.append_assoc]
        congr 1
        rw [show i - ((xorL a (b.take a.length)).take i).length = 0 by simp; omega]
        rw [List.drop_eq_getElem_cons (by simpa using h), List.set_cons_zero]
        have hib : i < b.length := by omega
        simp [xorL, List.getD, h, hib]
      rw [e]
      exact ih (i + 1) (by omega) (by omega)
    · rw [decide_eq_false (by omega), cond_false, show i = a.length by omega, List.take_of_length_le (by omega), List.drop_of_length_le (by simp), List.append_nil]
theorem WireSums_law (a b : List UInt8) : ∃ k, actorgridlaw1_WireSums k a b = some true := by
  refine ⟨3000, ?_⟩
  unfold actorgridlaw1_WireSums
  rw [awake1, bind_e rfl]
  by_cases h1 : ((a.length : Nat) : Int) > 500
  · rw [decide_eq_true h1]; rfl
  by_cases h2 : ((b.length : Nat) : Int) < ((a.length : Nat) : Int)
  · rw [decide_eq_true h2, Bool.or_true]; rfl
  by_cases h3 : ((b.length : Nat) : Int) > 500
  · rw [decide_eq_true h3, Bool.or_true]; rfl
  rw [decide_eq_false h1, decide_eq_false h2, decide_eq_false h3]
  simp only [Bool.or_self, Bool.not_true, cond_false]
  have hX : (xorL a (b.take a.length)).length = a.length := by simp [xorL]; omega
  have ht : (b.take a.length).length = a.length := by simp; omega
  have hl := sums_loop 3000 a b (by omega) (by omega) 3000 0 (by omega) (by omega)
  rw [List.take_zero, List.drop_zero, List.nil_append] at hl
  rw [ifp_pos (by omega), hl, bind_e rfl, crc_eq _ (by omega) _ (by omega) (by omega), bind_e rfl, crc_eq _ (by omega) a (by omega) (by omega), bind_e rfl, ifp_pos (by omega), crc_eq _ (by omega) _ (by omega) (by omega), bind_e rfl, ifp_pos (by omega), crc_eq _ (by omega) _ (by simp; omega) (by simp; omega), bind_e rfl]
  rw [crc_sum a _ ht.symm]
  simp
end Md
end Go.Proofs.Ytbnjdkpangmneaa
