/-
  Layer 1 in plain words: numbers, their encoding and decoding. Conditions: sizes.
-/
import Derived.Test.YtbnjdkpangmneaaWireLM
namespace Go.Proofs.Ytbnjdkpangmneaa
set_option linter.unusedVariables false
set_option linter.unusedSimpArgs false
namespace Md
theorem shr64_nat (a : UInt64) (n : Nat) : (shr64 a n).toNat = a.toNat / 2 ^ min n 64 := by
  unfold shr64
  rw [UInt64.toNat_ofNat']
  have h1 := a.toNat_lt
  have h2 := Nat.div_le_self a.toNat (2 ^ min n 64)
  exact Nat.mod_eq_of_lt (by omega)
theorem shl64_nat (a : UInt64) (n : Nat) : (shl64 a n).toNat = a.toNat * 2 ^ min n 64 % 2 ^ 64 := by
  unfold shl64
  rw [UInt64.toNat_ofNat']
/-- A number in groups of seven bits, the lowest first. -/
def enc (v : Nat) : List UInt8 := if h : v < 128 then [.ofNat v] else .ofNat (v % 128 + 128) :: enc (v / 128)
  termination_by v
  decreasing_by omega
theorem enc_lt {v : Nat} (h : v < 128) : enc v = [.ofNat v] := by rw [enc, dif_pos h]
theorem enc_ge {v : Nat} (h : 128 ≤ v) : enc v = .ofNat (v % 128 + 128) :: enc (v / 128) := by rw [enc, dif_neg (by omega)]
theorem b_or : ∀ n, n < 256 → (UInt8.ofNat n ||| 128) = UInt8.ofNat (n % 128 + 128) := by decide +kernel
theorem byte_of (v : UInt64) : v.toUInt8 = UInt8.ofNat (v.toNat % 256) := by
  apply UInt8.toNat_inj.1
  rw [UInt64.toNat_toUInt8, UInt8.toNat_ofNat']
  omega
theorem byte_lt (v : UInt64) (h : v.toNat < 128) : v.toUInt8 = UInt8.ofNat v.toNat := by rw [byte_of, Nat.mod_eq_of_lt (by omega)]
theorem byte_or (v : UInt64) : (v.toUInt8 ||| 128) = UInt8.ofNat (v.toNat % 128 + 128) := by
  rw [byte_of, b_or _ (by omega), Nat.mod_mod_of_dvd _ (by decide)]
theorem byte_add (v : UInt64) : ((v % 128).toUInt8 + 128) = UInt8.ofNat (v.toNat % 128 + 128) := by
  apply UInt8.toNat_inj.1
  rw [UInt8.toNat_add, UInt64.toNat_toUInt8, UInt64.toNat_mod, UInt8.toNat_ofNat', show (128 : UInt64).toNat = 128 from rfl, show (128 : UInt8).toNat = 128 from rfl]
  omega
theorem put_loop (k : Nat) : ∀ (n : Nat) (v : UInt64) (acc : List UInt8), v.toNat < 128 ^ (n + 1) → acc.length + n ≤ 3900000 →
    ∃ r, wire_putUint_loop1 k (n + 1) v acc = some r ∧ r.2 ++ [r.1.toUInt8] = acc ++ enc v.toNat ∧ r.2.length ≤ acc.length + n := by
  intro n
  induction n with
  | zero =>
    intro v acc h1 h2
    rw [wire_putUint_loop1, decide_eq_false (by omega), cond_false]
    exact ⟨_, rfl, by rw [enc_lt (by omega), byte_lt v (by omega)], by simp⟩
  | succ n ih =>
    intro v acc h1 h2
    rw [wire_putUint_loop1]
    by_cases h : 128 ≤ v.toNat
    · rw [decide_eq_true (by omega), cond_true, ifp_pos (by simp; omega)]
      have hs : (shr64 v 7).toNat = v.toNat / 128 := by rw [shr64_nat]; rfl
      have hp : 128 ^ (n + 1 + 1) = 128 ^ (n + 1) * 128 := Nat.pow_succ ..
      obtain ⟨r, e1, e2, e3⟩ := ih (shr64 v 7) (acc ++ [v.toUInt8 ||| 128]) (by rw [hs]; omega) (by simp; omega)
      refine ⟨r, e1, ?_, by simp at e3; omega⟩
      rw [e2, hs, enc_ge h, byte_or]
      simp
    · rw [decide_eq_false (by omega), cond_false]
      exact ⟨_, rfl, by rw [enc_lt (by omega), byte_lt v (by omega)], by simp⟩
theorem pow_big {k : Nat} (hk : 10 ≤ k) (v : UInt64) : v.toNat < 128 ^ k := by
  have h1 := v.toNat_lt
  have h2 : 128 ^ 10 ≤ 128 ^ k := Nat.pow_le_pow_right (by decide) hk
  have h3 : (2 : Nat) ^ 64 ≤ 128 ^ 10 := by decide
  omega
theorem put_eq (k : Nat) (hk : 10 ≤ k) (hk2 : k ≤ 100000) (a : List UInt8) (v : UInt64) (ha : a.length ≤ 3500000) : wire_putUint k a v = some (a ++ enc v.toNat) := by
  unfold wire_putUint
  obtain ⟨n, rfl⟩ : ∃ n, k = n + 1 := ⟨k - 1, by omega⟩
  obtain ⟨r, e1, e2, e3⟩ := put_loop (n + 1) n v a (pow_big hk v) (by omega)
  rw [e1, bind_e rfl, ifp_pos (by simp; omega), e2]
theorem uint_loop (k : Nat) : ∀ (n : Nat) (v : UInt64) (acc : List UInt8), v.toNat < 128 ^ (n + 1) → acc.length + n ≤ 3900000 →
    ∃ r, actorgridref1_Uint_loop1 k (n + 1) v acc = some r ∧ r.2 ++ [r.1.toUInt8] = acc ++ enc v.toNat ∧ r.2.length ≤ acc.length + n := by
  intro n
  induction n with
  | zero =>
    intro v acc h1 h2
    rw [actorgridref1_Uint_loop1, decide_eq_false (by omega), cond_false]
    exact ⟨_, rfl, by rw [enc_lt (by omega), byte_lt v (by omega)], by simp⟩
  | succ n ih =>
    intro v acc h1 h2
    rw [actorgridref1_Uint_loop1]
    by_cases h : 128 ≤ v.toNat
    · rw [decide_eq_true (by omega), cond_true, ifp_pos (by simp; omega)]
      have hs : (v / 128).toNat = v.toNat / 128 := by rw [UInt64.toNat_div]; rfl
      have hp : 128 ^ (n + 1 + 1) = 128 ^ (n + 1) * 128 := Nat.pow_succ ..
      obtain ⟨r, e1, e2, e3⟩ := ih (v / 128) (acc ++ [(v % 128).toUInt8 + 128]) (by rw [hs]; omega) (by simp; omega)
      refine ⟨r, e1, ?_, by simp at e3; omega⟩
      rw [e2, hs, enc_ge h, byte_add]
      simp
    · rw [decide_eq_false (by omega), cond_false]
      exact ⟨_, rfl, by rw [enc_lt (by omega), byte_lt v (by omega)], by simp⟩
theorem uint_eq (k : Nat) (hk : 10 ≤ k) (hk2 : k ≤ 100000) (v : UInt64) : actorgridref1_Uint k v = some (enc v.toNat) := by
  unfold actorgridref1_Uint
  obtain ⟨n, rfl⟩ : ∃ n, k = n + 1 := ⟨k - 1, by omega⟩
  obtain ⟨r, e1, e2, e3⟩ := uint_loop (n + 1) n v [] (pow_big hk v) (by simp; omega)
  rw [e1, bind_e rfl, ifp_pos (by simp at *; omega), e2]
  rfl
theorem enc_len : ∀ (n v : Nat), v < 128 ^ (n + 1) → (enc v).length ≤ n + 1 := by
  intro n
  induction n with
  | zero => intro v h; rw [enc_lt (by omega)]; simp
  | succ n ih =>
    intro v h
    by_cases h2 : v < 128
    · rw [enc_lt h2]; simp
    · rw [enc_ge (by omega)]
      have hp : 128 ^ (n + 1 + 1) = 128 ^ (n + 1) * 128 := Nat.pow_succ ..
      have := ih (v / 128) (by omega)
      simp
      omega
theorem enc_len10 (v : UInt64) : (enc v.toNat).length ≤ 10 := enc_len 9 _ (pow_big (Nat.le_refl _) v)
theorem enc_pos (v : Nat) : 0 < (enc v).length := by
  by_cases h : v < 128
  · rw [enc_lt h]; simp
  · rw [enc_ge (by omega)]; simp
theorem extend_eq (k : Nat) (a : List UInt8) (n : Nat) (ha : a.length ≤ 3500000) (hn : n ≤ 10000000) : wire_extend k a (n : Int) = some a := by
  unfold wire_extend
  have hW : W (((a.length : Nat) : Int) + (n : Int)) = ((a.length + n : Nat) : Int) := (W_id (by omega) (by omega)).trans (by omega)
  rw [hW, ifp_pos (by omega), ifp_pos (by omega), ifp_pos (by omega)]
  simp
theorem appendUint_eq (k : Nat) (hk : 10 ≤ k) (hk2 : k ≤ 100000) (a : List UInt8) (v : UInt64) (ha : a.length ≤ 3000000) : wire_AppendUint k a v = some (a ++ enc v.toNat) := by
  unfold wire_AppendUint
  rw [show (10 : Int) = ((10 : Nat) : Int) from rfl, extend_eq k a 10 (by omega) (by omega), bind_e rfl, put_eq k hk hk2 a v (by omega), bind_e rfl]
/-- A signed number as an unsigned one. -/
def zz (v : Int) : UInt64 := if v < 0 then .ofNat (-2 * v - 1).toNat else .ofNat (2 * v).toNat
theorem ofInt_nat (n : Int) : (UInt64.ofInt n).toNat = (n % 18446744073709551616).toNat := by
  show (UInt64.ofNat (n % 2 ^ 64).toNat).toNat = _
  rw [UInt64.toNat_ofNat']
  omega
theorem ishr_neg {v : Int} (h : v < 0) (h2 : -9223372036854775808 ≤ v) : ishr v 63 = -1 := by
  unfold ishr
  rw [show min 63 64 = 63 from rfl, Int.fdiv_eq_ediv_of_nonneg _ (by decide)]
  omega
theorem ishr_pos {v : Int} (h : 0 ≤ v) (h2 : v ≤ 9223372036854775807) : ishr v 63 = 0 := by
  unfold ishr
  rw [show min 63 64 = 63 from rfl, Int.fdiv_eq_ediv_of_nonneg _ (by decide)]
  omega
theorem zz_eq (v : Int) (h : I64 v) : (shl64 (UInt64.ofInt v) 1 ^^^ UInt64.ofInt (ishr v 63)) = zz v := by
  obtain ⟨h1, h2⟩ := h
  unfold zz
  split
  · rename_i hv
    rw [ishr_neg hv h1]
    have hc : ∀ x : UInt64, x ^^^ UInt64.ofInt (-1) = ~~~x := fun x => by
      apply UInt64.toBitVec_inj.1
      show x.toBitVec ^^^ BitVec.allOnes 64 = ~~~x.toBitVec
      rw [BitVec.xor_allOnes]
    rw [hc]
    apply UInt64.toNat_inj.1
    rw [UInt64.toNat_not, shl64_nat, ofInt_nat, UInt64.toNat_ofNat', show 2 ^ min 1 64 = 2 from rfl, show UInt64.size = 18446744073709551616 from rfl]
    omega
  · rename_i hv
    rw [ishr_pos (by omega) h2]
    have hc : ∀ x : UInt64, x ^^^ UInt64.ofInt 0 = x := fun x => by
      apply UInt64.toBitVec_inj.1
      show x.toBitVec ^^^ 0#64 = x.toBitVec
      simp
    rw [hc]
    apply UInt64.toNat_inj.1
    rw [shl64_nat, ofInt_nat, UInt64.toNat_ofNat', show 2 ^ min 1 64 = 2 from rfl]
    omega
theorem putInt_eq (k : Nat) (hk : 10 ≤ k) (hk2 : k ≤ 100000) (a : List UInt8) (v : Int) (hv : I64 v) (ha : a.length ≤ 3500000) : wire_putInt k a v = some (a ++ enc (zz v).toNat) := by
  unfold wire_putInt
  rw [zz_eq v hv, put_eq k hk hk2 a _ ha, bind_e rfl]
theorem appendInt_eq (k : Nat) (hk : 10 ≤ k) (hk2 : k ≤ 100000) (a : List UInt8) (v : Int) (hv : I64 v) (ha : a.length ≤ 3000000) : wire_AppendInt k a v = some (a ++ enc (zz v).toNat) := by
  unfold wire_AppendInt
  rw [show (10 : Int) = ((10 : Nat) : Int) from rfl, extend_eq k a 10 (by omega) (by omega), bind_e rfl, putInt_eq k hk hk2 a v hv (by omega), bind_e rfl]
theorem zigzag_eq (k : Nat) (v : Int) (hv : I64 v) : actorgridref1_Zigzag k v = some (zz v) := by
  obtain ⟨h1, h2⟩ := hv
  unfold actorgridref1_Zigzag zz
  by_cases h : v < 0
  · rw [decide_eq_true h, cond_true, if_pos h, W_id (n := v + 1) (by omega) (by omega), W_id (by omega) (by omega)]
    congr 1
    apply UInt64.toNat_inj.1
    rw [UInt64.toNat_add, UInt64.toNat_mul, ofInt_nat, UInt64.toNat_ofNat', show (2 : UInt64).toNat = 2 from rfl, show (1 : UInt64).toNat = 1 from rfl]
    omega
  · rw [decide_eq_false h, cond_false, if_neg h]
    congr 1
    apply UInt64.toNat_inj.1
    rw [UInt64.toNat_mul, ofInt_nat, UInt64.toNat_ofNat', show (2 : UInt64).toNat = 2 from rfl]
    omega
theorem int_ref (k : Nat) (hk : 10 ≤ k) (hk2 : k ≤ 100000) (v : Int) (hv : I64 v) : actorgridref1_Int k v = some (enc (zz v).toNat) := by
  unfold actorgridref1_Int
  rw [zigzag_eq k v hv, bind_e rfl, uint_eq k hk hk2, bind_e rfl]
theorem join_eq (k : Nat) (a b : List UInt8) (h : a.length + b.length ≤ 4000000) : actorgridlaw1_join k a b = some (a ++ b) := by
  unfold actorgridlaw1_join
  rw [ifp_pos (by simp; omega), ifp_pos (by simp; omega)]
  rfl
end Md
end Go.Proofs.Ytbnjdkpangmneaa
