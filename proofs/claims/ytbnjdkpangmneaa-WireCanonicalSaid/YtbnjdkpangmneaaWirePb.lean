/-
  Layer 1 in plain words: numbers read. Conditions: sizes.
-/
import Derived.Test.YtbnjdkpangmneaaWirePa
namespace Go.Proofs.Ytbnjdkpangmneaa
set_option linter.unusedVariables false
set_option linter.unusedSimpArgs false
namespace Md
/-- The bits of a group, laid at its place. -/
def lay (v : UInt64) (c : UInt8) (i : Nat) : UInt64 := v ||| shl64 (c &&& 127).toUInt64 (7 * i)
/-- A number read from here on: i groups stand before, v is what they make. -/
def go : List UInt8 → Nat → UInt64 → UInt64 × Int × Int
  | [], _, _ => (0, 0, 2)
  | c :: r, i, v => if (i = 9 ∧ 1 < c.toNat) ∨ (0 < i ∧ c.toNat = 0) then (0, 0, 3) else if c.toNat < 128 then (lay v c i, ((i + 1 : Nat) : Int), 0) else go r (i + 1) (lay v c i)
def readU (b : List UInt8) : UInt64 × Int × Int := go b 0 0
theorem and_mod : ∀ n, n < 256 → (UInt8.ofNat n &&& 127) = UInt8.ofNat n % 128 := by decide +kernel
theorem and_mod' (c : UInt8) : c &&& 127 = c % 128 := by
  have h := and_mod c.toNat c.toNat_lt
  rwa [UInt8.ofNat_toNat] at h
theorem getD_drop (b : List UInt8) {i : Nat} (h : i < b.length) : b.drop i = b.getD i default :: b.drop (i + 1) := by
  rw [List.drop_eq_getElem_cons h]
  simp [List.getD, h]
theorem test_eq (i : Nat) (c : UInt8) : (((((i : Nat) : Int) == 9) && (decide ((c.toNat : Int) > 1))) || ((decide (((i : Nat) : Int) > 0)) && ((c.toNat : Int) == 0))) = decide ((i = 9 ∧ 1 < c.toNat) ∨ (0 < i ∧ c.toNat = 0)) := by
  rw [Bool.eq_iff_iff]
  simp
  omega
theorem uint_read (k : Nat) (b : List UInt8) (hb : b.length ≤ 4000000) : ∀ (n i : Nat) (v : UInt64), i ≤ b.length → b.length - i < n →
    ((wire_Uint_loop1 k b n v i).bind fun o1 => onS o1 (fun _ => some ((0 : UInt64), (0 : Int), (2 : Int))) (fun r1 => some r1)) = some (go (b.drop i) i v) := by
  intro n
  induction n with
  | zero => intro i v h1 h2; omega
  | succ n ih =>
    intro i v h1 h2
    rw [wire_Uint_loop1]
    by_cases h : i < b.length
    · rw [decide_eq_true (by omega), cond_true, ifp_pos h, test_eq, getD_drop b h]
      generalize b.getD i default = c
      unfold go
      by_cases h3 : (i = 9 ∧ 1 < c.toNat) ∨ (0 < i ∧ c.toNat = 0)
      · rw [decide_eq_true h3, cond_true, if_pos h3]
        rfl
      · rw [decide_eq_false h3, cond_false, if_neg h3, ifp_pos (by omega)]
        by_cases h4 : c.toNat < 128
        · rw [decide_eq_true (by omega), cond_true, if_pos h4, ifp_pos (by omega)]
          rfl
        · rw [decide_eq_false (by omega), cond_false, if_neg h4, ifp_pos (by omega)]
          exact ih (i + 1) _ (by omega) (by omega)
    · rw [decide_eq_false (by omega), cond_false, List.drop_of_length_le (by omega)]
      rfl
theorem uintR_eq (k : Nat) (b : List UInt8) (hb : b.length ≤ 4000000) (hk : b.length < k) : wire_Uint k b = some (readU b) := by
  unfold wire_Uint readU
  have := uint_read k b hb k 0 0 (by omega) (by omega)
  rwa [List.drop_zero] at this
theorem ref_read (k : Nat) (b : List UInt8) (hb : b.length ≤ 4000000) : ∀ (n i : Nat) (v : UInt64), i ≤ b.length → b.length - i < n → actorgridref1_ReadUint_loop1 k b n v i = some (go (b.drop i) i v) := by
  intro n
  induction n with
  | zero => intro i v h1 h2; omega
  | succ n ih =>
    intro i v h1 h2
    rw [actorgridref1_ReadUint_loop1]
    by_cases h : i < b.length
    · rw [decide_eq_false (by omega), cond_false, ifp_pos h, test_eq, getD_drop b h]
      generalize b.getD i default = c
      have hs : (UInt64.ofNat (7 * i)).toNat = 7 * i := by rw [UInt64.toNat_ofNat']; omega
      rw [hs, ← and_mod' c]
      unfold go
      by_cases h3 : (i = 9 ∧ 1 < c.toNat) ∨ (0 < i ∧ c.toNat = 0)
      · rw [decide_eq_true h3, cond_true, if_pos h3]
      · rw [decide_eq_false h3, cond_false, if_neg h3, ifp_pos (by omega)]
        by_cases h4 : c.toNat < 128
        · rw [decide_eq_true (by omega), cond_true, if_pos h4, ifp_pos (by omega)]
          rfl
        · rw [decide_eq_false (by omega), cond_false, if_neg h4, ifp_pos (by omega)]
          exact ih (i + 1) _ (by omega) (by omega)
    · rw [decide_eq_true (by omega), cond_true, List.drop_of_length_le (by omega)]
      rfl
theorem uintR_ref (k : Nat) (b : List UInt8) (hb : b.length ≤ 4000000) (hk : b.length < k) : actorgridref1_ReadUint k b = some (readU b) := by
  unfold actorgridref1_ReadUint readU
  have := ref_read k b hb k 0 0 (by omega) (by omega)
  rw [List.drop_zero] at this
  rw [this]
  rfl
/-- What go gives: an error without a value, or a value and how many bytes it took. -/
theorem go_ok : ∀ (b : List UInt8) (i : Nat) (v : UInt64), ((go b i v).2.2 ≠ 0 ∧ (go b i v).1 = 0 ∧ (go b i v).2.1 = 0 ∧ ((go b i v).2.2 = 2 ∨ (go b i v).2.2 = 3)) ∨ ((go b i v).2.2 = 0 ∧ ∃ n : Nat, (go b i v).2.1 = (n : Int) ∧ i < n ∧ n ≤ i + b.length)
  | [], i, v => .inl ⟨(show (2 : Int) ≠ 0 by decide), rfl, rfl, .inl rfl⟩
  | c :: r, i, v => by
    unfold go
    split
    · exact .inl ⟨by decide, rfl, rfl, .inr rfl⟩
    · split
      · exact .inr ⟨rfl, i + 1, rfl, by omega, by simp⟩
      · rcases go_ok r (i + 1) (lay v c i) with h | ⟨h1, n, h2, h3, h4⟩
        · exact .inl h
        · exact .inr ⟨h1, n, h2, by omega, by simp; omega⟩
theorem readU_ok (b : List UInt8) : ((readU b).2.2 ≠ 0 ∧ (readU b).1 = 0 ∧ (readU b).2.1 = 0 ∧ ((readU b).2.2 = 2 ∨ (readU b).2.2 = 3)) ∨ ((readU b).2.2 = 0 ∧ ∃ n : Nat, (readU b).2.1 = (n : Int) ∧ 0 < n ∧ n ≤ b.length) := by
  rcases go_ok b 0 0 with h | ⟨h1, n, h2, h3, h4⟩
  · exact .inl h
  · exact .inr ⟨h1, n, h2, h3, by omega⟩
/-- An unsigned number as a signed one. -/
def uz (u : UInt64) : Int := if u.toNat % 2 = 1 then -((u.toNat / 2 : Nat) : Int) - 1 else ((u.toNat / 2 : Nat) : Int)
theorem ixor_zero {a : Int} (h : 0 ≤ a) (h2 : a ≤ 9223372036854775807) : ixor a 0 = a := by
  unfold ixor
  rw [show BitVec.ofInt 64 0 = 0#64 from rfl, BitVec.xor_zero, BitVec.toNat_ofInt]
  exact (W_id (by omega) (by omega)).trans (by omega)
theorem ixor_ones {a : Int} (h : 0 ≤ a) (h2 : a ≤ 9223372036854775807) : ixor a (-1) = -a - 1 := by
  unfold ixor
  rw [show BitVec.ofInt 64 (-1) = BitVec.allOnes 64 from rfl, BitVec.xor_allOnes, BitVec.toNat_not, BitVec.toNat_ofInt]
  unfold W
  simp only
  split <;> omega
theorem uz_wire (u : UInt64) : ixor (W ((shr64 u 1).toNat : Int)) (W (-(W ((u &&& (1 : UInt64)).toNat : Int)))) = uz u := by
  have hu := u.toNat_lt
  have h1 : (shr64 u 1).toNat = u.toNat / 2 := by rw [shr64_nat]; rfl
  have h2 : (u &&& (1 : UInt64)).toNat = u.toNat % 2 := by
    rw [UInt64.toNat_and, show (1 : UInt64).toNat = 1 from rfl, Nat.and_one_is_mod]
  rw [h1, h2, W_id (n := ((u.toNat / 2 : Nat) : Int)) (by omega) (by omega), W_id (n := ((u.toNat % 2 : Nat) : Int)) (by omega) (by omega)]
  unfold uz
  split
  · rename_i h
    rw [h, show W (-((1 : Nat) : Int)) = -1 from rfl, ixor_ones (by omega) (by omega)]
  · rename_i h
    rw [show u.toNat % 2 = 0 by omega, show W (-((0 : Nat) : Int)) = 0 from rfl, ixor_zero (by omega) (by omega)]
theorem unzigzag_eq (k : Nat) (u : UInt64) : actorgridref1_Unzigzag k u = some (uz u) := by
  have hu := u.toNat_lt
  unfold actorgridref1_Unzigzag uz
  have h1 : (u % 2).toNat = u.toNat % 2 := by rw [UInt64.toNat_mod]; rfl
  have h2 : (u / 2).toNat = u.toNat / 2 := by rw [UInt64.toNat_div]; rfl
  rw [h1, h2]
  have hW : W ((u.toNat / 2 : Nat) : Int) = ((u.toNat / 2 : Nat) : Int) := W_id (by omega) (by omega)
  rw [hW]
  by_cases h : u.toNat % 2 = 1
  · rw [if_pos h, h]
    show some (W ((W (-((u.toNat / 2 : Nat) : Int))) - 1)) = _
    rw [W_id (n := -((u.toNat / 2 : Nat) : Int)) (by omega) (by omega), W_id (by omega) (by omega)]
  · rw [if_neg h, show u.toNat % 2 = 0 by omega]
    rfl
def readI (b : List UInt8) : Int × Int × Int := (uz (readU b).1, (readU b).2.1, (readU b).2.2)
theorem intR_eq (k : Nat) (b : List UInt8) (hb : b.length ≤ 4000000) (hk : b.length < k) : wire_Int k b = some (readI b) := by
  unfold wire_Int readI
  rw [uintR_eq k b hb hk, bind_e rfl, uz_wire]
theorem intR_ref (k : Nat) (b : List UInt8) (hb : b.length ≤ 4000000) (hk : b.length < k) : actorgridref1_ReadInt k b = some (readI b) := by
  unfold actorgridref1_ReadInt readI
  rw [uintR_ref k b hb hk, bind_e rfl, unzigzag_eq]
  rcases readU_ok b with ⟨h1, h2, h3, _⟩ | ⟨h1, _⟩
  · rw [h2, h3, show ((readU b).2.2 != 0) = true from by simp [h1]]
    rfl
  · rw [h1]
    rfl
set_option maxRecDepth 100000 in
theorem awake1 : actorgridlaw1_awake 3000 = some true := by decide +kernel
end Md
end Go.Proofs.Ytbnjdkpangmneaa
