/-
  Parts of what was proved of other layers, for this one (from the same texts). Conditions: as each says.
-/
import Derived.Test.YtkcfkcgclljncaaWireJM
namespace Go.Proofs.Ytkcfkcgclljncaa
set_option linter.unusedVariables false
set_option linter.unusedSimpArgs false
namespace Md
theorem shr64_nat (a : UInt64) (n : Nat) : (shr64 a n).toNat = a.toNat / 2 ^ min n 64 := by
  unfold shr64
  rw [UInt64.toNat_ofNat']
  have h1 := a.toNat_lt
  have h2 := Nat.div_le_self a.toNat (2 ^ min n 64)
  exact Nat.mod_eq_of_lt (by omega)
theorem shl64_nat (a : UInt64) (n : Nat) : (shl64 a n).toNat = a.toNat * 2 ^ min n 64 % 2 ^ 64 := by
  unfold shl64
  rw [UInt64.toNat_ofNat']
/-- A number in groups of seven bits, the lowest first. -/
def enc (v : Nat) : List UInt8 := if h : v < 128 then [.ofNat v] else .ofNat (v % 128 + 128) :: enc (v / 128)
  termination_by v
  decreasing_by omega
theorem enc_lt {v : Nat} (h : v < 128) : enc v = [.ofNat v] := by rw [enc, dif_pos h]
theorem enc_ge {v : Nat} (h : 128 ≤ v) : enc v = .ofNat (v % 128 + 128) :: enc (v / 128) := by rw [enc, dif_neg (by omega)]
theorem b_or : ∀ n, n < 256 → (UInt8.ofNat n ||| 128) = UInt8.ofNat (n % 128 + 128) := by decide +kernel
theorem byte_of (v : UInt64) : v.toUInt8 = UInt8.ofNat (v.toNat % 256) := by
  apply UInt8.toNat_inj.1
  rw [UInt64.toNat_toUInt8, UInt8.toNat_ofNat']
  omega
theorem byte_lt (v : UInt64) (h : v.toNat < 128) : v.toUInt8 = UInt8.ofNat v.toNat := by rw [byte_of, Nat.mod_eq_of_lt (by omega)]
theorem byte_or (v : UInt64) : (v.toUInt8 ||| 128) = UInt8.ofNat (v.toNat % 128 + 128) := by
  rw [byte_of, b_or _ (by omega), Nat.mod_mod_of_dvd _ (by decide)]
theorem byte_add (v : UInt64) : ((v % 128).toUInt8 + 128) = UInt8.ofNat (v.toNat % 128 + 128) := by
  apply UInt8.toNat_inj.1
  rw [UInt8.toNat_add, UInt64.toNat_toUInt8, UInt64.toNat_mod, UInt8.toNat_ofNat', show (128 : UInt64).toNat = 128 from rfl, show (128 : UInt8).toNat = 128 from rfl]
  omega
theorem put_loop (k : Nat) : ∀ (n : Nat) (v : UInt64) (acc : List UInt8), v.toNat < 128 ^ (n + 1) → acc.length + n ≤ 3900000 →
    ∃ r, wire_putUint_loop1 k (n + 1) v acc = some r ∧ r.2 ++ [r.1.toUInt8] = acc ++ enc v.toNat ∧ r.2.length ≤ acc.length + n := by
  intro n
  induction n with
  | zero =>
    intro v acc h1 h2
    rw [wire_putUint_loop1, decide_eq_false (by omega), cond_false]
    exact ⟨_, rfl, by rw [enc_lt (by omega), byte_lt v (by omega)], by simp⟩
  | succ n ih =>
    intro v acc h1 h2
    rw [wire_putUint_loop1]
    by_cases h : 128 ≤ v.toNat
    · rw [decide_eq_true (by omega), cond_true, ifp_pos (by simp; omega)]
      have hs : (shr64 v 7).toNat = v.toNat / 128 := by rw [shr64_nat]; rfl
      have hp : 128 ^ (n + 1 + 1) = 128 ^ (n + 1) * 128 := Nat.pow_succ ..
      obtain ⟨r, e1, e2, e3⟩ := ih (shr64 v 7) (acc ++ [v.toUInt8 ||| 128]) (by rw [hs]; omega) (by simp; omega)
      refine ⟨r, e1, ?_, by simp at e3; omega⟩
      rw [e2, hs, enc_ge h, byte_or]
      simp
    · rw [decide_eq_false (by omega), cond_false]
      exact ⟨_, rfl, by rw [enc_lt (by omega), byte_lt v (by omega)], by simp⟩
theorem pow_big {k : Nat} (hk : 10 ≤ k) (v : UInt64) : v.toNat < 128 ^ k := by
  have h1 := v.toNat_lt
  have h2 : 128 ^ 10 ≤ 128 ^ k := Nat.pow_le_pow_right (by decide) hk
  have h3 : (2 : Nat) ^ 64 ≤ 128 ^ 10 := by decide
  omega
theorem put_eq (k : Nat) (hk : 10 ≤ k) (hk2 : k ≤ 100000) (a : List UInt8) (v : UInt64) (ha : a.length ≤ 3500000) : wire_putUint k a v = some (a ++ enc v.toNat) := by
  unfold wire_putUint
  obtain ⟨n, rfl⟩ : ∃ n, k = n + 1 := ⟨k - 1, by omega⟩
  obtain ⟨r, e1, e2, e3⟩ := put_loop (n + 1) n v a (pow_big hk v) (by omega)
  rw [e1, bind_e rfl, ifp_pos (by simp; omega), e2]
theorem uint_loop (k : Nat) : ∀ (n : Nat) (v : UInt64) (acc : List UInt8), v.toNat < 128 ^ (n + 1) → acc.length + n ≤ 3900000 →
    ∃ r, actorgridref1_Uint_loop1 k (n + 1) v acc = some r ∧ r.2 ++ [r.1.toUInt8] = acc ++ enc v.toNat ∧ r.2.length ≤ acc.length + n := by
  intro n
  induction n with
  | zero =>
    intro v acc h1 h2
    rw [actorgridref1_Uint_loop1, decide_eq_false (by omega), cond_false]
    exact ⟨_, rfl, by rw [enc_lt (by omega), byte_lt v (by omega)], by simp⟩
  | succ n ih =>
    intro v acc h1 h2
    rw [actorgridref1_Uint_loop1]
    by_cases h : 128 ≤ v.toNat
    · rw [decide_eq_true (by omega), cond_true, ifp_pos (by simp; omega)]
      have hs : (v / 128).toNat = v.toNat / 128 := by rw [UInt64.toNat_div]; rfl
      have hp : 128 ^ (n + 1 + 1) = 128 ^ (n + 1) * 128 := Nat.pow_succ ..
      obtain ⟨r, e1, e2, e3⟩ := ih (v / 128) (acc ++ [(v % 128).toUInt8 + 128]) (by rw [hs]; omega) (by simp; omega)
      refine ⟨r, e1, ?_, by simp at e3; omega⟩
      rw [e2, hs, enc_ge h, byte_add]
      simp
    · rw [decide_eq_false (by omega), cond_false]
      exact ⟨_, rfl, by rw [enc_lt (by omega), byte_lt v (by omega)], by simp⟩
theorem uint_eq (k : Nat) (hk : 10 ≤ k) (hk2 : k ≤ 100000) (v : UInt64) : actorgridref1_Uint k v = some (enc v.toNat) := by
  unfold actorgridref1_Uint
  obtain ⟨n, rfl⟩ : ∃ n, k = n + 1 := ⟨k - 1, by omega⟩
  obtain ⟨r, e1, e2, e3⟩ := uint_loop (n + 1) n v [] (pow_big hk v) (by simp; omega)
  rw [e1, bind_e rfl, ifp_pos (by simp at *; omega), e2]
  rfl
theorem enc_len : ∀ (n v : Nat), v < 128 ^ (n + 1) → (enc v).length ≤ n + 1 := by
  intro n
  induction n with
  | zero => intro v h; rw [enc_lt (by omega)]; simp
  | succ n ih =>
    intro v h
    by_cases h2 : v < 128
    · rw [enc_lt h2]; simp
    · rw [enc_ge (by omega)]
      have hp : 128 ^ (n + 1 + 1) = 128 ^ (n + 1) * 128 := Nat.pow_succ ..
      have := ih (v / 128) (by omega)
      simp
      omega
theorem extend_eq (k : Nat) (a : List UInt8) (n : Nat) (ha : a.length ≤ 3500000) (hn : n ≤ 10000000) : wire_extend k a (n : Int) = some a := by
  unfold wire_extend
  have hW : W (((a.length : Nat) : Int) + (n : Int)) = ((a.length + n : Nat) : Int) := (W_id (by omega) (by omega)).trans (by omega)
  rw [hW, ifp_pos (by omega), ifp_pos (by omega), ifp_pos (by omega)]
  simp
theorem appendUint_eq (k : Nat) (hk : 10 ≤ k) (hk2 : k ≤ 100000) (a : List UInt8) (v : UInt64) (ha : a.length ≤ 3000000) : wire_AppendUint k a v = some (a ++ enc v.toNat) := by
  unfold wire_AppendUint
  rw [show (10 : Int) = ((10 : Nat) : Int) from rfl, extend_eq k a 10 (by omega) (by omega), bind_e rfl, put_eq k hk hk2 a v (by omega), bind_e rfl]
theorem ofInt_nat (n : Int) : (UInt64.ofInt n).toNat = (n % 18446744073709551616).toNat := by
  show (UInt64.ofNat (n % 2 ^ 64).toNat).toNat = _
  rw [UInt64.toNat_ofNat']
  omega
/-- The bits of a group, laid at its place. -/
def lay (v : UInt64) (c : UInt8) (i : Nat) : UInt64 := v ||| shl64 (c &&& 127).toUInt64 (7 * i)
/-- A number read from here on: i groups stand before, v is what they make. -/
def go : List UInt8 → Nat → UInt64 → UInt64 × Int × Int
  | [], _, _ => (0, 0, 2)
  | c :: r, i, v => if (i = 9 ∧ 1 < c.toNat) ∨ (0 < i ∧ c.toNat = 0) then (0, 0, 3) else if c.toNat < 128 then (lay v c i, ((i + 1 : Nat) : Int), 0) else go r (i + 1) (lay v c i)
def readU (b : List UInt8) : UInt64 × Int × Int := go b 0 0
theorem and_mod : ∀ n, n < 256 → (UInt8.ofNat n &&& 127) = UInt8.ofNat n % 128 := by decide +kernel
theorem and_mod' (c : UInt8) : c &&& 127 = c % 128 := by
  have h := and_mod c.toNat c.toNat_lt
  rwa [UInt8.ofNat_toNat] at h
theorem getD_drop (b : List UInt8) {i : Nat} (h : i < b.length) : b.drop i = b.getD i default :: b.drop (i + 1) := by
  rw [List.drop_eq_getElem_cons h]
  simp [List.getD, h]
theorem test_eq (i : Nat) (c : UInt8) : (((((i : Nat) : Int) == 9) && (decide ((c.toNat : Int) > 1))) || ((decide (((i : Nat) : Int) > 0)) && ((c.toNat : Int) == 0))) = decide ((i = 9 ∧ 1 < c.toNat) ∨ (0 < i ∧ c.toNat = 0)) := by
  rw [Bool.eq_iff_iff]
  simp
  omega
theorem uint_read (k : Nat) (b : List UInt8) (hb : b.length ≤ 4000000) : ∀ (n i : Nat) (v : UInt64), i ≤ b.length → b.length - i < n →
    ((wire_Uint_loop1 k b n v i).bind fun o1 => onS o1 (fun _ => some ((0 : UInt64), (0 : Int), (2 : Int))) (fun r1 => some r1)) = some (go (b.drop i) i v) := by
  intro n
  induction n with
  | zero => intro i v h1 h2; omega
  | succ n ih =>
    intro i v h1 h2
    rw [wire_Uint_loop1]
    by_cases h : i < b.length
    · rw [decide_eq_true (by omega), cond_true, ifp_pos h, test_eq, getD_drop b h]
      generalize b.getD i default = c
      unfold go
      by_cases h3 : (i = 9 ∧ 1 < c.toNat) ∨ (0 < i ∧ c.toNat = 0)
      · rw [decide_eq_true h3, cond_true, if_pos h3]
        rfl
      · rw [decide_eq_false h3, cond_false, if_neg h3, ifp_pos (by omega)]
        by_cases h4 : c.toNat < 128
        · rw [decide_eq_true (by omega), cond_true, if_pos h4, ifp_pos (by omega)]
          rfl
        · rw [decide_eq_false (by omega), cond_false, if_neg h4, ifp_pos (by omega)]
          exact ih (i + 1) _ (by omega) (by omega)
    · rw [decide_eq_false (by omega), cond_false, List.drop_of_length_le (by omega)]
      rfl
theorem uintR_eq (k : Nat) (b : List UInt8) (hb : b.length ≤ 4000000) (hk : b.length < k) : wire_Uint k b = some (readU b) := by
  unfold wire_Uint readU
  have := uint_read k b hb k 0 0 (by omega) (by omega)
  rwa [List.drop_zero] at this
theorem ref_read (k : Nat) (b : List UInt8) (hb : b.length ≤ 4000000) : ∀ (n i : Nat) (v : UInt64), i ≤ b.length → b.length - i < n → actorgridref1_ReadUint_loop1 k b n v i = some (go (b.drop i) i v) := by
  intro n
  induction n with
  | zero => intro i v h1 h2; omega
  | succ n ih =>
    intro i v h1 h2
    rw [actorgridref1_ReadUint_loop1]
    by_cases h : i < b.length
    · rw [decide_eq_false (by omega), cond_false, ifp_pos h, test_eq, getD_drop b h]
      generalize b.getD i default = c
      have hs : (UInt64.ofNat (7 * i)).toNat = 7 * i := by rw [UInt64.toNat_ofNat']; omega
      rw [hs, ← and_mod' c]
      unfold go
      by_cases h3 : (i = 9 ∧ 1 < c.toNat) ∨ (0 < i ∧ c.toNat = 0)
      · rw [decide_eq_true h3, cond_true, if_pos h3]
      · rw [decide_eq_false h3, cond_false, if_neg h3, ifp_pos (by omega)]
        by_cases h4 : c.toNat < 128
        · rw [decide_eq_true (by omega), cond_true, if_pos h4, ifp_pos (by omega)]
          rfl
        · rw [decide_eq_false (by omega), cond_false, if_neg h4, ifp_pos (by omega)]
          exact ih (i + 1) _ (by omega) (by omega)
    · rw [decide_eq_true (by omega), cond_true, List.drop_of_length_le (by omega)]
      rfl
theorem uintR_ref (k : Nat) (b : List UInt8) (hb : b.length ≤ 4000000) (hk : b.length < k) : actorgridref1_ReadUint k b = some (readU b) := by
  unfold actorgridref1_ReadUint readU
  have := ref_read k b hb k 0 0 (by omega) (by omega)
  rw [List.drop_zero] at this
  rw [this]
  rfl
/-- What go gives: an error without a value, or a value and how many bytes it took. -/
theorem go_ok : ∀ (b : List UInt8) (i : Nat) (v : UInt64), ((go b i v).2.2 ≠ 0 ∧ (go b i v).1 = 0 ∧ (go b i v).2.1 = 0 ∧ ((go b i v).2.2 = 2 ∨ (go b i v).2.2 = 3)) ∨ ((go b i v).2.2 = 0 ∧ ∃ n : Nat, (go b i v).2.1 = (n : Int) ∧ i < n ∧ n ≤ i + b.length)
  | [], i, v => .inl ⟨(show (2 : Int) ≠ 0 by decide), rfl, rfl, .inl rfl⟩
  | c :: r, i, v => by
    unfold go
    split
    · exact .inl ⟨by decide, rfl, rfl, .inr rfl⟩
    · split
      · exact .inr ⟨rfl, i + 1, rfl, by omega, by simp⟩
      · rcases go_ok r (i + 1) (lay v c i) with h | ⟨h1, n, h2, h3, h4⟩
        · exact .inl h
        · exact .inr ⟨h1, n, h2, by omega, by simp; omega⟩
theorem readU_ok (b : List UInt8) : ((readU b).2.2 ≠ 0 ∧ (readU b).1 = 0 ∧ (readU b).2.1 = 0 ∧ ((readU b).2.2 = 2 ∨ (readU b).2.2 = 3)) ∨ ((readU b).2.2 = 0 ∧ ∃ n : Nat, (readU b).2.1 = (n : Int) ∧ 0 < n ∧ n ≤ b.length) := by
  rcases go_ok b 0 0 with h | ⟨h1, n, h2, h3, h4⟩
  · exact .inl h
  · exact .inr ⟨h1, n, h2, h3, by omega⟩
def crc1 (c : UInt32) : UInt32 := shr32 c 1 ^^^ ((3988292384 : UInt32) * (c &&& (1 : UInt32)))
def crcN : Nat → UInt32 → UInt32
  | 0, c => c
  | n + 1, c => crcN n (crc1 c)
def crcGo : List UInt8 → UInt32 → UInt32
  | [], c => c
  | b :: r, c => crcGo r (crcN 8 (c ^^^ b.toUInt32))
def crc (l : List UInt8) : UInt32 := ~~~(crcGo l 4294967295)
theorem and1_nat (c : UInt32) : (c &&& (1 : UInt32)).toNat = c.toNat % 2 := by
  rw [UInt32.toNat_and, show (1 : UInt32).toNat = 1 from rfl, Nat.and_one_is_mod]
theorem crc1_one {c : UInt32} (h : c.toNat % 2 = 1) : crc1 c = shr32 c 1 ^^^ (3988292384 : UInt32) := by
  unfold crc1
  have : c &&& (1 : UInt32) = 1 := UInt32.toNat_inj.1 (by rw [and1_nat, h]; rfl)
  rw [this]
  rfl
theorem crc1_zero {c : UInt32} (h : c.toNat % 2 = 0) : crc1 c = shr32 c 1 := by
  unfold crc1
  have : c &&& (1 : UInt32) = 0 := UInt32.toNat_inj.1 (by rw [and1_nat, h]; rfl)
  rw [this]
  simp
theorem crc_in (k : Nat) : ∀ (m n : Nat) (c : UInt32), m ≤ 8 → m < n → wire_Checksum_loop2 k n c (8 - m) = some (crcN m c) := by
  intro m
  induction m with
  | zero =>
    intro n c h1 h2
    obtain ⟨n, rfl⟩ : ∃ q, n = q + 1 := ⟨n - 1, by omega⟩
    rw [wire_Checksum_loop2, decide_eq_false (by omega), cond_false]
    rfl
  | succ m ih =>
    intro n c h1 h2
    obtain ⟨n, rfl⟩ : ∃ q, n = q + 1 := ⟨n - 1, by omega⟩
    rw [wire_Checksum_loop2, decide_eq_true (by omega), cond_true, ifp_pos (by omega), show 8 - (m + 1) + 1 = 8 - m by omega]
    exact ih n _ (by omega) (by omega)
theorem crc_inR (k : Nat) : ∀ (m n : Nat) (c : UInt32), m ≤ 8 → m < n → actorgridref1_Checksum_loop2 k n c (8 - m) = some (crcN m c) := by
  intro m
  induction m with
  | zero =>
    intro n c h1 h2
    obtain ⟨n, rfl⟩ : ∃ q, n = q + 1 := ⟨n - 1, by omega⟩
    rw [actorgridref1_Checksum_loop2, decide_eq_false (by omega), cond_false]
    rfl
  | succ m ih =>
    intro n c h1 h2
    obtain ⟨n, rfl⟩ : ∃ q, n = q + 1 := ⟨n - 1, by omega⟩
    rw [actorgridref1_Checksum_loop2, decide_eq_true (by omega), cond_true]
    have e : (bif ((((c &&& (1 : UInt32))).toNat : Int) == 1) then (some ((Md.shr32 c 1) ^^^ (3988292384 : UInt32))) else (some (Md.shr32 c 1)) : Option UInt32) = some (crc1 c) := by
      rw [and1_nat]
      rcases Nat.mod_two_eq_zero_or_one c.toNat with h | h
      · rw [h, crc1_zero h]; rfl
      · rw [h, crc1_one h]; rfl
    rw [e, bind_e rfl, ifp_pos (by omega), show 8 - (m + 1) + 1 = 8 - m by omega]
    exact ih n _ (by omega) (by omega)
theorem crc_out (k : Nat) (hk : 8 < k) (b : List UInt8) (hb : b.length ≤ 4000000) : ∀ (n i : Nat) (c : UInt32), i ≤ b.length → b.length - i < n → wire_Checksum_loop1 k b n c i = some (crcGo (b.drop i) c) := by
  intro n
  induction n with
  | zero => intro i c h1 h2; omega
  | succ n ih =>
    intro i c h1 h2
    rw [wire_Checksum_loop1]
    by_cases h : i < b.length
    · rw [decide_eq_true (by omega), cond_true, ifp_pos h, crc_in k 8 k _ (Nat.le_refl _) hk, bind_e rfl, ifp_pos (by omega), ih (i + 1) _ (by omega) (by omega), getD_drop b h]
      rfl
    · rw [decide_eq_false (by omega), cond_false, List.drop_of_length_le (by omega)]
      rfl
theorem crc_outR (k : Nat) (hk : 8 < k) (b : List UInt8) (hb : b.length ≤ 4000000) : ∀ (n i : Nat) (c : UInt32), i ≤ b.length → b.length - i < n → actorgridref1_Checksum_loop1 k b n c i = some (crcGo (b.drop i) c) := by
  intro n
  induction n with
  | zero => intro i c h1 h2; omega
  | succ n ih =>
    intro i c h1 h2
    rw [actorgridref1_Checksum_loop1]
    by_cases h : i < b.length
    · rw [decide_eq_true (by omega), cond_true, ifp_pos h, crc_inR k 8 k _ (Nat.le_refl _) hk, bind_e rfl, ifp_pos (by omega), ih (i + 1) _ (by omega) (by omega), getD_drop b h]
      rfl
    · rw [decide_eq_false (by omega), cond_false, List.drop_of_length_le (by omega)]
      rfl
theorem crc_eq (k : Nat) (hk : 8 < k) (b : List UInt8) (hb : b.length ≤ 4000000) (hk2 : b.length < k) : wire_Checksum k b = some (crc b) := by
  unfold wire_Checksum
  rw [crc_out k hk b hb k 0 _ (by omega) (by omega), bind_e rfl]
  rfl
theorem crc_ref (k : Nat) (hk : 8 < k) (b : List UInt8) (hb : b.length ≤ 4000000) (hk2 : b.length < k) : actorgridref1_Checksum k b = some (crc b) := by
  unfold actorgridref1_Checksum
  rw [crc_outR k hk b hb k 0 _ (by omega) (by omega), bind_e rfl]
  rfl
/-- A checksum in four bytes. -/
def low (c : UInt32) : List UInt8 := [c.toUInt8, (shr32 c 8).toUInt8, (shr32 c 16).toUInt8, (shr32 c 24).toUInt8]
theorem word_eq (k : Nat) (a : List UInt8) (c : UInt32) (h : a.length ≤ 3900000) : wire_word k a c = some (a ++ low c) := by
  unfold wire_word low
  exact ifp_pos (by simp; omega)
theorem low_ref (k : Nat) (c : UInt32) : actorgridref1_Low k c = some (low c) := rfl
/-- A frame. -/
def frame (kind : UInt8) (body : List UInt8) : List UInt8 :=
  let h := [65, 71, kind] ++ enc body.length ++ body
  h ++ low (crc h)
def sealF (kind : Int) (body : List UInt8) : List UInt8 × Int := if kind < 1 ∨ 255 < kind ∨ 16777216 < body.length then ([], 1) else (frame (.ofInt kind) body, 0)
theorem ofNat_len {n : Nat} (h : n ≤ 4000000) : (UInt64.ofNat n).toNat = n := by rw [UInt64.toNat_ofNat']; omega
theorem enc_len5 {n : Nat} (h : n ≤ 4000000) : (enc n).length ≤ 5 := enc_len 4 n (by omega)
theorem seal_test (kind : Int) (n : Nat) : (((decide (kind < 1)) || (decide (kind > 255))) || (decide (((n : Nat) : Int) > 16777216))) = decide (kind < 1 ∨ 255 < kind ∨ 16777216 < n) := by
  rw [Bool.eq_iff_iff]
  simp
  omega
theorem seal_eq (k : Nat) (kind : Int) (body : List UInt8) (hb : body.length ≤ 3000000) (hk : body.length + 20 ≤ k) (hk2 : k ≤ 100000) : wire_Seal k kind body = some (sealF kind body) := by
  unfold wire_Seal sealF
  rw [seal_test]
  by_cases h : kind < 1 ∨ 255 < kind ∨ 16777216 < body.length
  · rw [decide_eq_true h, if_pos h]; rfl
  · have e5 := enc_len5 (n := body.length) (by omega)
    rw [decide_eq_false h, if_neg h, cond_false, ifp_pos (by omega), extend_eq k _ _ (by simp) (by omega), bind_e rfl, put_eq k (by omega) hk2 _ _ (by simp), bind_e rfl, ofNat_len (by omega)]
    rw [ifp_pos (by simp; omega), crc_eq k (by omega) _ (by simp; omega) (by simp; omega), bind_e rfl, word_eq k _ _ (by simp; omega), bind_e rfl]
    rfl
theorem seal_ref (k : Nat) (kind : Int) (body : List UInt8) (hb : body.length ≤ 3000000) (hk : body.length + 20 ≤ k) (hk2 : k ≤ 100000) : actorgridref1_Seal k kind body = some (sealF kind body) := by
  unfold actorgridref1_Seal sealF
  rw [seal_test]
  by_cases h : kind < 1 ∨ 255 < kind ∨ 16777216 < body.length
  · rw [decide_eq_true h, if_pos h]; rfl
  · have e5 := enc_len5 (n := body.length) (by omega)
    rw [decide_eq_false h, if_neg h, cond_false, uint_eq k (by omega) hk2, bind_e rfl, ofNat_len (by omega)]
    rw [ifp_pos (by simp; omega), ifp_pos (by simp; omega), crc_ref k (by omega) _ (by simp; omega) (by simp; omega), bind_e rfl, low_ref, bind_e rfl, ifp_pos (by simp [low]; omega)]
    rfl

/-- What is read behind the first three bytes: u is the body's length, n the bytes that u takes. -/
def openAt (b : List UInt8) (u n : Nat) : Int × List UInt8 × Int × Int :=
  if b.length < 3 + n + u + 4 then (0, [], 0, 2)
  else if low (crc (b.take (3 + n + u))) = (b.drop (3 + n + u)).take 4 then ((((b.getD 2 default).toNat : Nat) : Int), (b.drop (3 + n)).take u, ((3 + n + u + 4 : Nat) : Int), 0)
  else (0, [], 0, 4)
def openF (b : List UInt8) : Int × List UInt8 × Int × Int :=
  if b.length < 3 then (0, [], 0, 2)
  else if (b.getD 0 default).toNat ≠ 65 ∨ (b.getD 1 default).toNat ≠ 71 ∨ (b.getD 2 default).toNat = 0 then (0, [], 0, 3)
  else if (readU (b.drop 3)).2.2 ≠ 0 then (0, [], 0, (readU (b.drop 3)).2.2)
  else if 16777216 < (readU (b.drop 3)).1.toNat then (0, [], 0, 5)
  else openAt b (readU (b.drop 3)).1.toNat (readU (b.drop 3)).2.1.toNat
theorem head_test (b : List UInt8) (h : 3 ≤ b.length) {R : Type} (X : Option R) (Y : Option R) :
    (((bif ((((b.getD 0 default)).toNat : Int) != 65) then (some true) else (Md.ifp (1 < b.length) <| some ((((b.getD 1 default)).toNat : Int) != 71))) : Option Bool).bind fun x3 => ((bif x3 then (some true) else (Md.ifp (2 < b.length) <| some ((((b.getD 2 default)).toNat : Int) == 0))) : Option Bool).bind fun x4 => bif x4 then X else Y) =
      if (b.getD 0 default).toNat ≠ 65 ∨ (b.getD 1 default).toNat ≠ 71 ∨ (b.getD 2 default).toNat = 0 then X else Y := by
  generalize (b.getD 0 default).toNat = p
  generalize (b.getD 1 default).toNat = q
  generalize (b.getD 2 default).toNat = r
  rw [ifp_pos (by omega), ifp_pos (by omega)]
  by_cases h1 : p = 65
  · by_cases h2 : q = 71
    · by_cases h3 : r = 0
      · subst h1 h2 h3; rfl
      · subst h1 h2
        have : ((r : Int) == 0) = false := by simp; omega
        simp [h3, this]
    · subst h1
      have : ((q : Int) != 71) = true := by simp; omega
      simp [h2, this]
  · have : ((p : Int) != 65) = true := by simp; omega
    simp [h1, this]
theorem length_u (k : Nat) (b : List UInt8) (m : Nat) (hb : b.length ≤ 4000000) (hk : b.length < k) (hm : m ≤ 9223372036854775807) : wire_length k b (m : Int) =
    some (if (readU b).2.2 ≠ 0 then (0, 0, (readU b).2.2) else if m < (readU b).1.toNat then (0, 0, 5) else (((readU b).1.toNat : Int), (readU b).2.1, 0)) := by
  unfold wire_length
  rw [decide_eq_false (by omega), cond_false, uintR_eq k b hb hk, bind_e rfl]
  have hm' : (UInt64.ofInt (m : Int)).toNat = m := by rw [ofInt_nat]; omega
  rw [hm']
  by_cases h : (readU b).2.2 = 0
  · rw [h, if_neg (by simp)]
    by_cases h2 : m < (readU b).1.toNat
    · rw [if_pos h2, decide_eq_true (by omega)]; rfl
    · rw [if_neg h2, decide_eq_false (by omega), W_id (by omega) (by omega)]; rfl
  · rw [if_pos h, show ((readU b).2.2 != 0) = true from by simp [h]]
    rfl
theorem low_len (c : UInt32) : (low c).length = 4 := rfl
theorem open_eq (k : Nat) (b : List UInt8) (hb : b.length ≤ 3000000) (hk : b.length + 20 ≤ k) : wire_Open k b = some (openF b) := by
  unfold wire_Open openF
  by_cases h3 : b.length < 3
  · rw [decide_eq_true (by omega), if_pos h3]; rfl
  rw [decide_eq_false (by omega), if_neg h3, cond_false, ifp_pos (by omega), head_test b (by omega)]
  split
  · rfl
  have hl : (b.drop 3).length = b.length - 3 := List.length_drop
  have hlu := length_u k (b.drop 3) 16777216 (by omega) (by omega) (by omega)
  rw [show ((16777216 : Nat) : Int) = 16777216 from rfl] at hlu
  rw [ifp_pos (by omega), hlu, bind_e rfl]
  rcases readU_ok (b.drop 3) with ⟨h1, _⟩ | ⟨h1, n, h2, h4, h5⟩
  · rw [if_pos h1, if_pos h1, show ((readU (b.drop 3)).2.2 != 0) = true from by simp [h1]]
    rfl
  have hn : ¬ (readU (b.drop 3)).2.2 ≠ 0 := by simp [h1]
  rw [if_neg hn, if_neg hn]
  generalize (readU (b.drop 3)).1.toNat = u
  by_cases h6 : 16777216 < u
  · rw [if_pos h6, if_pos h6]; rfl
  rw [if_neg h6, if_neg h6, h2]
  have hW1 : W (3 + (n : Int)) = ((3 + n : Nat) : Int) := (W_id (by omega) (by omega)).trans (by omega)
  have hW2 : W ((b.length : Int) - ((3 + n : Nat) : Int)) = (b.length : Int) - ((3 + n : Nat) : Int) := W_id (by omega) (by omega)
  have hW3 : W ((u : Int) + 4) = ((u + 4 : Nat) : Int) := (W_id (by omega) (by omega)).trans (by omega)
  have hW4 : W (((3 + n : Nat) : Int) + (u : Int)) = ((3 + n + u : Nat) : Int) := (W_id (by omega) (by omega)).trans (by omega)
  have hW5 : W (((3 + n + u : Nat) : Int) + 4) = ((3 + n + u + 4 : Nat) : Int) := (W_id (by omega) (by omega)).trans (by omega)
  simp only [hW1, hW2, hW3, hW4, hW5, Int.toNat_natCast, bne_self_eq_false, cond_false]
  unfold openAt
  by_cases h7 : b.length < 3 + n + u + 4
  · rw [decide_eq_true (by omega), if_pos h7]; rfl
  have ht : (b.take (3 + n + u)).length = 3 + n + u := by rw [List.length_take]; omega
  rw [decide_eq_false (by omega), if_neg h7, cond_false, ifp_pos (by omega), ifp_pos (by omega), crc_eq k (by omega) _ (by omega) (by omega), bind_e rfl, word_eq k _ _ (by simp), bind_e rfl, List.nil_append]
  rw [ifp_pos (by omega), ifp_pos (by omega), ifp_pos (by omega), show 3 + n + u + 4 - (3 + n + u) = 4 by omega]
  by_cases h8 : low (crc (b.take (3 + n + u))) = (b.drop (3 + n + u)).take 4
  · rw [if_pos h8, decide_eq_true h8, Bool.not_true, cond_false, ifp_pos (by omega), ifp_pos (by omega), ifp_pos (by omega), ifp_pos (by omega), show 3 + n + u - (3 + n) = u by omega]
    rw [show (0 : Int) = ((0 : Nat) : Int) from rfl, extend_eq k _ 0 (by rw [List.length_take, List.length_drop]; omega) (by omega), bind_e rfl]
  · rw [if_neg h8, decide_eq_false h8]; rfl
theorem open_ref (k : Nat) (b : List UInt8) (hb : b.length ≤ 3000000) (hk : b.length + 20 ≤ k) : actorgridref1_Open k b = some (openF b) := by
  unfold actorgridref1_Open openF
  by_cases h3 : b.length < 3
  · rw [decide_eq_true (by omega), if_pos h3]; rfl
  rw [decide_eq_false (by omega), if_neg h3, cond_false, ifp_pos (by omega), head_test b (by omega)]
  split
  · rfl
  have hl : (b.drop 3).length = b.length - 3 := List.length_drop
  rw [ifp_pos (by omega), uintR_ref k _ (by omega) (by omega), bind_e rfl]
  rcases readU_ok (b.drop 3) with ⟨h1, _⟩ | ⟨h1, n, h2, h4, h5⟩
  · rw [if_pos h1, show ((readU (b.drop 3)).2.2 != 0) = true from by simp [h1]]
    rfl
  have hn : ¬ (readU (b.drop 3)).2.2 ≠ 0 := by simp [h1]
  rw [if_neg hn, h1]
  generalize (readU (b.drop 3)).1.toNat = u
  by_cases h6 : 16777216 < u
  · rw [if_pos h6, decide_eq_true (by omega)]; rfl
  rw [if_neg h6, decide_eq_false (by omega), h2]
  have hW0 : W (u : Int) = (u : Int) := W_id (by omega) (by omega)
  have hW1 : W (3 + (n : Int)) = ((3 + n : Nat) : Int) := (W_id (by omega) (by omega)).trans (by omega)
  have hW2 : W ((b.length : Int) - ((3 + n : Nat) : Int)) = (b.length : Int) - ((3 + n : Nat) : Int) := W_id (by omega) (by omega)
  have hW3 : W ((u : Int) + 4) = ((u + 4 : Nat) : Int) := (W_id (by omega) (by omega)).trans (by omega)
  have hW4 : W (((3 + n : Nat) : Int) + (u : Int)) = ((3 + n + u : Nat) : Int) := (W_id (by omega) (by omega)).trans (by omega)
  have hW5 : W (((3 + n + u : Nat) : Int) + 4) = ((3 + n + u + 4 : Nat) : Int) := (W_id (by omega) (by omega)).trans (by omega)
  simp only [hW0, hW1, hW2, hW3, hW4, hW5, Int.toNat_natCast, bne_self_eq_false, cond_false]
  unfold openAt
  by_cases h7 : b.length < 3 + n + u + 4
  · rw [decide_eq_true (by omega), if_pos h7]; rfl
  have ht : (b.take (3 + n + u)).length = 3 + n + u := by rw [List.length_take]; omega
  rw [decide_eq_false (by omega), if_neg h7, cond_false, ifp_pos (by omega), ifp_pos (by omega), crc_ref k (by omega) _ (by omega) (by omega), bind_e rfl, low_ref, bind_e rfl]
  rw [ifp_pos (by omega), ifp_pos (by omega), ifp_pos (by omega), show 3 + n + u + 4 - (3 + n + u) = 4 by omega]
  by_cases h8 : low (crc (b.take (3 + n + u))) = (b.drop (3 + n + u)).take 4
  · rw [if_pos h8, decide_eq_true h8, Bool.not_true, cond_false, ifp_pos (by omega), ifp_pos (by omega), ifp_pos (by omega), ifp_pos (by omega), show 3 + n + u - (3 + n) = u by omega]
    rw [ifp_pos (by rw [List.length_take, List.length_drop]; omega)]
  · rw [if_neg h8, decide_eq_false h8]; rfl
theorem lay_nat (a : UInt64) (c : UInt8) (i : Nat) (h1 : a.toNat < 2 ^ (7 * i)) (h2 : 7 * i ≤ 64) (h3 : a.toNat + c.toNat % 128 * 2 ^ (7 * i) < 2 ^ 64) : (lay a c i).toNat = a.toNat + c.toNat % 128 * 2 ^ (7 * i) := by
  unfold lay
  have e : (c &&& 127).toUInt64.toNat = c.toNat % 128 := by rw [and_mod', UInt8.toNat_toUInt64, UInt8.toNat_mod]; rfl
  rw [UInt64.toNat_or, shl64_nat, e, Nat.min_eq_left h2, Nat.mod_eq_of_lt (by omega), Nat.mul_comm, Nat.or_comm, ← Nat.two_pow_add_eq_or_of_lt h1, Nat.add_comm]
theorem parts (u P : Nat) : u % 128 * P + u / 128 * (P * 128) = u * P := by
  have h := Nat.div_add_mod u 128
  calc u % 128 * P + u / 128 * (P * 128) = (128 * (u / 128) + u % 128) * P := by rw [Nat.add_mul, Nat.add_comm, Nat.mul_comm P 128, ← Nat.mul_assoc, Nat.mul_comm (u / 128) 128]
    _ = u * P := by rw [h]
theorem pow7 (i : Nat) : 2 ^ (7 * (i + 1)) = 2 ^ (7 * i) * 128 := by rw [Nat.mul_add, Nat.pow_add]
def Inv {α : Type} (rd : List UInt8 → α × Int × Int) (f : α → List UInt8) (y : α) : Prop := ∀ z, rd (f y ++ z) = (y, ((f y).length : Int), 0)
theorem pow7_lt {i : Nat} (h : i ≤ 8) : 2 ^ (7 * i) * 128 ≤ 2 ^ 63 := by
  rw [← pow7]
  exact Nat.pow_le_pow_right (by decide) (by omega)
theorem lay_fit (a : UInt64) (c : UInt8) (i : Nat) (hi : i ≤ 9) (h9 : i = 9 → c.toNat ≤ 1) (ha : a.toNat < 2 ^ (7 * i)) : (lay a c i).toNat = a.toNat + c.toNat % 128 * 2 ^ (7 * i) ∧ a.toNat + c.toNat % 128 * 2 ^ (7 * i) < 2 ^ (7 * i) * 128 := by
  have h1 : c.toNat % 128 * 2 ^ (7 * i) ≤ 127 * 2 ^ (7 * i) := Nat.mul_le_mul_right _ (by omega)
  refine ⟨lay_nat a c i ha (by omega) ?_, by omega⟩
  by_cases h : i = 9
  · subst h
    have h2 : c.toNat % 128 * 2 ^ (7 * 9) ≤ 1 * 2 ^ (7 * 9) := Nat.mul_le_mul_right _ (by have := h9 rfl; omega)
    have : (2 : Nat) ^ (7 * 9) = 2 ^ 63 := rfl
    omega
  · have := pow7_lt (i := i) (by omega)
    omega
theorem go_can : ∀ (b : List UInt8) (i : Nat) (a : UInt64), i ≤ 9 → a.toNat < 2 ^ (7 * i) → (go b i a).2.2 = 0 →
    ∃ u p : Nat, (0 < i → 0 < u) ∧ (go b i a).2.1 = ((i + p : Nat) : Int) ∧ 0 < p ∧ p ≤ b.length ∧ b.take p = enc u ∧ (go b i a).1.toNat = a.toNat + u * 2 ^ (7 * i)
  | [], i, a, _, _, h => absurd h (show ¬ (2 : Int) = 0 by decide)
  | c :: r, i, a, hi, ha, h => by
    have hc := c.toNat_lt
    unfold go at h ⊢
    by_cases h1 : (i = 9 ∧ 1 < c.toNat) ∨ (0 < i ∧ c.toNat = 0)
    · rw [if_pos h1] at h
      exact absurd h (show ¬ (3 : Int) = 0 by decide)
    rw [if_neg h1] at h ⊢
    obtain ⟨l1, l2⟩ := lay_fit a c i hi (by omega) ha
    by_cases h2 : c.toNat < 128
    · rw [if_pos h2]
      refine ⟨c.toNat, 1, by omega, rfl, by omega, by simp, ?_, ?_⟩
      · rw [enc_lt h2]
        show [c] = _
        rw [UInt8.ofNat_toNat]
      · show (lay a c i).toNat = _
        rw [l1, Nat.mod_eq_of_lt h2]
    · rw [if_neg h2] at h ⊢
      obtain ⟨u, p, q1, q2, q3, q4, q5, q6⟩ := go_can r (i + 1) (lay a c i) (by omega) (by rw [l1, pow7]; exact l2) h
      have hu := q1 (by omega)
      have hm : (c.toNat % 128 + 128 * u) % 128 = c.toNat % 128 := by omega
      have hd : (c.toNat % 128 + 128 * u) / 128 = u := by omega
      refine ⟨c.toNat % 128 + 128 * u, p + 1, by omega, by rw [q2]; congr 1; omega, by omega, by rw [List.length_cons]; omega, ?_, ?_⟩
      · rw [enc_ge (by omega), hm, hd, List.take_succ_cons, q5]
        congr 1
        apply UInt8.toNat_inj.1
        rw [UInt8.toNat_ofNat']
        omega
      · rw [q6, l1, pow7]
        have := parts (c.toNat % 128 + 128 * u) (2 ^ (7 * i))
        rw [hm, hd] at this
        omega
def Can {α : Type} (rd : List UInt8 → α × Int × Int) (f : α → List UInt8) (ok : α → Prop) : Prop :=
  ∀ b, (rd b).2.2 = 0 → ∃ n : Nat, (rd b).2.1 = (n : Int) ∧ 0 < n ∧ n ≤ b.length ∧ b.take n = f (rd b).1 ∧ ok (rd b).1
theorem can_U : Can readU (fun u => enc u.toNat) (fun _ => True) := fun b h => by
  obtain ⟨u, p, _, q2, q3, q4, q5, q6⟩ := go_can b 0 0 (by omega) (by decide) h
  refine ⟨p, ?_, q3, q4, ?_, trivial⟩
  · show (go b 0 0).2.1 = _
    rw [q2, Nat.zero_add]
  · show _ = enc (go b 0 0).1.toNat
    rw [q5, q6]
    simp
theorem can_open (b : List UInt8) (hb : b.length ≤ 4000000) (h : (openF b).2.2.2 = 0) : ∃ n : Nat, (openF b).2.2.1 = (n : Int) ∧ n ≤ b.length ∧ sealF (openF b).1 (openF b).2.1 = (b.take n, 0) ∧ (openF b).2.1.length ≤ b.length := by
  unfold openF at h ⊢
  by_cases h0 : b.length < 3
  · rw [if_pos h0] at h; exact absurd h (show ¬ (2 : Int) = 0 by decide)
  rw [if_neg h0] at h ⊢
  by_cases h1 : (b.getD 0 default).toNat ≠ 65 ∨ (b.getD 1 default).toNat ≠ 71 ∨ (b.getD 2 default).toNat = 0
  · rw [if_pos h1] at h; exact absurd h (show ¬ (3 : Int) = 0 by decide)
  rw [if_neg h1] at h ⊢
  by_cases h2 : (readU (b.drop 3)).2.2 = 0
  · obtain ⟨n, g1, g2, g3, g4, _⟩ := can_U _ h2
    rw [List.length_drop] at g3
    rw [if_neg (by simp [h2])] at h ⊢
    have g4 : (b.drop 3).take n = enc (readU (b.drop 3)).1.toNat := g4
    generalize (readU (b.drop 3)).1.toNat = u at h g4 ⊢
    by_cases h3 : 16777216 < u
    · rw [if_pos h3] at h; exact absurd h (show ¬ (5 : Int) = 0 by decide)
    rw [if_neg h3, g1, Int.toNat_natCast] at h ⊢
    unfold openAt at h ⊢
    by_cases h4 : b.length < 3 + n + u + 4
    · rw [if_pos h4] at h; exact absurd h (show ¬ (2 : Int) = 0 by decide)
    rw [if_neg h4] at h ⊢
    by_cases h5 : low (crc (b.take (3 + n + u))) = (b.drop (3 + n + u)).take 4
    · rw [if_pos h5] at h ⊢
      have hl : ((b.drop (3 + n)).take u).length = u := by rw [List.length_take, List.length_drop]; omega
      have ht : b.take (3 + n + u) = [65, 71, b.getD 2 default] ++ enc u ++ (b.drop (3 + n)).take u := by
        rw [List.take_add, List.take_add, g4]
        congr 2
        rcases b with _ | ⟨x, _ | ⟨y, _ | ⟨z, r⟩⟩⟩
        · exact absurd (by simp) h0
        · exact absurd (by simp) h0
        · exact absurd (by simp) h0
        · have hx : x.toNat = 65 := Decidable.not_not.1 fun q => h1 (.inl q)
          have hy : y.toNat = 71 := Decidable.not_not.1 fun q => h1 (.inr (.inl q))
          have : x = 65 := UInt8.toNat_inj.1 hx
          have : y = 71 := UInt8.toNat_inj.1 hy
          subst x y
          rfl
      refine ⟨3 + n + u + 4, rfl, by omega, ?_, by show ((b.drop (3 + n)).take u).length ≤ _; omega⟩
      have hk := (b.getD 2 default).toNat_lt
      have hk0 : (b.getD 2 default).toNat ≠ 0 := fun q => h1 (.inr (.inr q))
      unfold sealF
      rw [if_neg (by rw [hl]; omega)]
      have hko : UInt8.ofInt (((b.getD 2 default).toNat : Nat) : Int) = b.getD 2 default := by
        apply UInt8.toNat_inj.1
        show (UInt8.ofNat ((((b.getD 2 default).toNat : Nat) : Int) % 2 ^ 8).toNat).toNat = _
        rw [UInt8.toNat_ofNat']
        omega
      rw [hko, List.take_add, ← h5, ht]
      unfold frame
      rw [hl]
    · rw [if_neg h5] at h; exact absurd h (show ¬ (4 : Int) = 0 by decide)
  · rw [if_pos h2] at h; exact absurd h h2

end Md
end Go.Proofs.Ytkcfkcgclljncaa
