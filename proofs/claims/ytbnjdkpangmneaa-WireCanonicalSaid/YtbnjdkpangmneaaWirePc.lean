/-
  Layer 1 in plain words: checksums. Conditions: sizes.
-/
import Derived.Test.YtbnjdkpangmneaaWirePb
namespace Go.Proofs.Ytbnjdkpangmneaa
set_option linter.unusedVariables false
set_option linter.unusedSimpArgs false
namespace Md
def crc1 (c : UInt32) : UInt32 := shr32 c 1 ^^^ ((3988292384 : UInt32) * (c &&& (1 : UInt32)))
def crcN : Nat → UInt32 → UInt32
  | 0, c => c
  | n + 1, c => crcN n (crc1 c)
def crcGo : List UInt8 → UInt32 → UInt32
  | [], c => c
  | b :: r, c => crcGo r (crcN 8 (c ^^^ b.toUInt32))
def crc (l : List UInt8) : UInt32 := ~~~(crcGo l 4294967295)
theorem and1_nat (c : UInt32) : (c &&& (1 : UInt32)).toNat = c.toNat % 2 := by
  rw [UInt32.toNat_and, show (1 : UInt32).toNat = 1 from rfl, Nat.and_one_is_mod]
theorem crc1_one {c : UInt32} (h : c.toNat % 2 = 1) : crc1 c = shr32 c 1 ^^^ (3988292384 : UInt32) := by
  unfold crc1
  have : c &&& (1 : UInt32) = 1 := UInt32.toNat_inj.1 (by rw [and1_nat, h]; rfl)
  rw [this]
  rfl
theorem crc1_zero {c : UInt32} (h : c.toNat % 2 = 0) : crc1 c = shr32 c 1 := by
  unfold crc1
  have : c &&& (1 : UInt32) = 0 := UInt32.toNat_inj.1 (by rw [and1_nat, h]; rfl)
  rw [this]
  simp
theorem crc_in (k : Nat) : ∀ (m n : Nat) (c : UInt32), m ≤ 8 → m < n → wire_Checksum_loop2 k n c (8 - m) = some (crcN m c) := by
  intro m
  induction m with
  | zero =>
    intro n c h1 h2
    obtain ⟨n, rfl⟩ : ∃ q, n = q + 1 := ⟨n - 1, by omega⟩
    rw [wire_Checksum_loop2, decide_eq_false (by omega), cond_false]
    rfl
  | succ m ih =>
    intro n c h1 h2
    obtain ⟨n, rfl⟩ : ∃ q, n = q + 1 := ⟨n - 1, by omega⟩
    rw [wire_Checksum_loop2, decide_eq_true (by omega), cond_true, ifp_pos (by omega), show 8 - (m + 1) + 1 = 8 - m by omega]
    exact ih n _ (by omega) (by omega)
theorem crc_inR (k : Nat) : ∀ (m n : Nat) (c : UInt32), m ≤ 8 → m < n → actorgridref1_Checksum_loop2 k n c (8 - m) = some (crcN m c) := by
  intro m
  induction m with
  | zero =>
    intro n c h1 h2
    obtain ⟨n, rfl⟩ : ∃ q, n = q + 1 := ⟨n - 1, by omega⟩
    rw [actorgridref1_Checksum_loop2, decide_eq_false (by omega), cond_false]
    rfl
  | succ m ih =>
    intro n c h1 h2
    obtain ⟨n, rfl⟩ : ∃ q, n = q + 1 := ⟨n - 1, by omega⟩
    rw [actorgridref1_Checksum_loop2, decide_eq_true (by omega), cond_true]
    have e : (bif ((((c &&& (1 : UInt32))).toNat : Int) == 1) then (some ((Md.shr32 c 1) ^^^ (3988292384 : UInt32))) else (some (Md.shr32 c 1)) : Option UInt32) = some (crc1 c) := by
      rw [and1_nat]
      rcases Nat.mod_two_eq_zero_or_one c.toNat with h | h
      · rw [h, crc1_zero h]; rfl
      · rw [h, crc1_one h]; rfl
    rw [e, bind_e rfl, ifp_pos (by omega), show 8 - (m + 1) + 1 = 8 - m by omega]
    exact ih n _ (by omega) (by omega)
theorem crc_out (k : Nat) (hk : 8 < k) (b : List UInt8) (hb : b.length ≤ 4000000) : ∀ (n i : Nat) (c : UInt32), i ≤ b.length → b.length - i < n → wire_Checksum_loop1 k b n c i = some (crcGo (b.drop i) c) := by
  intro n
  induction n with
  | zero => intro i c h1 h2; omega
  | succ n ih =>
    intro i c h1 h2
    rw [wire_Checksum_loop1]
    by_cases h : i < b.length
    · rw [decide_eq_true (by omega), cond_true, ifp_pos h, crc_in k 8 k _ (Nat.le_refl _) hk, bind_e rfl, ifp_pos (by omega), ih (i + 1) _ (by omega) (by omega), getD_drop b h]
      rfl
    · rw [decide_eq_false (by omega), cond_false, List.drop_of_length_le (by omega)]
      rfl
theorem crc_outR (k : Nat) (hk : 8 < k) (b : List UInt8) (hb : b.length ≤ 4000000) : ∀ (n i : Nat) (c : UInt32), i ≤ b.length → b.length - i < n → actorgridref1_Checksum_loop1 k b n c i = some (crcGo (b.drop i) c) := by
  intro n
  induction n with
  | zero => intro i c h1 h2; omega
  | succ n ih =>
    intro i c h1 h2
    rw [actorgridref1_Checksum_loop1]
    by_cases h : i < b.length
    · rw [decide_eq_true (by omega), cond_true, ifp_pos h, crc_inR k 8 k _ (Nat.le_refl _) hk, bind_e rfl, ifp_pos (by omega), ih (i + 1) _ (by omega) (by omega), getD_drop b h]
      rfl
    · rw [decide_eq_false (by omega), cond_false, List.drop_of_length_le (by omega)]
      rfl
theorem crc_eq (k : Nat) (hk : 8 < k) (b : List UInt8) (hb : b.length ≤ 4000000) (hk2 : b.length < k) : wire_Checksum k b = some (crc b) := by
  unfold wire_Checksum
  rw [crc_out k hk b hb k 0 _ (by omega) (by omega), bind_e rfl]
  rfl
theorem crc_ref (k : Nat) (hk : 8 < k) (b : List UInt8) (hb : b.length ≤ 4000000) (hk2 : b.length < k) : actorgridref1_Checksum k b = some (crc b) := by
  unfold actorgridref1_Checksum
  rw [crc_outR k hk b hb k 0 _ (by omega) (by omega), bind_e rfl]
  rfl
/-- A checksum in four bytes. -/
def low (c : UInt32) : List UInt8 := [c.toUInt8, (shr32 c 8).toUInt8, (shr32 c 16).toUInt8, (shr32 c 24).toUInt8]
theorem word_eq (k : Nat) (a : List UInt8) (c : UInt32) (h : a.length ≤ 3900000) : wire_word k a c = some (a ++ low c) := by
  unfold wire_word low
  exact ifp_pos (by simp; omega)
theorem low_ref (k : Nat) (c : UInt32) : actorgridref1_Low k c = some (low c) := rfl
/-- A frame. -/
def frame (kind : UInt8) (body : List UInt8) : List UInt8 :=
  let h := [65, 71, kind] ++ enc body.length ++ body
  h ++ low (crc h)
def sealF (kind : Int) (body : List UInt8) : List UInt8 × Int := if kind < 1 ∨ 255 < kind ∨ 16777216 < body.length then ([], 1) else (frame (.ofInt kind) body, 0)
theorem ofNat_len {n : Nat} (h : n ≤ 4000000) : (UInt64.ofNat n).toNat = n := by rw [UInt64.toNat_ofNat']; omega
theorem enc_len5 {n : Nat} (h : n ≤ 4000000) : (enc n).length ≤ 5 := enc_len 4 n (by omega)
theorem seal_test (kind : Int) (n : Nat) : (((decide (kind < 1)) || (decide (kind > 255))) || (decide (((n : Nat) : Int) > 16777216))) = decide (kind < 1 ∨ 255 < kind ∨ 16777216 < n) := by
  rw [Bool.eq_iff_iff]
  simp
  omega
theorem seal_eq (k : Nat) (kind : Int) (body : List UInt8) (hb : body.length ≤ 3000000) (hk : body.length + 20 ≤ k) (hk2 : k ≤ 100000) : wire_Seal k kind body = some (sealF kind body) := by
  unfold wire_Seal sealF
  rw [seal_test]
  by_cases h : kind < 1 ∨ 255 < kind ∨ 16777216 < body.length
  · rw [decide_eq_true h, if_pos h]; rfl
  · have e5 := enc_len5 (n := body.length) (by omega)
    rw [decide_eq_false h, if_neg h, cond_false, ifp_pos (by omega), extend_eq k _ _ (by simp) (by omega), bind_e rfl, put_eq k (by omega) hk2 _ _ (by simp), bind_e rfl, ofNat_len (by omega)]
    rw [ifp_pos (by simp; omega), crc_eq k (by omega) _ (by simp; omega) (by simp; omega), bind_e rfl, word_eq k _ _ (by simp; omega), bind_e rfl]
    rfl
theorem seal_ref (k : Nat) (kind : Int) (body : List UInt8) (hb : body.length ≤ 3000000) (hk : body.length + 20 ≤ k) (hk2 : k ≤ 100000) : actorgridref1_Seal k kind body = some (sealF kind body) := by
  unfold actorgridref1_Seal sealF
  rw [seal_test]
  by_cases h : kind < 1 ∨ 255 < kind ∨ 16777216 < body.length
  · rw [decide_eq_true h, if_pos h]; rfl
  · have e5 := enc_len5 (n := body.length) (by omega)
    rw [decide_eq_false h, if_neg h, cond_false, uint_eq k (by omega) hk2, bind_e rfl, ofNat_len (by omega)]
    rw [ifp_pos (by simp; omega), ifp_pos (by simp; omega), crc_ref k (by omega) _ (by simp; omega) (by simp; omega), bind_e rfl, low_ref, bind_e rfl, ifp_pos (by simp [low]; omega)]
    rfl
end Md
end Go.Proofs.Ytbnjdkpangmneaa
