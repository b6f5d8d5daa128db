/-
  Layer 1 in plain words: lists read by the reference, lists written, lists compared. Conditions: sizes.
-/
import Derived.Test.YtbnjdkpangmneaaWirePe
namespace Go.Proofs.Ytbnjdkpangmneaa
set_option linter.unusedVariables false
set_option linter.unusedSimpArgs false
namespace Md
theorem u64_succ {i : UInt64} {u : Nat} (h : i.toNat < u) (hu : u ≤ 9223372036854775807) : (i + 1).toNat = i.toNat + 1 := by
  rw [UInt64.toNat_add, show (1 : UInt64).toNat = 1 from rfl]
  omega
theorem ints_ref (k : Nat) (b : List UInt8) (hb : b.length ≤ 3000000) (hk : b.length < k) (x : UInt64 × Int × Int) (hu : x.1.toNat ≤ 9223372036854775807) : ∀ (n p : Nat) (i : UInt64) (acc : List Int), p ≤ b.length → acc.length ≤ p → i.toNat ≤ x.1.toNat → b.length - p + 1 < n →
    ((actorgridref1_ReadIntList_loop1 k b x n (p : Int) i acc).bind fun o5 => onS o5 (fun x5_0 => some (x5_0.2, x5_0.1, (0 : Int))) (fun r5 => some r5)) = some (readN readI b (x.1.toNat - i.toNat) p acc) := by
  intro n
  induction n with
  | zero => intro p i acc h1 h2 h3 h4; omega
  | succ n ih =>
    intro p i acc h1 h2 h3 h4
    rw [actorgridref1_ReadIntList_loop1]
    by_cases h : i.toNat < x.1.toNat
    · have hd : (b.drop p).length = b.length - p := List.length_drop
      have hs := u64_succ h hu
      rw [decide_eq_true (by omega), cond_true, ifp_pos (by omega), Int.toNat_natCast, ifp_pos h1, intR_ref k _ (by omega) (by omega), bind_e rfl, show x.1.toNat - i.toNat = (x.1.toNat - (i + 1).toNat) + 1 by omega]
      show _ = some (if (readI (b.drop p)).2.2 ≠ 0 then ([], 0, (readI (b.drop p)).2.2) else readN readI b (x.1.toNat - (i + 1).toNat) (p + (readI (b.drop p)).2.1.toNat) (acc ++ [(readI (b.drop p)).1]))
      rcases rd_int (b.drop p) with h5 | ⟨h5, m, h6, h7, h8⟩
      · rw [if_pos h5, show ((readI (b.drop p)).2.2 != 0) = true from by simp [h5], cond_true]
        rfl
      · have hn : ¬ (readI (b.drop p)).2.2 ≠ 0 := by simp [h5]
        rw [if_neg hn, h5, h6, Int.toNat_natCast, show W ((p : Int) + (m : Int)) = ((p + m : Nat) : Int) from (W_id (by omega) (by omega)).trans (by omega), show ((0 : Int) != 0) = false from rfl, cond_false, ifp_pos (by simp; omega)]
        exact ih (p + m) (i + 1) _ (by omega) (by simp; omega) (by omega) (by omega)
    · rw [decide_eq_false (by omega), cond_false, bind_e rfl, show x.1.toNat - i.toNat = 0 by omega]
      rfl
theorem intsR_ref (k : Nat) (b : List UInt8) (max : Int) (hb : b.length ≤ 3000000) (hk : b.length + 2 < k) (hm : I64 max) : actorgridref1_ReadIntList k b max = some (readL readI b max) := by
  unfold actorgridref1_ReadIntList readL readLen
  by_cases h : max < 0
  · rw [decide_eq_true h, if_pos h]; rfl
  rw [decide_eq_false h, if_neg h, cond_false, uintR_ref k b (by omega) (by omega), bind_e rfl]
  rcases readU_ok b with ⟨h1, h2, h3, _⟩ | ⟨h1, n, h2, h3, h4⟩
  · rw [if_pos h1, show ((readU b).2.2 != 0) = true from by simp [h1], if_pos h1]; rfl
  unfold I64 at hm
  have hm' : (UInt64.ofInt max).toNat = max.toNat := by rw [ofInt_nat]; omega
  have hn : ¬ (readU b).2.2 ≠ 0 := by simp [h1]
  rw [if_neg hn, hm', h2]
  by_cases h5 : max.toNat < (readU b).1.toNat
  · rw [if_pos h5, decide_eq_true (by omega), h1]; rfl
  rw [if_neg h5, decide_eq_false (by omega)]
  have hl := ints_ref k b hb (by omega) (readU b) (by omega) k n 0 [] (by omega) (by simp) (by simp) (by omega)
  rw [show ((readU b).2.2 != 0) = false from by simp [h1]]
  simp only [cond_false]
  rw [hl, if_neg (by decide), Int.toNat_natCast, Int.toNat_natCast]
  rfl
theorem strs_ref (k : Nat) (b : List UInt8) (hb : b.length ≤ 3000000) (hk : b.length < k) (x : UInt64 × Int × Int) (hu : x.1.toNat ≤ 9223372036854775807) : ∀ (n p : Nat) (i : UInt64) (acc : List (List UInt8)), p ≤ b.length → acc.length ≤ p → i.toNat ≤ x.1.toNat → b.length - p + 1 < n →
    ((actorgridref1_ReadStringList_loop1 k b x n (p : Int) i acc).bind fun o5 => onS o5 (fun x5_0 => some (x5_0.2, x5_0.1, (0 : Int))) (fun r5 => some r5)) = some (readN (fun b => readS b 64) b (x.1.toNat - i.toNat) p acc) := by
  intro n
  induction n with
  | zero => intro p i acc h1 h2 h3 h4; omega
  | succ n ih =>
    intro p i acc h1 h2 h3 h4
    rw [actorgridref1_ReadStringList_loop1]
    by_cases h : i.toNat < x.1.toNat
    · have hd : (b.drop p).length = b.length - p := List.length_drop
      have hs := u64_succ h hu
      rw [decide_eq_true (by omega), cond_true, ifp_pos (by omega), Int.toNat_natCast, ifp_pos h1, readS_ref k _ 64 (by omega) (by omega) (by unfold I64; omega), bind_e rfl, show x.1.toNat - i.toNat = (x.1.toNat - (i + 1).toNat) + 1 by omega]
      show _ = some (if (readS (b.drop p) 64).2.2 ≠ 0 then ([], 0, (readS (b.drop p) 64).2.2) else readN (fun b => readS b 64) b (x.1.toNat - (i + 1).toNat) (p + (readS (b.drop p) 64).2.1.toNat) (acc ++ [(readS (b.drop p) 64).1]))
      rcases rd_str 64 (b.drop p) with h5 | ⟨h5, m, h6, h7, h8⟩
      · dsimp only at h5
        rw [if_pos h5, show ((readS (b.drop p) 64).2.2 != 0) = true from by simp [h5], cond_true]
        rfl
      · dsimp only at h5 h6
        have hn : ¬ (readS (b.drop p) 64).2.2 ≠ 0 := by simp [h5]
        rw [if_neg hn, h5, h6, Int.toNat_natCast, show W ((p : Int) + (m : Int)) = ((p + m : Nat) : Int) from (W_id (by omega) (by omega)).trans (by omega), show ((0 : Int) != 0) = false from rfl, cond_false, ifp_pos (by simp; omega)]
        exact ih (p + m) (i + 1) _ (by omega) (by simp; omega) (by omega) (by omega)
    · rw [decide_eq_false (by omega), cond_false, bind_e rfl, show x.1.toNat - i.toNat = 0 by omega]
      rfl
theorem strsR_ref (k : Nat) (b : List UInt8) (max : Int) (hb : b.length ≤ 3000000) (hk : b.length + 2 < k) (hm : I64 max) : actorgridref1_ReadStringList k b max = some (readL (fun b => readS b 64) b max) := by
  unfold actorgridref1_ReadStringList readL readLen
  by_cases h : max < 0
  · rw [decide_eq_true h, if_pos h]; rfl
  rw [decide_eq_false h, if_neg h, cond_false, uintR_ref k b (by omega) (by omega), bind_e rfl]
  rcases readU_ok b with ⟨h1, h2, h3, _⟩ | ⟨h1, n, h2, h3, h4⟩
  · rw [if_pos h1, show ((readU b).2.2 != 0) = true from by simp [h1], if_pos h1]; rfl
  unfold I64 at hm
  have hm' : (UInt64.ofInt max).toNat = max.toNat := by rw [ofInt_nat]; omega
  have hn : ¬ (readU b).2.2 ≠ 0 := by simp [h1]
  rw [if_neg hn, hm', h2]
  by_cases h5 : max.toNat < (readU b).1.toNat
  · rw [if_pos h5, decide_eq_true (by omega), h1]; rfl
  rw [if_neg h5, decide_eq_false (by omega)]
  have hl := strs_ref k b hb (by omega) (readU b) (by omega) k n 0 [] (by omega) (by simp) (by simp) (by omega)
  rw [show ((readU b).2.2 != 0) = false from by simp [h1]]
  simp only [cond_false]
  rw [hl, if_neg (by decide), Int.toNat_natCast, Int.toNat_natCast]
  rfl
/-! ### written -/
def encS (s : List UInt8) : List UInt8 := enc s.length ++ s
def encI (v : Int) : List UInt8 := enc (zz v).toNat
def encL {α : Type} (f : α → List UInt8) (l : List α) : List UInt8 := enc l.length ++ l.flatMap f
theorem encI_len (v : Int) : (encI v).length ≤ 10 := enc_len10 (zz v)
theorem encS_len {s : List UInt8} (h : s.length ≤ 4000000) : (encS s).length ≤ s.length + 5 := by
  have := enc_len5 h
  unfold encS
  simp
  omega
theorem putString_eq (k : Nat) (hk : 10 ≤ k) (hk2 : k ≤ 100000) (a s : List UInt8) (h : a.length + s.length ≤ 3400000) : wire_putString k a s = some (a ++ encS s) := by
  unfold wire_putString encS
  have := enc_len5 (n := s.length) (by omega)
  rw [put_eq k hk hk2 a _ (by omega), bind_e rfl, ofNat_len (by omega), ifp_pos (by simp; omega), List.append_assoc]
theorem string_ref (k : Nat) (hk : 10 ≤ k) (hk2 : k ≤ 100000) (s : List UInt8) (h : s.length ≤ 3400000) : actorgridref1_String k s = some (encS s) := by
  unfold actorgridref1_String encS
  have := enc_len5 (n := s.length) (by omega)
  rw [uint_eq k hk hk2, bind_e rfl, ofNat_len (by omega), ifp_pos (by omega)]
theorem appendString_eq (k : Nat) (hk : 10 ≤ k) (hk2 : k ≤ 100000) (a s : List UInt8) (h : a.length + s.length ≤ 3000000) : wire_AppendString k a s = some (a ++ encS s) := by
  unfold wire_AppendString
  rw [ifp_pos (by omega), extend_eq k a _ (by omega) (by omega), bind_e rfl, putString_eq k hk hk2 a s (by omega), bind_e rfl]
theorem flatMap_drop {α : Type} [Inhabited α] (f : α → List UInt8) (l : List α) {i : Nat} (h : i < l.length) : (l.drop i).flatMap f = f (l.getD i default) ++ (l.drop (i + 1)).flatMap f := by
  rw [List.drop_eq_getElem_cons h, List.flatMap_cons]
  simp [List.getD, h]
theorem ints_put (k : Nat) (hk : 10 ≤ k) (hk2 : k ≤ 100000) (l : List Int) (hl : ∀ y ∈ l, I64 y) (hL : l.length ≤ 4000000) : ∀ (n i : Nat) (acc : List UInt8), i ≤ l.length → l.length - i < n → acc.length + 10 * (l.length - i) ≤ 3400000 → wire_AppendInts_loop1 k l n i acc = some (acc ++ (l.drop i).flatMap encI) := by
  intro n
  induction n with
  | zero => intro i acc h1 h2; omega
  | succ n ih =>
    intro i acc h1 h2 h3
    rw [wire_AppendInts_loop1]
    by_cases h : i < l.length
    · have hm : I64 (l.getD i default) := hl _ (by simp [List.getD, h])
      have e := encI_len (l.getD i default)
      rw [decide_eq_true (by omega), cond_true, ifp_pos h, putInt_eq k hk hk2 _ _ hm (by omega), bind_e rfl, ifp_pos (by omega), ih (i + 1) _ (by omega) (by omega) (by rw [List.length_append]; unfold encI at e; omega), flatMap_drop encI l h, List.append_assoc]
      rfl
    · rw [decide_eq_false (by omega), cond_false, List.drop_of_length_le (by omega)]
      simp
theorem appendInts_eq (k : Nat) (hk : 10 ≤ k) (hk2 : k ≤ 100000) (a : List UInt8) (l : List Int) (hl : ∀ y ∈ l, I64 y) (hk3 : l.length < k) (h : a.length + 10 * l.length ≤ 3000000) : wire_AppendInts k a l = some (a ++ encL encI l) := by
  unfold wire_AppendInts encL
  have e5 := enc_len5 (n := l.length) (by omega)
  rw [ifp_pos (by omega), ifp_pos (by omega), extend_eq k a _ (by omega) (by omega), bind_e rfl, put_eq k hk hk2 a _ (by omega), bind_e rfl, ofNat_len (by omega), ints_put k hk hk2 l hl (by omega) k 0 _ (by omega) (by omega) (by rw [List.length_append]; omega), bind_e rfl, List.drop_zero, List.append_assoc]
theorem ints_putR (k : Nat) (hk : 10 ≤ k) (hk2 : k ≤ 100000) (l : List Int) (hl : ∀ y ∈ l, I64 y) (hL : l.length ≤ 4000000) : ∀ (n i : Nat) (acc : List UInt8), i ≤ l.length → l.length - i < n → acc.length + 10 * (l.length - i) ≤ 3400000 → actorgridref1_IntList_loop1 k l n i acc = some (acc ++ (l.drop i).flatMap encI) := by
  intro n
  induction n with
  | zero => intro i acc h1 h2; omega
  | succ n ih =>
    intro i acc h1 h2 h3
    rw [actorgridref1_IntList_loop1]
    by_cases h : i < l.length
    · have hm : I64 (l.getD i default) := hl _ (by simp [List.getD, h])
      have e := encI_len (l.getD i default)
      unfold encI at e
      rw [decide_eq_true (by omega), cond_true, ifp_pos h, int_ref k hk hk2 _ hm, bind_e rfl, ifp_pos (by omega), ifp_pos (by omega), ih (i + 1) _ (by omega) (by omega) (by rw [List.length_append]; omega), flatMap_drop encI l h, List.append_assoc]
      rfl
    · rw [decide_eq_false (by omega), cond_false, List.drop_of_length_le (by omega)]
      simp
theorem ints_refW (k : Nat) (hk : 10 ≤ k) (hk2 : k ≤ 100000) (l : List Int) (hl : ∀ y ∈ l, I64 y) (hk3 : l.length < k) (h : 10 * l.length ≤ 3000000) : actorgridref1_IntList k l = some (encL encI l) := by
  unfold actorgridref1_IntList encL
  have e5 := enc_len5 (n := l.length) (by omega)
  rw [uint_eq k hk hk2, bind_e rfl, ofNat_len (by omega), ints_putR k hk hk2 l hl (by omega) k 0 _ (by omega) (by omega) (by omega), bind_e rfl, List.drop_zero]
theorem strs_put (k : Nat) (hk : 10 ≤ k) (hk2 : k ≤ 100000) (l : List (List UInt8)) (hl : ∀ y ∈ l, y.length ≤ 200) (hL : l.length ≤ 4000000) : ∀ (n i : Nat) (acc : List UInt8), i ≤ l.length → l.length - i < n → acc.length + 205 * (l.length - i) ≤ 3400000 → wire_AppendStrings_loop1 k l n i acc = some (acc ++ (l.drop i).flatMap encS) := by
  intro n
  induction n with
  | zero => intro i acc h1 h2; omega
  | succ n ih =>
    intro i acc h1 h2 h3
    rw [wire_AppendStrings_loop1]
    by_cases h : i < l.length
    · have hm : (l.getD i default).length ≤ 200 := hl _ (by simp [List.getD, h])
      have e := encS_len (s := l.getD i default) (by omega)
      rw [decide_eq_true (by omega), cond_true, ifp_pos h, putString_eq k hk hk2 _ _ (by omega), bind_e rfl, ifp_pos (by omega), ih (i + 1) _ (by omega) (by omega) (by rw [List.length_append]; omega), flatMap_drop encS l h, List.append_assoc]
    · rw [decide_eq_false (by omega), cond_false, List.drop_of_length_le (by omega)]
      simp
theorem appendStrings_eq (k : Nat) (hk : 10 ≤ k) (hk2 : k ≤ 100000) (a : List UInt8) (l : List (List UInt8)) (hl : ∀ y ∈ l, y.length ≤ 200) (hk3 : l.length < k) (h : a.length + 205 * l.length ≤ 3000000) : wire_AppendStrings k a l = some (a ++ encL encS l) := by
  unfold wire_AppendStrings encL
  have e5 := enc_len5 (n := l.length) (by omega)
  rw [ifp_pos (by omega), ifp_pos (by omega), extend_eq k a _ (by omega) (by omega), bind_e rfl, put_eq k hk hk2 a _ (by omega), bind_e rfl, ofNat_len (by omega), strs_put k hk hk2 l hl (by omega) k 0 _ (by omega) (by omega) (by rw [List.length_append]; omega), bind_e rfl, List.drop_zero, List.append_assoc]
theorem strs_putR (k : Nat) (hk : 10 ≤ k) (hk2 : k ≤ 100000) (l : List (List UInt8)) (hl : ∀ y ∈ l, y.length ≤ 200) (hL : l.length ≤ 4000000) : ∀ (n i : Nat) (acc : List UInt8), i ≤ l.length → l.length - i < n → acc.length + 205 * (l.length - i) ≤ 3400000 → actorgridref1_StringList_loop1 k l n i acc = some (acc ++ (l.drop i).flatMap encS) := by
  intro n
  induction n with
  | zero => intro i acc h1 h2; omega
  | succ n ih =>
    intro i acc h1 h2 h3
    rw [actorgridref1_StringList_loop1]
    by_cases h : i < l.length
    · have hm : (l.getD i default).length ≤ 200 := hl _ (by simp [List.getD, h])
      have e := encS_len (s := l.getD i default) (by omega)
      rw [decide_eq_true (by omega), cond_true, ifp_pos h, string_ref k hk hk2 _ (by omega), bind_e rfl, ifp_pos (by omega), ifp_pos (by omega), ih (i + 1) _ (by omega) (by omega) (by rw [List.length_append]; omega), flatMap_drop encS l h, List.append_assoc]
    · rw [decide_eq_false (by omega), cond_false, List.drop_of_length_le (by omega)]
      simp
theorem strs_refW (k : Nat) (hk : 10 ≤ k) (hk2 : k ≤ 100000) (l : List (List UInt8)) (hl : ∀ y ∈ l, y.length ≤ 200) (hk3 : l.length < k) (h : 205 * l.length ≤ 3000000) : actorgridref1_StringList k l = some (encL encS l) := by
  unfold actorgridref1_StringList encL
  have e5 := enc_len5 (n := l.length) (by omega)
  rw [uint_eq k hk hk2, bind_e rfl, ofNat_len (by omega), strs_putR k hk hk2 l hl (by omega) k 0 _ (by omega) (by omega) (by omega), bind_e rfl, List.drop_zero]
/-! ### compared -/
theorem sameInts_loop (k : Nat) (l : List Int) (hl : l.length ≤ 4000000) : ∀ (n i : Nat), i ≤ l.length → l.length - i < n → actorgridref1_SameInts_loop1 k l l n i = some (.inl ()) := by
  intro n
  induction n with
  | zero => intro i h1 h2; omega
  | succ n ih =>
    intro i h1 h2
    rw [actorgridref1_SameInts_loop1]
    by_cases h : i < l.length
    · rw [decide_eq_true (by omega), cond_true, ifp_pos h, ifp_pos h, bne_self_eq_false, cond_false, ifp_pos (by omega)]
      exact ih (i + 1) (by omega) (by omega)
    · rw [decide_eq_false (by omega), cond_false]
theorem sameInts_eq (k : Nat) (l : List Int) (hl : l.length ≤ 4000000) (hk : l.length < k) : actorgridref1_SameInts k l l = some true := by
  unfold actorgridref1_SameInts
  rw [bne_self_eq_false, cond_false, sameInts_loop k l hl k 0 (by omega) (by omega), bind_e rfl]
  rfl
theorem sameStrs_loop (k : Nat) (l : List (List UInt8)) (hl : l.length ≤ 4000000) : ∀ (n i : Nat), i ≤ l.length → l.length - i < n → actorgridref1_SameStrings_loop1 k l l n i = some (.inl ()) := by
  intro n
  induction n with
  | zero => intro i h1 h2; omega
  | succ n ih =>
    intro i h1 h2
    rw [actorgridref1_SameStrings_loop1]
    by_cases h : i < l.length
    · rw [decide_eq_true (by omega), cond_true, ifp_pos h, ifp_pos h, decide_eq_true rfl, Bool.not_true, cond_false, ifp_pos (by omega)]
      exact ih (i + 1) (by omega) (by omega)
    · rw [decide_eq_false (by omega), cond_false]
theorem sameStrs_eq (k : Nat) (l : List (List UInt8)) (hl : l.length ≤ 4000000) (hk : l.length < k) : actorgridref1_SameStrings k l l = some true := by
  unfold actorgridref1_SameStrings
  rw [bne_self_eq_false, cond_false, sameStrs_loop k l hl k 0 (by omega) (by omega), bind_e rfl]
  rfl
theorem readN_len {α : Type} (rd : List UInt8 → α × Int × Int) (hr : Rd rd) (b : List UInt8) : ∀ (c p : Nat) (acc : List α), p ≤ b.length → acc.length ≤ p → (readN rd b c p acc).1.length ≤ b.length := by
  intro c
  induction c with
  | zero => intro p acc h1 h2; show acc.length ≤ _; omega
  | succ c ih =>
    intro p acc h1 h2
    unfold readN
    have hd : (b.drop p).length = b.length - p := List.length_drop
    rcases hr (b.drop p) with h5 | ⟨h5, m, h6, h7, h8⟩
    · rw [if_pos h5]; simp
    · have hn : ¬ (rd (b.drop p)).2.2 ≠ 0 := by simp [h5]
      rw [if_neg hn, h6, Int.toNat_natCast]
      exact ih (p + m) _ (by omega) (by simp; omega)
theorem readL_len {α : Type} (rd : List UInt8 → α × Int × Int) (hr : Rd rd) (b : List UInt8) (max : Int) : (readL rd b max).1.length ≤ b.length := by
  unfold readL
  rcases readLen_ok b max with ⟨h1, h2, h3⟩ | ⟨h1, u, n, h2, h3, h4, h5, _⟩
  · rw [if_pos h1]; simp
  · rw [h2]
    dsimp only
    rw [if_neg (by decide), Int.toNat_natCast, Int.toNat_natCast]
    exact readN_len rd hr b u n [] h4 (by simp)
end Md
end Go.Proofs.Ytbnjdkpangmneaa
