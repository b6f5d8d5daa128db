/-
  Layer 1 in plain words: values read. Conditions: sizes.
-/
import Derived.Test.YtbnjdkpangmneaaWirePg
namespace Go.Proofs.Ytbnjdkpangmneaa
set_option linter.unusedVariables false
set_option linter.unusedSimpArgs false
namespace Md
def noV : Value := ⟨0, 0, [], [], []⟩
def rdV (e n : Int) (v : Value) : Value × Int × Int := if e = 0 then (v, W (n + 1), 0) else (noV, 0, e)
def readB (b : List UInt8) : Int × Int × Int := if b.length = 0 then (0, 0, 2) else if 1 < (b.getD 0 default).toNat then (0, 0, 3) else (((b.getD 0 default).toNat : Nat), 1, 0)
def readV (b : List UInt8) : Value × Int × Int :=
  if b.length = 0 then (noV, 0, 2) else
  if (b.getD 0 default).toNat = 0 then (noV, 1, 0) else
  if (b.getD 0 default).toNat = 1 then rdV (readI (b.drop 1)).2.2 (readI (b.drop 1)).2.1 ⟨1, (readI (b.drop 1)).1, [], [], []⟩ else
  if (b.getD 0 default).toNat = 2 then rdV (readB (b.drop 1)).2.2 (readB (b.drop 1)).2.1 ⟨2, (readB (b.drop 1)).1, [], [], []⟩ else
  if (b.getD 0 default).toNat = 3 then rdV (readS (b.drop 1) 64).2.2 (readS (b.drop 1) 64).2.1 ⟨3, 0, (readS (b.drop 1) 64).1, [], []⟩ else
  if (b.getD 0 default).toNat = 4 then rdV (readL readI (b.drop 1) 16).2.2 (readL readI (b.drop 1) 16).2.1 ⟨4, 0, [], (readL readI (b.drop 1) 16).1, []⟩ else
  if (b.getD 0 default).toNat = 5 then rdV (readL (fun b => readS b 64) (b.drop 1) 16).2.2 (readL (fun b => readS b 64) (b.drop 1) 16).2.1 ⟨5, 0, [], [], (readL (fun b => readS b 64) (b.drop 1) 16).1⟩ else (noV, 0, 3)
theorem rd_cond (e n : Int) (v : Value) : (bif (e != 0) then some (noV, 0, e) else some (v, W (n + 1), 0)) = some (rdV e n v) := by
  unfold rdV
  by_cases h : e = 0
  · rw [if_pos h, h]; rfl
  · rw [if_neg h, show (e != 0) = true from by simp [h]]; rfl
theorem bool_eq (k : Nat) (b : List UInt8) : wire_boolean k b = some (readB b) := by
  unfold wire_boolean readB
  by_cases h : b.length = 0
  · rw [if_pos h, show ((b.length : Nat) : Int) = 0 by omega]; rfl
  · rw [if_neg h, show (((b.length : Nat) : Int) == 0) = false from by simp; intro z; exact h (by rw [z]; rfl), cond_false, ifp_pos (by omega)]
    by_cases h2 : 1 < (b.getD 0 default).toNat
    · rw [if_pos h2, decide_eq_true (by omega)]; rfl
    · rw [if_neg h2, decide_eq_false (by omega), cond_false, ifp_pos (by omega)]
theorem beq_n (t c : Nat) : (((t : Nat) : Int) == (c : Int)) = decide (t = c) := by
  by_cases h : t = c
  · rw [h]; simp
  · rw [decide_eq_false h]; simp; omega
theorem readV_w (k : Nat) (b : List UInt8) (hb : b.length ≤ 3000000) (hk : b.length + 2 < k) : wire_Value k b = some (readV b) := by
  unfold wire_Value readV
  by_cases h : b.length = 0
  · rw [if_pos h, show ((b.length : Nat) : Int) = 0 by omega]; rfl
  have hd : (b.drop 1).length = b.length - 1 := by rw [List.length_drop]
  rw [if_neg h, show (((b.length : Nat) : Int) == 0) = false from (beq_n b.length 0).trans (decide_eq_false h), cond_false, ifp_pos (by omega), ifp_pos (by omega)]
  rw [show ((((b.getD 0 default).toNat : Nat) : Int) == 0) = _ from beq_n _ 0, show ((((b.getD 0 default).toNat : Nat) : Int) == 1) = _ from beq_n _ 1, show ((((b.getD 0 default).toNat : Nat) : Int) == 2) = _ from beq_n _ 2, show ((((b.getD 0 default).toNat : Nat) : Int) == 3) = _ from beq_n _ 3, show ((((b.getD 0 default).toNat : Nat) : Int) == 4) = _ from beq_n _ 4, show ((((b.getD 0 default).toNat : Nat) : Int) == 5) = _ from beq_n _ 5]
  generalize (b.getD 0 default).toNat = t
  by_cases h0 : t = 0
  · rw [if_pos h0, decide_eq_true h0, h0]; rfl
  rw [if_neg h0, decide_eq_false h0, cond_false]
  by_cases h1 : t = 1
  · rw [if_pos h1, decide_eq_true h1, cond_true, intR_eq k _ (by omega) (by omega), bind_e rfl, h1]; exact rd_cond _ _ _
  rw [if_neg h1, decide_eq_false h1, cond_false]
  by_cases h2 : t = 2
  · rw [if_pos h2, decide_eq_true h2, cond_true, bool_eq k _, bind_e rfl, h2]; exact rd_cond _ _ _
  rw [if_neg h2, decide_eq_false h2, cond_false]
  by_cases h3 : t = 3
  · rw [if_pos h3, decide_eq_true h3, cond_true, readS_eq k _ _ (by omega) (by omega) ⟨by decide, by decide⟩, bind_e rfl, h3]; exact rd_cond _ _ _
  rw [if_neg h3, decide_eq_false h3, cond_false]
  by_cases h4 : t = 4
  · rw [if_pos h4, decide_eq_true h4, cond_true, intsR_eq k _ _ (by omega) (by omega) ⟨by decide, by decide⟩, bind_e rfl, h4]; exact rd_cond _ _ _
  rw [if_neg h4, decide_eq_false h4, cond_false]
  by_cases h5 : t = 5
  · rw [if_pos h5, decide_eq_true h5, cond_true, strsR_eq k _ _ (by omega) (by omega) ⟨by decide, by decide⟩, bind_e rfl, h5]; exact rd_cond _ _ _
  rw [if_neg h5, decide_eq_false h5, cond_false]
  rfl
theorem readB_ref (b : List UInt8) (h : b.length ≠ 0) : (bif (decide (((b.length : Nat) : Int) < 2)) then (some (noV, (0 : Int), (2 : Int))) else (ifp (1 < b.length) <| bif (decide ((((b.getD 1 default)).toNat : Int) > 1)) then (some (noV, 0, 3)) else (ifp (1 < b.length) <| some ((⟨2, (((b.getD 1 default).toNat : Nat) : Int), ([] : List UInt8), ([] : List Int), ([] : List (List UInt8))⟩ : Value), 2, 0)))) = some (rdV (readB (b.drop 1)).2.2 (readB (b.drop 1)).2.1 ⟨2, (readB (b.drop 1)).1, [], [], []⟩) := by
  have hd : (b.drop 1).length = b.length - 1 := by rw [List.length_drop]
  have hg : (b.drop 1).getD 0 default = b.getD 1 default := by cases b with
    | nil => rfl
    | cons x l => cases l <;> rfl
  by_cases h1 : b.length < 2
  · have e : readB (b.drop 1) = (0, 0, 2) := by unfold readB; rw [if_pos (by omega)]
    rw [decide_eq_true (by omega), cond_true, e]; rfl
  · rw [decide_eq_false (by omega), cond_false, ifp_pos (by omega)]
    by_cases h2 : 1 < (b.getD 1 default).toNat
    · have e : readB (b.drop 1) = (0, 0, 3) := by unfold readB; rw [if_neg (by omega), hg, if_pos h2]
      rw [e, decide_eq_true (by omega)]; rfl
    · have e : readB (b.drop 1) = ((((b.getD 1 default).toNat : Nat) : Int), 1, 0) := by unfold readB; rw [if_neg (by omega), hg, if_neg h2]
      rw [e, decide_eq_false (by omega), cond_false, ifp_pos (by omega)]; rfl
theorem readV_r (k : Nat) (b : List UInt8) (hb : b.length ≤ 3000000) (hk : b.length + 2 < k) : actorgridref1_ReadValue k b = some (readV b) := by
  unfold actorgridref1_ReadValue readV
  by_cases h : b.length = 0
  · rw [if_pos h, show ((b.length : Nat) : Int) = 0 by omega]; rfl
  have hd : (b.drop 1).length = b.length - 1 := by rw [List.length_drop]
  have hB := readB_ref b h
  rw [if_neg h, show (((b.length : Nat) : Int) == 0) = false from (beq_n b.length 0).trans (decide_eq_false h), cond_false, ifp_pos (by omega)]
  rw [show ((((b.getD 0 default).toNat : Nat) : Int) == 0) = _ from beq_n _ 0, show ((((b.getD 0 default).toNat : Nat) : Int) == 1) = _ from beq_n _ 1, show ((((b.getD 0 default).toNat : Nat) : Int) == 2) = _ from beq_n _ 2, show ((((b.getD 0 default).toNat : Nat) : Int) == 3) = _ from beq_n _ 3, show ((((b.getD 0 default).toNat : Nat) : Int) == 4) = _ from beq_n _ 4, show ((((b.getD 0 default).toNat : Nat) : Int) == 5) = _ from beq_n _ 5]
  generalize (b.getD 0 default).toNat = t
  by_cases h0 : t = 0
  · rw [if_pos h0, decide_eq_true h0, h0]; rfl
  rw [if_neg h0, decide_eq_false h0, cond_false]
  by_cases h1 : t = 1
  · rw [if_pos h1, decide_eq_true h1, cond_true, ifp_pos (by omega), intR_ref k _ (by omega) (by omega), bind_e rfl, h1]; exact rd_cond _ _ _
  rw [if_neg h1, decide_eq_false h1, cond_false]
  by_cases h2 : t = 2
  · rw [if_pos h2, decide_eq_true h2, cond_true, h2]; exact hB
  rw [if_neg h2, decide_eq_false h2, cond_false]
  by_cases h3 : t = 3
  · rw [if_pos h3, decide_eq_true h3, cond_true, ifp_pos (by omega), readS_ref k _ _ (by omega) (by omega) ⟨by decide, by decide⟩, bind_e rfl, h3]; exact rd_cond _ _ _
  rw [if_neg h3, decide_eq_false h3, cond_false]
  by_cases h4 : t = 4
  · rw [if_pos h4, decide_eq_true h4, cond_true, ifp_pos (by omega), intsR_ref k _ _ (by omega) (by omega) ⟨by decide, by decide⟩, bind_e rfl, h4]; exact rd_cond _ _ _
  rw [if_neg h4, decide_eq_false h4, cond_false]
  by_cases h5 : t = 5
  · rw [if_pos h5, decide_eq_true h5, cond_true, ifp_pos (by omega), strsR_ref k _ _ (by omega) (by omega) ⟨by decide, by decide⟩, bind_e rfl, h5]; exact rd_cond _ _ _
  rw [if_neg h5, decide_eq_false h5, cond_false]
  rfl
theorem readV_len (b : List UInt8) : (readV b).1.I.length ≤ b.length ∧ (readV b).1.L.length ≤ b.length := by
  have hd : (b.drop 1).length = b.length - 1 := by rw [List.length_drop]
  have e1 := readL_len readI rd_int (b.drop 1) 16
  have e2 := readL_len _ (rd_str 64) (b.drop 1) 16
  unfold readV rdV
  repeat' split
  all_goals simp only [noV, List.length_nil]
  all_goals omega
/-! ### small -/
theorem small_loop (k : Nat) (v : Value) (hl : v.L.length ≤ 4000000) : ∀ (n i : Nat), i ≤ v.L.length → v.L.length - i < n →
    ((actorgridlaw1_Small_loop1 k v n i).bind fun o4 => onS o4 (fun x4_0 => some true) (fun r4 => some r4)) = some (decide (∀ y ∈ v.L.drop i, y.length ≤ 200)) := by
  intro n
  induction n with
  | zero => intro i h1 h2; omega
  | succ n ih =>
    intro i h1 h2
    rw [actorgridlaw1_Small_loop1]
    by_cases h : i < v.L.length
    · have he : v.L.getD i default = v.L[i] := by simp [List.getD, h]
      rw [decide_eq_true (by omega), cond_true, ifp_pos h, List.drop_eq_getElem_cons h, he]
      by_cases h3 : ((v.L[i].length : Nat) : Int) > 200
      · rw [decide_eq_true h3]
        show some false = _
        rw [decide_eq_false (by intro q; have := q _ (List.mem_cons_self ..); omega)]
      · rw [decide_eq_false h3, cond_false, ifp_pos (by omega), ih (i + 1) (by omega) (by omega)]
        congr 1
        rw [decide_eq_decide]
        exact ⟨fun q y hy => (List.mem_cons.1 hy).elim (fun e => by rw [e]; omega) (q y), fun q y hy => q y (List.mem_cons_of_mem _ hy)⟩
    · rw [decide_eq_false (by omega), cond_false, List.drop_of_length_le (by omega)]
      simp
      rfl
def smallV (v : Value) : Prop := v.S.length ≤ 500 ∧ v.I.length ≤ 100 ∧ v.L.length ≤ 100 ∧ ∀ y ∈ v.L, y.length ≤ 200
theorem small_eq (k : Nat) (hk : 200 ≤ k) (v : Value) : actorgridlaw1_Small k v = some false ∨ (actorgridlaw1_Small k v = some true ∧ smallV v) := by
  unfold actorgridlaw1_Small
  by_cases h1 : ((v.S.length : Nat) : Int) > 500
  · rw [decide_eq_true h1]; exact .inl rfl
  by_cases h2 : ((v.I.length : Nat) : Int) > 100
  · rw [decide_eq_true h2, Bool.or_true]; exact .inl rfl
  by_cases h3 : ((v.L.length : Nat) : Int) > 100
  · rw [decide_eq_true h3, Bool.or_true]; exact .inl rfl
  rw [decide_eq_false h1, decide_eq_false h2, decide_eq_false h3, Bool.or_false, Bool.or_false, cond_false, small_loop k v (by omega) k 0 (by omega) (by omega), List.drop_zero]
  by_cases h4 : ∀ y ∈ v.L, y.length ≤ 200
  · rw [decide_eq_true h4]; exact .inr ⟨rfl, by omega, by omega, by omega, h4⟩
  · rw [decide_eq_false h4]; exact .inl rfl
end Md
end Go.Proofs.Ytbnjdkpangmneaa
