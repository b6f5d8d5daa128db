/-
  Layer 27 in plain words: frames one behind the other, the walk over them, the scan. Conditions: sizes.
-/
import Derived.Test.YtkcfkcgclljncaaJwP
import Derived.Test.YtkcfkcgclljncaaJdP
import Derived.Test.YtkcfkcgclljncaaJourLM
namespace Go.Proofs.Ytkcfkcgclljncaa
set_option linter.unusedVariables false
set_option linter.unusedSimpArgs false
namespace Md
theorem frame_len (kind : UInt8) (body : List UInt8) : (frame kind body).length = 3 + (enc body.length).length + body.length + 4 := by
  simp only [frame, List.length_append, low_len, List.length_cons, List.length_nil]
theorem open_pos (b : List UInt8) (hb : b.length ≤ 4000000) (h : (openF b).2.2.2 = 0) : ∃ m : Nat, (openF b).2.2.1 = (m : Int) ∧ 0 < m ∧ m ≤ b.length ∧ 1 ≤ (openF b).1 ∧ (openF b).1 ≤ 255 ∧ (openF b).2.1.length ≤ b.length := by
  obtain ⟨n, h1, h2, h3, h4⟩ := can_open b hb h
  unfold sealF at h3
  split at h3
  · exact absurd (congrArg Prod.snd h3) (by show ¬ (1 : Int) = 0; decide)
  · rename_i hc
    have h5 := congrArg List.length (congrArg Prod.fst h3)
    simp only [frame_len, List.length_take] at h5
    exact ⟨n, h1, by omega, h2, by omega, by omega, h4⟩
/-- The frames at the beginning of b, each with its length. -/
def frs : Nat → List UInt8 → List (JournalRecord × Nat)
  | 0, _ => []
  | n + 1, b => if (openF b).2.2.2 ≠ 0 then [] else (⟨(openF b).1, (openF b).2.1⟩, (openF b).2.2.1.toNat) :: frs n (b.drop (openF b).2.2.1.toNat)
def offs : Nat → List (JournalRecord × Nat) → List (Nat × JournalRecord)
  | _, [] => []
  | p, x :: t => (p, x.1) :: offs (p + x.2) t
def total : List (JournalRecord × Nat) → Nat
  | [] => 0
  | x :: t => x.2 + total t
def castW (l : List (Nat × JournalRecord)) : List (Int × JournalRecord) := l.map fun x => ((x.1 : Int), x.2)
theorem total_le : ∀ (n : Nat) (b : List UInt8), b.length ≤ 3000000 → total (frs n b) ≤ b.length
  | 0, _, _ => Nat.zero_le _
  | n + 1, b, hb => by
    unfold frs
    split
    · exact Nat.zero_le _
    · rename_i h
      obtain ⟨m, h1, h2, h3, _⟩ := open_pos b (by omega) (by omega)
      have := total_le n (b.drop (openF b).2.2.1.toNat) (by rw [List.length_drop]; omega)
      rw [List.length_drop] at this
      simp only [total]
      omega
theorem frs_len : ∀ (n : Nat) (b : List UInt8), b.length ≤ 3000000 → (frs n b).length ≤ b.length
  | 0, _, _ => Nat.zero_le _
  | n + 1, b, hb => by
    unfold frs
    split
    · exact Nat.zero_le _
    · rename_i h
      obtain ⟨m, h1, h2, h3, _⟩ := open_pos b (by omega) (by omega)
      have := frs_len n (b.drop (openF b).2.2.1.toNat) (by rw [List.length_drop]; omega)
      rw [List.length_drop] at this
      simp only [List.length_cons]
      omega
theorem frs_ok : ∀ (n : Nat) (b : List UInt8), b.length ≤ 3000000 → ∀ x, x ∈ frs n b → 1 ≤ x.1.Kind ∧ x.1.Kind ≤ 255 ∧ x.1.Body.length ≤ b.length
  | 0, _, _, _, h => by cases h
  | n + 1, b, hb, x, h => by
    unfold frs at h
    split at h
    · cases h
    · rename_i h0
      obtain ⟨m, h1, h2, h3, h4, h5, h6⟩ := open_pos b (by omega) (by omega)
      rcases List.mem_cons.1 h with rfl | h
      · exact ⟨h4, h5, h6⟩
      · have := frs_ok n _ (by rw [List.length_drop]; omega) x h
        rw [List.length_drop] at this
        exact ⟨this.1, this.2.1, by omega⟩
theorem walk_eq (k : Nat) (b : List UInt8) (hb : b.length ≤ 3000000) (hk : b.length + 20 ≤ k) : ∀ (n p : Nat), p ≤ b.length → b.length - p < n → journal_Walk_1_loop k b n (p : Int) = some (castW (offs p (frs n (b.drop p))))
  | 0, p, _, h => by omega
  | n + 1, p, hp, h => by
    have hl : (b.drop p).length = b.length - p := List.length_drop
    unfold journal_Walk_1_loop frs
    rw [ifp_pos (by omega), Int.toNat_natCast, ifp_pos hp, open_eq k _ (by omega) (by omega), bind_e rfl]
    by_cases h0 : (openF (b.drop p)).2.2.2 = 0
    · obtain ⟨m, h1, h2, h3, _⟩ := open_pos (b.drop p) (by omega) h0
      rw [show ((openF (b.drop p)).2.2.2 != 0) = false from by simp [h0], cond_false, if_neg (by simp [h0]), h1, W_id (by omega) (by omega)]
      have := walk_eq k b hb hk n (p + m) (by omega) (by omega)
      rw [show ((p : Int) + (m : Int)) = ((p + m : Nat) : Int) by omega, this, bind_e rfl, Int.toNat_natCast, List.drop_drop]
      rfl
    · rw [show ((openF (b.drop p)).2.2.2 != 0) = true from by simp [h0], cond_true, if_pos h0]
      rfl
theorem walk1_eq (k : Nat) (b : List UInt8) (hb : b.length ≤ 3000000) (hk : b.length + 20 ≤ k) : journal_Walk_1 k b = some (castW (offs 0 (frs k b))) := by
  have := walk_eq k b hb hk k 0 (Nat.zero_le _) (by omega)
  rw [List.drop_zero] at this
  exact this
theorem scan_loop (k : Nat) (b : List UInt8) (hb : b.length ≤ 3000000) (hk : b.length + 20 ≤ k) : ∀ (n p : Nat) (e : Int) (acc : List JournalRecord), p ≤ b.length → acc.length + b.length - p ≤ 3900000 → ((frs n (b.drop p)) = [] → e = (p : Int)) →
    journal_Scan_loop1 k b (castW (offs p (frs n (b.drop p)))) e acc = some (((p + total (frs n (b.drop p)) : Nat) : Int), acc ++ (frs n (b.drop p)).map (·.1))
  | 0, p, e, acc, _, _, he => by rw [he rfl]; simp [frs, offs, castW, journal_Scan_loop1, total]
  | n + 1, p, e, acc, hp, ha, he => by
    have hl : (b.drop p).length = b.length - p := List.length_drop
    by_cases h0 : (openF (b.drop p)).2.2.2 = 0
    · obtain ⟨m, h1, h2, h3, _⟩ := open_pos (b.drop p) (by omega) h0
      have hf : frs (n + 1) (b.drop p) = (⟨(openF (b.drop p)).1, (openF (b.drop p)).2.1⟩, m) :: frs n (b.drop (p + m)) := by
        rw [frs, if_neg (by simp [h0]), h1, Int.toNat_natCast, List.drop_drop]
      rw [hf]
      have hrec := scan_loop k b hb hk n (p + m) ((p + m : Nat) : Int) (acc ++ [⟨(openF (b.drop p)).1, (openF (b.drop p)).2.1⟩]) (by omega) (by simp; omega) (fun _ => rfl)
      show journal_Scan_loop1 k b (((p : Int), _) :: castW (offs (p + m) (frs n (b.drop (p + m))))) e acc = _
      rw [journal_Scan_loop1]
      dsimp only
      rw [ifp_pos (by omega), Int.toNat_natCast, ifp_pos hp, open_eq k _ (by omega) (by omega), bind_e rfl, ifp_pos (by simp; omega), h1, W_id (by omega) (by omega), show ((p : Int) + (m : Int)) = ((p + m : Nat) : Int) by omega, hrec]
      simp [total, Nat.add_assoc]
    · have hf : frs (n + 1) (b.drop p) = [] := by rw [frs, if_pos h0]
      rw [hf] at he ⊢
      rw [he rfl]
      simp [offs, castW, journal_Scan_loop1, total]
theorem scan_eq (k : Nat) (b : List UInt8) (hb : b.length ≤ 3000000) (hk : b.length + 20 ≤ k) : journal_Scan k b = some ((frs k b).map (·.1), (total (frs k b) : Int)) := by
  unfold journal_Scan
  have := scan_loop k b hb hk k 0 0 [] (Nat.zero_le _) (by simp; omega) (fun _ => rfl)
  rw [List.drop_zero] at this
  rw [walk1_eq k b hb hk, bind_e rfl, this, bind_e rfl]
  simp
theorem scan_refl (k : Nat) (b : List UInt8) (hb : b.length ≤ 3000000) (hk : b.length + 20 ≤ k) : ∀ (n p : Nat) (acc : List JournalRecord) (os : List Int), p ≤ b.length → b.length - p < n → acc.length + b.length - p ≤ 3900000 → os.length + b.length - p ≤ 3900000 →
    actorgridref26_Scan_loop1 k b n (p : Int) acc os = some (acc ++ (frs n (b.drop p)).map (·.1), os ++ (offs p (frs n (b.drop p))).map (fun x => (x.1 : Int)), ((p + total (frs n (b.drop p)) : Nat) : Int))
  | 0, p, _, _, _, h, _, _ => by omega
  | n + 1, p, acc, os, hp, h, ha, ho => by
    have hl : (b.drop p).length = b.length - p := List.length_drop
    unfold actorgridref26_Scan_loop1
    rw [ifp_pos (by omega), Int.toNat_natCast, ifp_pos hp, open_ref k _ (by omega) (by omega), bind_e rfl]
    by_cases h0 : (openF (b.drop p)).2.2.2 = 0
    · obtain ⟨m, h1, h2, h3, _, _, h6⟩ := open_pos (b.drop p) (by omega) h0
      have hf : frs (n + 1) (b.drop p) = (⟨(openF (b.drop p)).1, (openF (b.drop p)).2.1⟩, m) :: frs n (b.drop (p + m)) := by
        rw [frs, if_neg (by simp [h0]), h1, Int.toNat_natCast, List.drop_drop]
      have hrec := scan_refl k b hb hk n (p + m) (acc ++ [⟨(openF (b.drop p)).1, (openF (b.drop p)).2.1⟩]) (os ++ [(p : Int)]) (by omega) (by omega) (by simp; omega) (by simp; omega)
      rw [hf, show ((openF (b.drop p)).2.2.2 != 0) = false from by simp [h0], cond_false, ifp_pos (by simp; omega), ifp_pos (by simp; omega), ifp_pos (by simp; omega), h1, W_id (by omega) (by omega), show ((p : Int) + (m : Int)) = ((p + m : Nat) : Int) by omega, List.nil_append, hrec]
      simp [total, offs, Nat.add_assoc]
    · have hf : frs (n + 1) (b.drop p) = [] := by rw [frs, if_pos h0]
      rw [hf, show ((openF (b.drop p)).2.2.2 != 0) = true from by simp [h0], cond_true]
      simp [offs, total]
theorem scan_ref (k : Nat) (b : List UInt8) (hb : b.length ≤ 3000000) (hk : b.length + 20 ≤ k) : actorgridref26_Scan k b = some ((frs k b).map (·.1), (offs 0 (frs k b)).map (fun x => (x.1 : Int)), (total (frs k b) : Int)) := by
  unfold actorgridref26_Scan
  have := scan_refl k b hb hk k 0 [] [] (Nat.zero_le _) (by omega) (by simp; omega) (by simp; omega)
  rw [List.drop_zero] at this
  rw [show (0 : Int) = ((0 : Nat) : Int) from rfl, this, bind_e rfl]
  simp
theorem same_loop (k : Nat) (a : List JournalRecord) (ha : a.length ≤ 4000000) : ∀ (n i : Nat), i ≤ a.length → a.length - i < n → actorgridref26_SameRecords_loop1 k a a n i = some (Sum.inl ())
  | 0, i, _, h => by omega
  | n + 1, i, hi, h => by
    unfold actorgridref26_SameRecords_loop1
    by_cases hl : i < a.length
    · rw [decide_eq_true (by omega), cond_true, ifp_pos hl, ifp_pos hl]
      have := same_loop k a ha n (i + 1) (by omega) (by omega)
      rw [show ((a.getD i default).Kind != (a.getD i default).Kind) = false from by simp, cond_false, ifp_pos hl, ifp_pos hl, decide_eq_true rfl, ifp_pos (by omega), this]
      rfl
    · rw [decide_eq_false (by omega)]; rfl
theorem sameR_eq (k : Nat) (a : List JournalRecord) (ha : a.length ≤ 4000000) (hk : a.length < k) : actorgridref26_SameRecords k a a = some true := by
  unfold actorgridref26_SameRecords
  rw [show (((a.length : Nat) : Int) != ((a.length : Nat) : Int)) = false from by simp, cond_false, same_loop k a ha k 0 (Nat.zero_le _) (by omega), bind_e rfl]
  rfl
end Md
end Go.Proofs.Ytkcfkcgclljncaa
