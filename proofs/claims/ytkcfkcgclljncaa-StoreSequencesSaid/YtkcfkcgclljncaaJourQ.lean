/-
  Layer 27 in plain words: frames of a disk, Append, Recover, of the program and of its reference; disks that crash. Conditions: sizes.
-/
import Derived.Test.YtkcfkcgclljncaaJwP
import Derived.Test.YtkcfkcgclljncaaJdP
import Derived.Test.YtkcfkcgclljncaaJourBM
namespace Go.Proofs.Ytkcfkcgclljncaa
set_option linter.unusedVariables false
set_option linter.unusedSimpArgs false
namespace Md
theorem frame_len (kind : UInt8) (body : List UInt8) : (frame kind body).length = 3 + (enc body.length).length + body.length + 4 := by
  simp only [frame, List.length_append, low_len, List.length_cons, List.length_nil]
theorem open_pos (b : List UInt8) (hb : b.length ≤ 4000000) (h : (openF b).2.2.2 = 0) : ∃ m : Nat, (openF b).2.2.1 = (m : Int) ∧ 0 < m ∧ m ≤ b.length ∧ 1 ≤ (openF b).1 ∧ (openF b).1 ≤ 255 ∧ (openF b).2.1.length ≤ b.length := by
  obtain ⟨n, h1, h2, h3, h4⟩ := can_open b hb h
  unfold sealF at h3
  split at h3
  · exact absurd (congrArg Prod.snd h3) (by show ¬ (1 : Int) = 0; decide)
  · rename_i hc
    have h5 := congrArg List.length (congrArg Prod.fst h3)
    simp only [frame_len, List.length_take] at h5
    exact ⟨n, h1, by omega, h2, by omega, by omega, h4⟩
/-- The frames at the beginning of b, each with its length. -/
def frs : Nat → List UInt8 → List (JournalRecord × Nat)
  | 0, _ => []
  | n + 1, b => if (openF b).2.2.2 ≠ 0 then [] else (⟨(openF b).1, (openF b).2.1⟩, (openF b).2.2.1.toNat) :: frs n (b.drop (openF b).2.2.1.toNat)
def offs : Nat → List (JournalRecord × Nat) → List (Nat × JournalRecord)
  | _, [] => []
  | p, x :: t => (p, x.1) :: offs (p + x.2) t
def total : List (JournalRecord × Nat) → Nat
  | [] => 0
  | x :: t => x.2 + total t
def castW (l : List (Nat × JournalRecord)) : List (Int × JournalRecord) := l.map fun x => ((x.1 : Int), x.2)
theorem frs_len : ∀ (n : Nat) (b : List UInt8), b.length ≤ 3000000 → (frs n b).length ≤ b.length
  | 0, _, _ => Nat.zero_le _
  | n + 1, b, hb => by
    unfold frs
    split
    · exact Nat.zero_le _
    · rename_i h
      obtain ⟨m, h1, h2, h3, _⟩ := open_pos b (by omega) (by omega)
      have := frs_len n (b.drop (openF b).2.2.1.toNat) (by rw [List.length_drop]; omega)
      rw [List.length_drop] at this
      simp only [List.length_cons]
      omega
theorem frs_ok : ∀ (n : Nat) (b : List UInt8), b.length ≤ 3000000 → ∀ x, x ∈ frs n b → 1 ≤ x.1.Kind ∧ x.1.Kind ≤ 255 ∧ x.1.Body.length ≤ b.length
  | 0, _, _, _, h => by cases h
  | n + 1, b, hb, x, h => by
    unfold frs at h
    split at h
    · cases h
    · rename_i h0
      obtain ⟨m, h1, h2, h3, h4, h5, h6⟩ := open_pos b (by omega) (by omega)
      rcases List.mem_cons.1 h with rfl | h
      · exact ⟨h4, h5, h6⟩
      · have := frs_ok n _ (by rw [List.length_drop]; omega) x h
        rw [List.length_drop] at this
        exact ⟨this.1, this.2.1, by omega⟩
theorem walk_eq (k : Nat) (b : List UInt8) (hb : b.length ≤ 3000000) (hk : b.length + 20 ≤ k) : ∀ (n p : Nat), p ≤ b.length → b.length - p < n → journal_Walk_1_loop k b n (p : Int) = some (castW (offs p (frs n (b.drop p))))
  | 0, p, _, h => by omega
  | n + 1, p, hp, h => by
    have hl : (b.drop p).length = b.length - p := List.length_drop
    unfold journal_Walk_1_loop frs
    rw [ifp_pos (by omega), Int.toNat_natCast, ifp_pos hp, open_eq k _ (by omega) (by omega), bind_e rfl]
    by_cases h0 : (openF (b.drop p)).2.2.2 = 0
    · obtain ⟨m, h1, h2, h3, _⟩ := open_pos (b.drop p) (by omega) h0
      rw [show ((openF (b.drop p)).2.2.2 != 0) = false from by simp [h0], cond_false, if_neg (by simp [h0]), h1, W_id (by omega) (by omega)]
      have := walk_eq k b hb hk n (p + m) (by omega) (by omega)
      rw [show ((p : Int) + (m : Int)) = ((p + m : Nat) : Int) by omega, this, bind_e rfl, Int.toNat_natCast, List.drop_drop]
      rfl
    · rw [show ((openF (b.drop p)).2.2.2 != 0) = true from by simp [h0], cond_true, if_pos h0]
      rfl
theorem walk1_eq (k : Nat) (b : List UInt8) (hb : b.length ≤ 3000000) (hk : b.length + 20 ≤ k) : journal_Walk_1 k b = some (castW (offs 0 (frs k b))) := by
  have := walk_eq k b hb hk k 0 (Nat.zero_le _) (by omega)
  rw [List.drop_zero] at this
  exact this
theorem scan_loop (k : Nat) (b : List UInt8) (hb : b.length ≤ 3000000) (hk : b.length + 20 ≤ k) : ∀ (n p : Nat) (e : Int) (acc : List JournalRecord), p ≤ b.length → acc.length + b.length - p ≤ 3900000 → ((frs n (b.drop p)) = [] → e = (p : Int)) →
    journal_Scan_loop1 k b (castW (offs p (frs n (b.drop p)))) e acc = some (((p + total (frs n (b.drop p)) : Nat) : Int), acc ++ (frs n (b.drop p)).map (·.1))
  | 0, p, e, acc, _, _, he => by rw [he rfl]; simp [frs, offs, castW, journal_Scan_loop1, total]
  | n + 1, p, e, acc, hp, ha, he => by
    have hl : (b.drop p).length = b.length - p := List.length_drop
    by_cases h0 : (openF (b.drop p)).2.2.2 = 0
    · obtain ⟨m, h1, h2, h3, _⟩ := open_pos (b.drop p) (by omega) h0
      have hf : frs (n + 1) (b.drop p) = (⟨(openF (b.drop p)).1, (openF (b.drop p)).2.1⟩, m) :: frs n (b.drop (p + m)) := by
        rw [frs, if_neg (by simp [h0]), h1, Int.toNat_natCast, List.drop_drop]
      rw [hf]
      have hrec := scan_loop k b hb hk n (p + m) ((p + m : Nat) : Int) (acc ++ [⟨(openF (b.drop p)).1, (openF (b.drop p)).2.1⟩]) (by omega) (by simp; omega) (fun _ => rfl)
      show journal_Scan_loop1 k b (((p : Int), _) :: castW (offs (p + m) (frs n (b.drop (p + m))))) e acc = _
      rw [journal_Scan_loop1]
      dsimp only
      rw [ifp_pos (by omega), Int.toNat_natCast, ifp_pos hp, open_eq k _ (by omega) (by omega), bind_e rfl, ifp_pos (by simp; omega), h1, W_id (by omega) (by omega), show ((p : Int) + (m : Int)) = ((p + m : Nat) : Int) by omega, hrec]
      simp [total, Nat.add_assoc]
    · have hf : frs (n + 1) (b.drop p) = [] := by rw [frs, if_pos h0]
      rw [hf] at he ⊢
      rw [he rfl]
      simp [offs, castW, journal_Scan_loop1, total]
theorem scan_eq (k : Nat) (b : List UInt8) (hb : b.length ≤ 3000000) (hk : b.length + 20 ≤ k) : journal_Scan k b = some ((frs k b).map (·.1), (total (frs k b) : Int)) := by
  unfold journal_Scan
  have := scan_loop k b hb hk k 0 0 [] (Nat.zero_le _) (by simp; omega) (fun _ => rfl)
  rw [List.drop_zero] at this
  rw [walk1_eq k b hb hk, bind_e rfl, this, bind_e rfl]
  simp
theorem scan_refl (k : Nat) (b : List UInt8) (hb : b.length ≤ 3000000) (hk : b.length + 20 ≤ k) : ∀ (n p : Nat) (acc : List JournalRecord) (os : List Int), p ≤ b.length → b.length - p < n → acc.length + b.length - p ≤ 3900000 → os.length + b.length - p ≤ 3900000 →
    actorgridref26_Scan_loop1 k b n (p : Int) acc os = some (acc ++ (frs n (b.drop p)).map (·.1), os ++ (offs p (frs n (b.drop p))).map (fun x => (x.1 : Int)), ((p + total (frs n (b.drop p)) : Nat) : Int))
  | 0, p, _, _, _, h, _, _ => by omega
  | n + 1, p, acc, os, hp, h, ha, ho => by
    have hl : (b.drop p).length = b.length - p := List.length_drop
    unfold actorgridref26_Scan_loop1
    rw [ifp_pos (by omega), Int.toNat_natCast, ifp_pos hp, open_ref k _ (by omega) (by omega), bind_e rfl]
    by_cases h0 : (openF (b.drop p)).2.2.2 = 0
    · obtain ⟨m, h1, h2, h3, _, _, h6⟩ := open_pos (b.drop p) (by omega) h0
      have hf : frs (n + 1) (b.drop p) = (⟨(openF (b.drop p)).1, (openF (b.drop p)).2.1⟩, m) :: frs n (b.drop (p + m)) := by
        rw [frs, if_neg (by simp [h0]), h1, Int.toNat_natCast, List.drop_drop]
      have hrec := scan_refl k b hb hk n (p + m) (acc ++ [⟨(openF (b.drop p)).1, (openF (b.drop p)).2.1⟩]) (os ++ [(p : Int)]) (by omega) (by omega) (by simp; omega) (by simp; omega)
      rw [hf, show ((openF (b.drop p)).2.2.2 != 0) = false from by simp [h0], cond_false, ifp_pos (by simp; omega), ifp_pos (by simp; omega), ifp_pos (by simp; omega), h1, W_id (by omega) (by omega), show ((p : Int) + (m : Int)) = ((p + m : Nat) : Int) by omega, List.nil_append, hrec]
      simp [total, offs, Nat.add_assoc]
    · have hf : frs (n + 1) (b.drop p) = [] := by rw [frs, if_pos h0]
      rw [hf, show ((openF (b.drop p)).2.2.2 != 0) = true from by simp [h0], cond_true]
      simp [offs, total]
theorem scan_ref (k : Nat) (b : List UInt8) (hb : b.length ≤ 3000000) (hk : b.length + 20 ≤ k) : actorgridref26_Scan k b = some ((frs k b).map (·.1), (offs 0 (frs k b)).map (fun x => (x.1 : Int)), (total (frs k b) : Int)) := by
  unfold actorgridref26_Scan
  have := scan_refl k b hb hk k 0 [] [] (Nat.zero_le _) (by omega) (by simp; omega) (by simp; omega)
  rw [List.drop_zero] at this
  rw [show (0 : Int) = ((0 : Nat) : Int) from rfl, this, bind_e rfl]
  simp
def badR (r : JournalRecord) : Prop := r.Kind < 1 ∨ 255 < r.Kind ∨ 16777216 < r.Body.length
instance (r : JournalRecord) : Decidable (badR r) := by unfold badR; infer_instance
def frameR (r : JournalRecord) : List UInt8 := frame (.ofInt r.Kind) r.Body
def appendR (d : Disk) (r : JournalRecord) : Disk × Int := if valid d = false ∨ badR r then (zeroD, 1) else appendD d (frameR r)
theorem validR_eq (r : JournalRecord) : (((decide (r.Kind ≥ 1)) && (decide (r.Kind ≤ 255))) && (decide (((r.Body.length : Nat) : Int) ≤ 16777216))) = decide (¬ badR r) := by
  rw [Bool.eq_iff_iff]
  unfold badR
  simp
  omega
theorem frameR_len (r : JournalRecord) (h : r.Body.length ≤ 4000000) : (frameR r).length ≤ r.Body.length + 12 ∧ 0 < (frameR r).length := by
  unfold frameR
  rw [frame_len]
  have := enc_len5 h
  omega
theorem jappend_eq (k : Nat) (d : Disk) (r : JournalRecord) (hb : r.Body.length ≤ 1400000) (hk : r.Body.length + 20 ≤ k) (hk2 : k ≤ 100000) (hd : d.Data.length ≤ 1500000) (hw : d.Writes ≤ 9223372036854775807) : journal_Append k d r = some (appendR d r) := by
  unfold journal_Append appendR journal_ValidRecord
  rw [valid_eq, bind_e rfl, validR_eq]
  cases hv : valid d with
  | false => rw [if_pos (.inl rfl)]; rfl
  | true =>
    by_cases hr : badR r
    · rw [decide_eq_false (by simpa using hr), if_pos (.inr hr)]; rfl
    · rw [decide_eq_true hr, if_neg (by simp [hr]), seal_eq k _ _ (by omega) hk hk2]
      have hl := frameR_len r (by omega)
      have hs : sealF r.Kind r.Body = (frameR r, 0) := by unfold sealF; unfold badR at hr; rw [if_neg hr]; rfl
      rw [hs]
      show ((disk_Append k d (frameR r)).bind fun x6 => some (x6.1, x6.2)) = _
      rw [append_eq k d _ (by omega) hd hw, bind_e rfl]
theorem jappend_ref (k : Nat) (d : Disk) (r : JournalRecord) (hb : r.Body.length ≤ 1400000) (hk : r.Body.length + 20 ≤ k) (hk2 : k ≤ 100000) (hd : d.Data.length ≤ 1500000) (hw : d.Writes ≤ 9223372036854775807) : actorgridref26_AppendRecord k d r = some (appendR d r) := by
  unfold actorgridref26_AppendRecord appendR actorgridref26_ValidRecord
  rw [valid_ref, bind_e rfl, validR_eq]
  cases hv : valid d with
  | false => rw [if_pos (.inl rfl)]; rfl
  | true =>
    by_cases hr : badR r
    · rw [decide_eq_false (by simpa using hr), if_pos (.inr hr)]; rfl
    · rw [decide_eq_true hr, if_neg (by simp [hr]), seal_ref k _ _ (by omega) hk hk2]
      have hl := frameR_len r (by omega)
      have hs : sealF r.Kind r.Body = (frameR r, 0) := by unfold sealF; unfold badR at hr; rw [if_neg hr]; rfl
      rw [hs]
      show ((actorgridref26_AppendDisk k d (frameR r)).bind fun x6 => some (x6.1, x6.2)) = _
      rw [append_ref k d _ (by omega) hd hw, bind_e rfl]
/-! ### frames one behind the other -/
def goodR (r : JournalRecord) : Prop := 1 ≤ r.Kind ∧ r.Kind ≤ 255 ∧ r.Body.length ≤ 100000
def smallR (r : JournalRecord) : Prop := 1 ≤ r.Kind ∧ r.Kind ≤ 255 ∧ r.Body.length ≤ 300
theorem smallR.good {r : JournalRecord} (h : smallR r) : goodR r := ⟨h.1, h.2.1, by have := h.2.2; omega⟩
def Armed (data : List UInt8) (w : Nat) (keep : Int) : Disk := ⟨data, 1048576, true, w, keep, false⟩
end Md
end Go.Proofs.Ytkcfkcgclljncaa
