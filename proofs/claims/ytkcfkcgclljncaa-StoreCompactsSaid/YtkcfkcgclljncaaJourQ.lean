/-
  Layer 27 in plain words: frames of a disk, Append, Recover, of the program and of its reference; disks that crash. Conditions: sizes.
-/
import Derived.Test.YtkcfkcgclljncaaJwP
import Derived.Test.YtkcfkcgclljncaaJdP
import Derived.Test.YtkcfkcgclljncaaJourBM
namespace Go.Proofs.Ytkcfkcgclljncaa
set_option linter.unusedVariables false
set_option linter.unusedSimpArgs false
namespace Md
theorem frame_len (kind : UInt8) (body : List UInt8) : (frame kind body).length = 3 + (enc body.length).length + body.length + 4 := by
  simp only [frame, List.length_append, low_len, List.length_cons, List.length_nil]
theorem open_pos (b : List UInt8) (hb : b.length ≤ 4000000) (h : (openF b).2.2.2 = 0) : ∃ m : Nat, (openF b).2.2.1 = (m : Int) ∧ 0 < m ∧ m ≤ b.length ∧ 1 ≤ (openF b).1 ∧ (openF b).1 ≤ 255 ∧ (openF b).2.1.length ≤ b.length := by
  obtain ⟨n, h1, h2, h3, h4⟩ := can_open b hb h
  unfold sealF at h3
  split at h3
  · exact absurd (congrArg Prod.snd h3) (by show ¬ (1 : Int) = 0; decide)
  · rename_i hc
    have h5 := congrArg List.length (congrArg Prod.fst h3)
    simp only [frame_len, List.length_take] at h5
    exact ⟨n, h1, by omega, h2, by omega, by omega, h4⟩
/-- The frames at the beginning of b, each with its length. -/
def frs : Nat → List UInt8 → List (JournalRecord × Nat)
  | 0, _ => []
  | n + 1, b => if (openF b).2.2.2 ≠ 0 then [] else (⟨(openF b).1, (openF b).2.1⟩, (openF b).2.2.1.toNat) :: frs n (b.drop (openF b).2.2.1.toNat)
def offs : Nat → List (JournalRecord × Nat) → List (Nat × JournalRecord)
  | _, [] => []
  | p, x :: t => (p, x.1) :: offs (p + x.2) t
def total : List (JournalRecord × Nat) → Nat
  | [] => 0
  | x :: t => x.2 + total t
def castW (l : List (Nat × JournalRecord)) : List (Int × JournalRecord) := l.map fun x => ((x.1 : Int), x.2)
theorem total_le : ∀ (n : Nat) (b : List UInt8), b.length ≤ 3000000 → total (frs n b) ≤ b.length
  | 0, _, _ => Nat.zero_le _
  | n + 1, b, hb => by
    unfold frs
    split
    · exact Nat.zero_le _
    · rename_i h
      obtain ⟨m, h1, h2, h3, _⟩ := open_pos b (by omega) (by omega)
      have := total_le n (b.drop (openF b).2.2.1.toNat) (by rw [List.length_drop]; omega)
      rw [List.length_drop] at this
      simp only [total]
      omega
theorem frs_len : ∀ (n : Nat) (b : List UInt8), b.length ≤ 3000000 → (frs n b).length ≤ b.length
  | 0, _, _ => Nat.zero_le _
  | n + 1, b, hb => by
    unfold frs
    split
    · exact Nat.zero_le _
    · rename_i h
      obtain ⟨m, h1, h2, h3, _⟩ := open_pos b (by omega) (by omega)
      have := frs_len n (b.drop (openF b).2.2.1.toNat) (by rw [List.length_drop]; omega)
      rw [List.length_drop] at this
      simp only [List.length_cons]
      omega
theorem frs_ok : ∀ (n : Nat) (b : List UInt8), b.length ≤ 3000000 → ∀ x, x ∈ frs n b → 1 ≤ x.1.Kind ∧ x.1.Kind ≤ 255 ∧ x.1.Body.length ≤ b.length
  | 0, _, _, _, h => by cases h
  | n + 1, b, hb, x, h => by
    unfold frs at h
    split at h
    · cases h
    · rename_i h0
      obtain ⟨m, h1, h2, h3, h4, h5, h6⟩ := open_pos b (by omega) (by omega)
      rcases List.mem_cons.1 h with rfl | h
      · exact ⟨h4, h5, h6⟩
      · have := frs_ok n _ (by rw [List.length_drop]; omega) x h
        rw [List.length_drop] at this
        exact ⟨this.1, this.2.1, by omega⟩
theorem walk_eq (k : Nat) (b : List UInt8) (hb : b.length ≤ 3000000) (hk : b.length + 20 ≤ k) : ∀ (n p : Nat), p ≤ b.length → b.length - p < n → journal_Walk_1_loop k b n (p : Int) = some (castW (offs p (frs n (b.drop p))))
  | 0, p, _, h => by omega
  | n + 1, p, hp, h => by
    have hl : (b.drop p).length = b.length - p := List.length_drop
    unfold journal_Walk_1_loop frs
    rw [ifp_pos (by omega), Int.toNat_natCast, ifp_pos hp, open_eq k _ (by omega) (by omega), bind_e rfl]
    by_cases h0 : (openF (b.drop p)).2.2.2 = 0
    · obtain ⟨m, h1, h2, h3, _⟩ := open_pos (b.drop p) (by omega) h0
      rw [show ((openF (b.drop p)).2.2.2 != 0) = false from by simp [h0], cond_false, if_neg (by simp [h0]), h1, W_id (by omega) (by omega)]
      have := walk_eq k b hb hk n (p + m) (by omega) (by omega)
      rw [show ((p : Int) + (m : Int)) = ((p + m : Nat) : Int) by omega, this, bind_e rfl, Int.toNat_natCast, List.drop_drop]
      rfl
    · rw [show ((openF (b.drop p)).2.2.2 != 0) = true from by simp [h0], cond_true, if_pos h0]
      rfl
theorem walk1_eq (k : Nat) (b : List UInt8) (hb : b.length ≤ 3000000) (hk : b.length + 20 ≤ k) : journal_Walk_1 k b = some (castW (offs 0 (frs k b))) := by
  have := walk_eq k b hb hk k 0 (Nat.zero_le _) (by omega)
  rw [List.drop_zero] at this
  exact this
theorem scan_loop (k : Nat) (b : List UInt8) (hb : b.length ≤ 3000000) (hk : b.length + 20 ≤ k) : ∀ (n p : Nat) (e : Int) (acc : List JournalRecord), p ≤ b.length → acc.length + b.length - p ≤ 3900000 → ((frs n (b.drop p)) = [] → e = (p : Int)) →
    journal_Scan_loop1 k b (castW (offs p (frs n (b.drop p)))) e acc = some (((p + total (frs n (b.drop p)) : Nat) : Int), acc ++ (frs n (b.drop p)).map (·.1))
  | 0, p, e, acc, _, _, he => by rw [he rfl]; simp [frs, offs, castW, journal_Scan_loop1, total]
  | n + 1, p, e, acc, hp, ha, he => by
    have hl : (b.drop p).length = b.length - p := List.length_drop
    by_cases h0 : (openF (b.drop p)).2.2.2 = 0
    · obtain ⟨m, h1, h2, h3, _⟩ := open_pos (b.drop p) (by omega) h0
      have hf : frs (n + 1) (b.drop p) = (⟨(openF (b.drop p)).1, (openF (b.drop p)).2.1⟩, m) :: frs n (b.drop (p + m)) := by
        rw [frs, if_neg (by simp [h0]), h1, Int.toNat_natCast, List.drop_drop]
      rw [hf]
      have hrec := scan_loop k b hb hk n (p + m) ((p + m : Nat) : Int) (acc ++ [⟨(openF (b.drop p)).1, (openF (b.drop p)).2.1⟩]) (by omega) (by simp; omega) (fun _ => rfl)
      show journal_Scan_loop1 k b (((p : Int), _) :: castW (offs (p + m) (frs n (b.drop (p + m))))) e acc = _
      rw [journal_Scan_loop1]
      dsimp only
      rw [ifp_pos (by omega), Int.toNat_natCast, ifp_pos hp, open_eq k _ (by omega) (by omega), bind_e rfl, ifp_pos (by simp; omega), h1, W_id (by omega) (by omega), show ((p : Int) + (m : Int)) = ((p + m : Nat) : Int) by omega, hrec]
      simp [total, Nat.add_assoc]
    · have hf : frs (n + 1) (b.drop p) = [] := by rw [frs, if_pos h0]
      rw [hf] at he ⊢
      rw [he rfl]
      simp [offs, castW, journal_Scan_loop1, total]
theorem scan_eq (k : Nat) (b : List UInt8) (hb : b.length ≤ 3000000) (hk : b.length + 20 ≤ k) : journal_Scan k b = some ((frs k b).map (·.1), (total (frs k b) : Int)) := by
  unfold journal_Scan
  have := scan_loop k b hb hk k 0 0 [] (Nat.zero_le _) (by simp; omega) (fun _ => rfl)
  rw [List.drop_zero] at this
  rw [walk1_eq k b hb hk, bind_e rfl, this, bind_e rfl]
  simp
theorem scan_refl (k : Nat) (b : List UInt8) (hb : b.length ≤ 3000000) (hk : b.length + 20 ≤ k) : ∀ (n p : Nat) (acc : List JournalRecord) (os : List Int), p ≤ b.length → b.length - p < n → acc.length + b.length - p ≤ 3900000 → os.length + b.length - p ≤ 3900000 →
    actorgridref26_Scan_loop1 k b n (p : Int) acc os = some (acc ++ (frs n (b.drop p)).map (·.1), os ++ (offs p (frs n (b.drop p))).map (fun x => (x.1 : Int)), ((p + total (frs n (b.drop p)) : Nat) : Int))
  | 0, p, _, _, _, h, _, _ => by omega
  | n + 1, p, acc, os, hp, h, ha, ho => by
    have hl : (b.drop p).length = b.length - p := List.length_drop
    unfold actorgridref26_Scan_loop1
    rw [ifp_pos (by omega), Int.toNat_natCast, ifp_pos hp, open_ref k _ (by omega) (by omega), bind_e rfl]
    by_cases h0 : (openF (b.drop p)).2.2.2 = 0
    · obtain ⟨m, h1, h2, h3, _, _, h6⟩ := open_pos (b.drop p) (by omega) h0
      have hf : frs (n + 1) (b.drop p) = (⟨(openF (b.drop p)).1, (openF (b.drop p)).2.1⟩, m) :: frs n (b.drop (p + m)) := by
        rw [frs, if_neg (by simp [h0]), h1, Int.toNat_natCast, List.drop_drop]
      have hrec := scan_refl k b hb hk n (p + m) (acc ++ [⟨(openF (b.drop p)).1, (openF (b.drop p)).2.1⟩]) (os ++ [(p : Int)]) (by omega) (by omega) (by simp; omega) (by simp; omega)
      rw [hf, show ((openF (b.drop p)).2.2.2 != 0) = false from by simp [h0], cond_false, ifp_pos (by simp; omega), ifp_pos (by simp; omega), ifp_pos (by simp; omega), h1, W_id (by omega) (by omega), show ((p : Int) + (m : Int)) = ((p + m : Nat) : Int) by omega, List.nil_append, hrec]
      simp [total, offs, Nat.add_assoc]
    · have hf : frs (n + 1) (b.drop p) = [] := by rw [frs, if_pos h0]
      rw [hf, show ((openF (b.drop p)).2.2.2 != 0) = true from by simp [h0], cond_true]
      simp [offs, total]
theorem scan_ref (k : Nat) (b : List UInt8) (hb : b.length ≤ 3000000) (hk : b.length + 20 ≤ k) : actorgridref26_Scan k b = some ((frs k b).map (·.1), (offs 0 (frs k b)).map (fun x => (x.1 : Int)), (total (frs k b) : Int)) := by
  unfold actorgridref26_Scan
  have := scan_refl k b hb hk k 0 [] [] (Nat.zero_le _) (by omega) (by simp; omega) (by simp; omega)
  rw [List.drop_zero] at this
  rw [show (0 : Int) = ((0 : Nat) : Int) from rfl, this, bind_e rfl]
  simp
theorem same_loop (k : Nat) (a : List JournalRecord) (ha : a.length ≤ 4000000) : ∀ (n i : Nat), i ≤ a.length → a.length - i < n → actorgridref26_SameRecords_loop1 k a a n i = some (Sum.inl ())
  | 0, i, _, h => by omega
  | n + 1, i, hi, h => by
    unfold actorgridref26_SameRecords_loop1
    by_cases hl : i < a.length
    · rw [decide_eq_true (by omega), cond_true, ifp_pos hl, ifp_pos hl]
      have := same_loop k a ha n (i + 1) (by omega) (by omega)
      rw [show ((a.getD i default).Kind != (a.getD i default).Kind) = false from by simp, cond_false, ifp_pos hl, ifp_pos hl, decide_eq_true rfl, ifp_pos (by omega), this]
      rfl
    · rw [decide_eq_false (by omega)]; rfl
theorem sameR_eq (k : Nat) (a : List JournalRecord) (ha : a.length ≤ 4000000) (hk : a.length < k) : actorgridref26_SameRecords k a a = some true := by
  unfold actorgridref26_SameRecords
  rw [show (((a.length : Nat) : Int) != ((a.length : Nat) : Int)) = false from by simp, cond_false, same_loop k a ha k 0 (Nat.zero_le _) (by omega), bind_e rfl]
  rfl
def badR (r : JournalRecord) : Prop := r.Kind < 1 ∨ 255 < r.Kind ∨ 16777216 < r.Body.length
instance (r : JournalRecord) : Decidable (badR r) := by unfold badR; infer_instance
def frameR (r : JournalRecord) : List UInt8 := frame (.ofInt r.Kind) r.Body
def appendR (d : Disk) (r : JournalRecord) : Disk × Int := if valid d = false ∨ badR r then (zeroD, 1) else appendD d (frameR r)
theorem validR_eq (r : JournalRecord) : (((decide (r.Kind ≥ 1)) && (decide (r.Kind ≤ 255))) && (decide (((r.Body.length : Nat) : Int) ≤ 16777216))) = decide (¬ badR r) := by
  rw [Bool.eq_iff_iff]
  unfold badR
  simp
  omega
theorem frameR_len (r : JournalRecord) (h : r.Body.length ≤ 4000000) : (frameR r).length ≤ r.Body.length + 12 ∧ 0 < (frameR r).length := by
  unfold frameR
  rw [frame_len]
  have := enc_len5 h
  omega
theorem jappend_eq (k : Nat) (d : Disk) (r : JournalRecord) (hb : r.Body.length ≤ 1400000) (hk : r.Body.length + 20 ≤ k) (hk2 : k ≤ 100000) (hd : d.Data.length ≤ 1500000) (hw : d.Writes ≤ 9223372036854775807) : journal_Append k d r = some (appendR d r) := by
  unfold journal_Append appendR journal_ValidRecord
  rw [valid_eq, bind_e rfl, validR_eq]
  cases hv : valid d with
  | false => rw [if_pos (.inl rfl)]; rfl
  | true =>
    by_cases hr : badR r
    · rw [decide_eq_false (by simpa using hr), if_pos (.inr hr)]; rfl
    · rw [decide_eq_true hr, if_neg (by simp [hr]), seal_eq k _ _ (by omega) hk hk2]
      have hl := frameR_len r (by omega)
      have hs : sealF r.Kind r.Body = (frameR r, 0) := by unfold sealF; unfold badR at hr; rw [if_neg hr]; rfl
      rw [hs]
      show ((disk_Append k d (frameR r)).bind fun x6 => some (x6.1, x6.2)) = _
      rw [append_eq k d _ (by omega) hd hw, bind_e rfl]
theorem jappend_ref (k : Nat) (d : Disk) (r : JournalRecord) (hb : r.Body.length ≤ 1400000) (hk : r.Body.length + 20 ≤ k) (hk2 : k ≤ 100000) (hd : d.Data.length ≤ 1500000) (hw : d.Writes ≤ 9223372036854775807) : actorgridref26_AppendRecord k d r = some (appendR d r) := by
  unfold actorgridref26_AppendRecord appendR actorgridref26_ValidRecord
  rw [valid_ref, bind_e rfl, validR_eq]
  cases hv : valid d with
  | false => rw [if_pos (.inl rfl)]; rfl
  | true =>
    by_cases hr : badR r
    · rw [decide_eq_false (by simpa using hr), if_pos (.inr hr)]; rfl
    · rw [decide_eq_true hr, if_neg (by simp [hr]), seal_ref k _ _ (by omega) hk hk2]
      have hl := frameR_len r (by omega)
      have hs : sealF r.Kind r.Body = (frameR r, 0) := by unfold sealF; unfold badR at hr; rw [if_neg hr]; rfl
      rw [hs]
      show ((actorgridref26_AppendDisk k d (frameR r)).bind fun x6 => some (x6.1, x6.2)) = _
      rw [append_ref k d _ (by omega) hd hw, bind_e rfl]
def recoverR (k : Nat) (d : Disk) : List JournalRecord × Disk × Int :=
  if valid d = false then ([], zeroD, 1) else if d.Down = true then ([], d, 23)
  else if total (frs k d.Data) < d.Data.length then (if (truncD d (total (frs k d.Data))).2 ≠ 0 then ([], (truncD d (total (frs k d.Data))).1, (truncD d (total (frs k d.Data))).2) else ((frs k d.Data).map (·.1), (truncD d (total (frs k d.Data))).1, 0))
  else ((frs k d.Data).map (·.1), d, 0)
theorem recover_eq (k : Nat) (d : Disk) (hd : d.Data.length ≤ 1400000) (hk : d.Data.length + 20 ≤ k) (hw : d.Writes ≤ 9223372036854775807) : journal_Recover k d = some (recoverR k d) := by
  unfold journal_Recover recoverR
  rw [read_eq k d (by omega), bind_e rfl]
  unfold readD
  cases hv : valid d with
  | false => rfl
  | true =>
    by_cases hdn : d.Down = true
    · rw [if_neg (show ¬ (true = false) by simp), if_neg (show ¬ (true = false) by simp), if_pos hdn, if_pos hdn]
      show ifp (d.Data.length ≤ 4000000) _ = _
      rw [ifp_pos (by omega)]
    · rw [if_neg (show ¬ (true = false) by simp), if_neg (show ¬ (true = false) by simp), if_neg hdn, if_neg hdn]
      show ((journal_Scan k d.Data).bind _) = _
      rw [scan_eq k _ (by omega) hk, bind_e rfl]
      dsimp only
      by_cases ht : total (frs k d.Data) < d.Data.length
      · rw [decide_eq_true (by omega), cond_true, if_pos ht, trunc_eq k d _ (by omega) hw, bind_e rfl]
        by_cases he : (truncD d (total (frs k d.Data))).2 = 0
        · rw [show ((truncD d (total (frs k d.Data))).2 != 0) = false from by simp [he], cond_false, if_neg (by simp [he])]
        · rw [show ((truncD d (total (frs k d.Data))).2 != 0) = true from by simp [he], cond_true, if_pos he]
      · rw [decide_eq_false (by omega), cond_false, if_neg ht]
theorem recover_ref (k : Nat) (d : Disk) (hd : d.Data.length ≤ 1400000) (hk : d.Data.length + 20 ≤ k) (hw : d.Writes ≤ 9223372036854775807) : actorgridref26_RecoverRecords k d = some (recoverR k d) := by
  unfold actorgridref26_RecoverRecords recoverR
  rw [valid_ref, bind_e rfl]
  cases hv : valid d with
  | false => rfl
  | true =>
    rw [if_neg (show ¬ (true = false) by simp), Bool.not_true, cond_false]
    by_cases hdn : d.Down = true
    · rw [if_pos hdn, hdn, cond_true, copy_ref k d (by omega), bind_e rfl]
    · rw [if_neg hdn, show d.Down = false from by simpa using hdn, cond_false, scan_ref k _ (by omega) hk, bind_e rfl]
      dsimp only
      have htl := total_le k d.Data (by omega)
      by_cases ht : total (frs k d.Data) < d.Data.length
      · rw [show (((total (frs k d.Data) : Nat) : Int) == ((d.Data.length : Nat) : Int)) = false from by simp; omega, cond_false, if_pos ht, trunc_ref k d _ (by omega) hw, bind_e rfl]
        by_cases he : (truncD d (total (frs k d.Data))).2 = 0
        · rw [show ((truncD d (total (frs k d.Data))).2 != 0) = false from by simp [he], cond_false, if_neg (by simp [he])]
        · rw [show ((truncD d (total (frs k d.Data))).2 != 0) = true from by simp [he], cond_true, if_pos he]
      · rw [show (((total (frs k d.Data) : Nat) : Int) == ((d.Data.length : Nat) : Int)) = true from by simp; omega, cond_true, if_neg ht, copy_ref k d (by omega), bind_e rfl]
/-! ### frames one behind the other -/
theorem frame_parts (kind : UInt8) (body : List UInt8) : ∃ t, t.length = 4 ∧ t = low (crc ([65, 71, kind] ++ enc body.length ++ body)) ∧ frame kind body = (65 : UInt8) :: 71 :: kind :: (enc body.length ++ (body ++ t)) := by
  refine ⟨low (crc ([65, 71, kind] ++ enc body.length ++ body)), rfl, rfl, ?_⟩
  show ([65, 71, kind] ++ enc body.length ++ body) ++ low (crc ([65, 71, kind] ++ enc body.length ++ body)) = _
  generalize low (crc ([65, 71, kind] ++ enc body.length ++ body)) = t
  simp only [List.append_assoc, List.cons_append, List.nil_append]
theorem open_cutK (kind : UInt8) (hk : kind.toNat ≠ 0) (body : List UInt8) (hb : body.length ≤ 4000000) (j : Nat) (hj : j < (frame kind body).length) : (openF ((frame kind body).take j)).2.2.2 = 2 := by
  obtain ⟨t, ht, _, hf⟩ := frame_parts kind body
  rw [hf] at hj ⊢
  simp only [List.length_cons, List.length_append] at hj
  by_cases h3 : j < 3
  · unfold openF
    rw [if_pos (by rw [List.length_take]; omega)]
  obtain ⟨j, rfl⟩ : ∃ i, j = i + 3 := ⟨j - 3, by omega⟩
  rw [List.take_succ_cons, List.take_succ_cons, List.take_succ_cons]
  unfold openF
  rw [if_neg (by simp), if_neg (by show ¬ ((65 : UInt8).toNat ≠ 65 ∨ (71 : UInt8).toNat ≠ 71 ∨ kind.toNat = 0); simp [hk]), List.drop_succ_cons, List.drop_succ_cons, List.drop_succ_cons, List.drop_zero]
  by_cases h2 : j < (enc body.length).length
  · rw [List.take_append_of_le_length (by omega), readU_cutn hb j h2, if_pos (by decide)]
  · rw [List.take_append, List.take_of_length_le (by omega), readU_nat hb]
    dsimp only
    rw [if_neg (by decide), ofNat_len hb]
    by_cases hbig : 16777216 < body.length
    · omega
    rw [if_neg hbig]
    unfold openAt
    rw [if_pos (by simp only [List.length_cons, List.length_append, List.length_take, Int.toNat_natCast]; omega)]
theorem open_frame (kind : UInt8) (hk : kind.toNat ≠ 0) (y z : List UInt8) (hy : y.length ≤ 4000000) : openF (frame kind y ++ z) = ((kind.toNat : Int), y, ((frame kind y).length : Int), 0) := by
  obtain ⟨t, ht, ht2, hf⟩ := frame_parts kind y
  have hlen := frame_len kind y
  have hx : frame kind y ++ z = (65 : UInt8) :: 71 :: kind :: (enc y.length ++ (y ++ (t ++ z))) := by rw [hf]; simp only [List.append_assoc, List.cons_append]
  have hx2 : frame kind y ++ z = ([65, 71, kind] ++ enc y.length) ++ (y ++ (t ++ z)) := by rw [hx]; simp only [List.append_assoc, List.cons_append, List.nil_append]
  have hL : (frame kind y ++ z).length = 3 + (enc y.length).length + y.length + 4 + z.length := by rw [List.length_append, hlen]
  have h3 : ([65, 71, kind] ++ enc y.length).length = 3 + (enc y.length).length := by simp only [List.length_append, List.length_cons, List.length_nil]
  unfold openF
  rw [if_neg (by omega)]
  have hr : readU ((frame kind y ++ z).drop 3) = (UInt64.ofNat y.length, ((enc y.length).length : Int), 0) := by
    rw [hx, List.drop_succ_cons, List.drop_succ_cons, List.drop_succ_cons, List.drop_zero, readU_nat hy]
  rw [if_neg (by rw [hx]; show ¬ ((65 : UInt8).toNat ≠ 65 ∨ (71 : UInt8).toNat ≠ 71 ∨ kind.toNat = 0); simp [hk]), hr]
  dsimp only
  rw [if_neg (by decide), ofNat_len hy, if_neg (by omega)]
  unfold openAt
  rw [if_neg (by rw [Int.toNat_natCast]; omega), Int.toNat_natCast]
  have t1 : (frame kind y ++ z).take (3 + (enc y.length).length + y.length) = [65, 71, kind] ++ enc y.length ++ y := by
    rw [hx2, ← List.append_assoc]
    exact List.take_left' (by rw [List.length_append, h3])
  have t2 : ((frame kind y ++ z).drop (3 + (enc y.length).length + y.length)).take 4 = t := by
    rw [hx2, ← List.append_assoc, List.drop_left' (by rw [List.length_append, h3])]
    exact List.take_left' ht
  have t3 : ((frame kind y ++ z).drop (3 + (enc y.length).length)).take y.length = y := by
    rw [hx2, List.drop_left' h3, List.take_left]
  rw [t1, t2, t3, ← ht2, if_pos rfl, hlen, hx]
  rfl
def bytesF (l : List JournalRecord) : List UInt8 := l.flatMap frameR
def goodR (r : JournalRecord) : Prop := 1 ≤ r.Kind ∧ r.Kind ≤ 255 ∧ r.Body.length ≤ 100000
theorem kind_of {r : JournalRecord} (h : goodR r) : ((UInt8.ofInt r.Kind).toNat : Int) = r.Kind := by
  obtain ⟨h1, h2, _⟩ := h
  show (((UInt8.ofNat (r.Kind % 2 ^ 8).toNat).toNat : Nat) : Int) = _
  rw [UInt8.toNat_ofNat']
  omega
theorem open_R {r : JournalRecord} (h : goodR r) (z : List UInt8) : openF (frameR r ++ z) = (r.Kind, r.Body, ((frameR r).length : Int), 0) := by
  have hk := kind_of h
  obtain ⟨h1, h2, h3⟩ := h
  unfold frameR
  rw [open_frame _ (by omega) _ _ (by omega), hk]
theorem frs_stop (n : Nat) (z : List UInt8) (h : (openF z).2.2.2 ≠ 0) : frs n z = [] := by
  cases n with
  | zero => rfl
  | succ n => rw [frs, if_pos h]
theorem frs_bytes : ∀ (l : List JournalRecord) (n : Nat) (z : List UInt8), (∀ r ∈ l, goodR r) → l.length ≤ n → frs n (bytesF l ++ z) = l.map (fun r => (r, (frameR r).length)) ++ frs (n - l.length) z
  | [], n, z, _, _ => by simp [bytesF]
  | r :: l, n, z, hg, hn => by
    obtain ⟨n, rfl⟩ : ∃ m, n = m + 1 := ⟨n - 1, by simp at hn; omega⟩
    have hb : bytesF (r :: l) ++ z = frameR r ++ (bytesF l ++ z) := by simp [bytesF]
    have ho := open_R (hg r (by simp)) (bytesF l ++ z)
    rw [hb, frs, ho, if_neg (by simp), Int.toNat_natCast, List.drop_left, frs_bytes l n z (fun r hr => hg r (by simp [hr])) (by simp at hn; omega)]
    simp
theorem frs_all (l : List JournalRecord) (n : Nat) (z : List UInt8) (hg : ∀ r ∈ l, goodR r) (hn : l.length ≤ n) (hz : (openF z).2.2.2 ≠ 0) : frs n (bytesF l ++ z) = l.map (fun r => (r, (frameR r).length)) := by
  rw [frs_bytes l n z hg hn, frs_stop _ z hz, List.append_nil]
theorem total_bytes (l : List JournalRecord) : total (l.map (fun r => (r, (frameR r).length))) = (bytesF l).length := by
  induction l with
  | nil => rfl
  | cons r l ih => simp [total, bytesF] at ih ⊢; omega
theorem map_fst (l : List JournalRecord) : (l.map (fun r => (r, (frameR r).length))).map (·.1) = l := by
  induction l with
  | nil => rfl
  | cons r l ih => rw [List.map_cons, List.map_cons, ih]
theorem open_nil : (openF []).2.2.2 ≠ 0 := by decide
def smallR (r : JournalRecord) : Prop := 1 ≤ r.Kind ∧ r.Kind ≤ 255 ∧ r.Body.length ≤ 300
theorem smallR.good {r : JournalRecord} (h : smallR r) : goodR r := ⟨h.1, h.2.1, by have := h.2.2; omega⟩
def Armed (data : List UInt8) (w : Nat) (keep : Int) : Disk := ⟨data, 1048576, true, w, keep, false⟩
def Fresh (data : List UInt8) : Disk := ⟨data, 1048576, false, 0, 0, false⟩
def Dead (data : List UInt8) : Disk := ⟨data, 1048576, false, 0, 0, true⟩
theorem bytesF_len : ∀ (l : List JournalRecord), (∀ r ∈ l, smallR r) → (bytesF l).length ≤ l.length * 320
  | [], _ => by simp [bytesF]
  | r :: l, h => by
    have h1 := bytesF_len l fun r hr => h r (by simp [hr])
    have h2 := (frameR_len r (by have := (h r (by simp)).2.2; omega)).1
    have h3 := (h r (by simp)).2.2
    have : bytesF (r :: l) = frameR r ++ bytesF l := rfl
    rw [this, List.length_append, List.length_cons, Nat.add_mul]
    omega
theorem bytesF_snoc (l : List JournalRecord) (r : JournalRecord) : bytesF (l ++ [r]) = bytesF l ++ frameR r := by simp [bytesF]
theorem valid_armed (data : List UInt8) (w : Nat) (keep : Int) (hk : 0 ≤ keep) (h : data.length ≤ 1000000) : valid (Armed data w keep) = true := by
  unfold valid Armed
  dsimp only
  rw [decide_eq_true (by omega)]
  rfl
theorem valid_fresh (data : List UInt8) (h : data.length ≤ 1000000) : valid (Fresh data) = true := by
  unfold valid Fresh
  dsimp only
  rw [decide_eq_true (by omega)]
  rfl
theorem valid_dead (data : List UInt8) (h : data.length ≤ 1000000) : valid (Dead data) = true := by
  unfold valid Dead
  dsimp only
  rw [decide_eq_true (by omega)]
  rfl
theorem not_bad {r : JournalRecord} (h : smallR r) : ¬ badR r := by
  obtain ⟨h1, h2, h3⟩ := h
  unfold badR
  omega
theorem append_armed (data : List UInt8) (w : Nat) (keep : Int) (r : JournalRecord) (hk : 0 ≤ keep) (hl : data.length ≤ 900000) (hr : smallR r) : appendR (Armed data (w + 1) keep) r = (Armed (data ++ frameR r) w keep, 0) := by
  have h2 := (frameR_len r (by have := hr.2.2; omega)).1
  have h3 := hr.2.2
  unfold appendR appendD
  rw [valid_armed _ _ _ hk (by omega), if_neg (by simp [not_bad hr]), if_neg (by simp)]
  unfold Armed
  dsimp only
  rw [if_neg (by simp), if_neg (by omega), if_neg (by omega), if_pos rfl]
  congr 2
  omega
theorem append_dead (data : List UInt8) (keep : Int) (r : JournalRecord) (hk : 0 ≤ keep) (hl : data.length ≤ 900000) (hr : smallR r) : appendR (Armed data 0 keep) r = (Dead (data ++ (frameR r).take (min keep.toNat (frameR r).length)), 23) := by
  have h2 := (frameR_len r (by have := hr.2.2; omega)).1
  have h3 := hr.2.2
  unfold appendR appendD
  rw [valid_armed _ _ _ hk (by omega), if_neg (by simp [not_bad hr]), if_neg (by simp)]
  unfold Armed
  dsimp only
  rw [if_neg (by simp), if_neg (by omega), if_pos ⟨rfl, rfl⟩]
  rfl
theorem append_fresh (data : List UInt8) (r : JournalRecord) (hl : data.length ≤ 900000) (hr : smallR r) : appendR (Fresh data) r = (Fresh (data ++ frameR r), 0) := by
  have h2 := (frameR_len r (by have := hr.2.2; omega)).1
  have h3 := hr.2.2
  unfold appendR appendD
  rw [valid_fresh _ (by omega), if_neg (by simp [not_bad hr]), if_neg (by simp)]
  unfold Fresh
  dsimp only
  rw [if_neg (by simp), if_neg (by omega), if_neg (by simp)]
  rfl
theorem restart_armed (data : List UInt8) (w : Nat) (keep : Int) (hk : 0 ≤ keep) (h : data.length ≤ 1000000) : restartD (Armed data w keep) = (Fresh data, 0) := by
  unfold restartD
  rw [valid_armed _ _ _ hk h, if_neg (by simp)]
  rfl
theorem restart_dead (data : List UInt8) (h : data.length ≤ 1000000) : restartD (Dead data) = (Fresh data, 0) := by
  unfold restartD
  rw [valid_dead _ h, if_neg (by simp)]
  rfl
/-- Frames, and then what is no frame: the frames are recovered. -/
theorem recover_fresh (k : Nat) (l : List JournalRecord) (z : List UInt8) (hz : (openF z).2.2.2 ≠ 0) (hl : ∀ r ∈ l, smallR r) (hk : l.length ≤ k) (hs : (bytesF l ++ z).length ≤ 1000000) : recoverR k (Fresh (bytesF l ++ z)) = (l, Fresh (bytesF l), 0) := by
  have hf := frs_all l k z (fun r hr => (hl r hr).good) hk hz
  have hv := valid_fresh _ hs
  unfold recoverR
  rw [hv, if_neg (by simp), if_neg (by simp [Fresh])]
  show (if total (frs k (bytesF l ++ z)) < (bytesF l ++ z).length then _ else _) = _
  rw [show (Fresh (bytesF l ++ z)).Data = bytesF l ++ z from rfl, hf, total_bytes, map_fst]
  by_cases h0 : (bytesF l).length < (bytesF l ++ z).length
  · rw [if_pos h0]
    have ht : truncD (Fresh (bytesF l ++ z)) ((bytesF l).length : Int) = (Fresh (bytesF l), 0) := by
      unfold truncD
      rw [hv, if_neg (by simp), if_neg (by simp [Fresh])]
      unfold Fresh
      dsimp only
      rw [if_neg (by omega), if_neg (by simp), Int.toNat_natCast, List.take_left]
      rfl
    rw [ht, if_neg (by simp)]
  · rw [if_neg h0]
    have : z = [] := by
      rw [List.length_append] at h0
      exact List.eq_nil_of_length_eq_zero (by omega)
    rw [this, List.append_nil]
/-- What lies there after a crash within a write. -/
theorem torn (l : List JournalRecord) (r : JournalRecord) (j : Nat) (hr : smallR r) (hj : j ≤ (frameR r).length) : ∃ l0 z, bytesF l ++ (frameR r).take j = bytesF l0 ++ z ∧ (openF z).2.2.2 ≠ 0 ∧ (l0 = l ∨ l0 = l ++ [r]) := by
  by_cases h : j < (frameR r).length
  · refine ⟨l, _, rfl, ?_, .inl rfl⟩
    have hk := kind_of hr.good
    have := open_cutK (.ofInt r.Kind) (by have := hr.1; omega) r.Body (by have := hr.2.2; omega) j h
    unfold frameR
    omega
  · refine ⟨l ++ [r], [], ?_, open_nil, .inr rfl⟩
    rw [bytesF_snoc, List.append_nil, List.take_of_length_le (by omega)]
end Md
end Go.Proofs.Ytkcfkcgclljncaa
