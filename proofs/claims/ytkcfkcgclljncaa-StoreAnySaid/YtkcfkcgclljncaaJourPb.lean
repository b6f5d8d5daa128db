/-
  Layer 27 in plain words: appending and recovering; frames that lie one behind the other are read; laws JournalAppends, JournalScans, JournalRecovers. Conditions: sizes.
-/
import Derived.Test.YtkcfkcgclljncaaJourPa
namespace Go.Proofs.Ytkcfkcgclljncaa
set_option linter.unusedVariables false
set_option linter.unusedSimpArgs false
namespace Md
def badR (r : JournalRecord) : Prop := r.Kind < 1 ∨ 255 < r.Kind ∨ 16777216 < r.Body.length
instance (r : JournalRecord) : Decidable (badR r) := by unfold badR; infer_instance
def frameR (r : JournalRecord) : List UInt8 := frame (.ofInt r.Kind) r.Body
def appendR (d : Disk) (r : JournalRecord) : Disk × Int := if valid d = false ∨ badR r then (zeroD, 1) else appendD d (frameR r)
theorem validR_eq (r : JournalRecord) : (((decide (r.Kind ≥ 1)) && (decide (r.Kind ≤ 255))) && (decide (((r.Body.length : Nat) : Int) ≤ 16777216))) = decide (¬ badR r) := by
  rw [Bool.eq_iff_iff]
  unfold badR
  simp
  omega
theorem frameR_len (r : JournalRecord) (h : r.Body.length ≤ 4000000) : (frameR r).length ≤ r.Body.length + 12 ∧ 0 < (frameR r).length := by
  unfold frameR
  rw [frame_len]
  have := enc_len5 h
  omega
theorem jappend_eq (k : Nat) (d : Disk) (r : JournalRecord) (hb : r.Body.length ≤ 1400000) (hk : r.Body.length + 20 ≤ k) (hk2 : k ≤ 100000) (hd : d.Data.length ≤ 1500000) (hw : d.Writes ≤ 9223372036854775807) : journal_Append k d r = some (appendR d r) := by
  unfold journal_Append appendR journal_ValidRecord
  rw [valid_eq, bind_e rfl, validR_eq]
  cases hv : valid d with
  | false => rw [if_pos (.inl rfl)]; rfl
  | true =>
    by_cases hr : badR r
    · rw [decide_eq_false (by simpa using hr), if_pos (.inr hr)]; rfl
    · rw [decide_eq_true hr, if_neg (by simp [hr]), seal_eq k _ _ (by omega) hk hk2]
      have hl := frameR_len r (by omega)
      have hs : sealF r.Kind r.Body = (frameR r, 0) := by unfold sealF; unfold badR at hr; rw [if_neg hr]; rfl
      rw [hs]
      show ((disk_Append k d (frameR r)).bind fun x6 => some (x6.1, x6.2)) = _
      rw [append_eq k d _ (by omega) hd hw, bind_e rfl]
theorem jappend_ref (k : Nat) (d : Disk) (r : JournalRecord) (hb : r.Body.length ≤ 1400000) (hk : r.Body.length + 20 ≤ k) (hk2 : k ≤ 100000) (hd : d.Data.length ≤ 1500000) (hw : d.Writes ≤ 9223372036854775807) : actorgridref26_AppendRecord k d r = some (appendR d r) := by
  unfold actorgridref26_AppendRecord appendR actorgridref26_ValidRecord
  rw [valid_ref, bind_e rfl, validR_eq]
  cases hv : valid d with
  | false => rw [if_pos (.inl rfl)]; rfl
  | true =>
    by_cases hr : badR r
    · rw [decide_eq_false (by simpa using hr), if_pos (.inr hr)]; rfl
    · rw [decide_eq_true hr, if_neg (by simp [hr]), seal_ref k _ _ (by omega) hk hk2]
      have hl := frameR_len r (by omega)
      have hs : sealF r.Kind r.Body = (frameR r, 0) := by unfold sealF; unfold badR at hr; rw [if_neg hr]; rfl
      rw [hs]
      show ((actorgridref26_AppendDisk k d (frameR r)).bind fun x6 => some (x6.1, x6.2)) = _
      rw [append_ref k d _ (by omega) hd hw, bind_e rfl]
def recoverR (k : Nat) (d : Disk) : List JournalRecord × Disk × Int :=
  if valid d = false then ([], zeroD, 1) else if d.Down = true then ([], d, 23)
  else if total (frs k d.Data) < d.Data.length then (if (truncD d (total (frs k d.Data))).2 ≠ 0 then ([], (truncD d (total (frs k d.Data))).1, (truncD d (total (frs k d.Data))).2) else ((frs k d.Data).map (·.1), (truncD d (total (frs k d.Data))).1, 0))
  else ((frs k d.Data).map (·.1), d, 0)
theorem recover_eq (k : Nat) (d : Disk) (hd : d.Data.length ≤ 1400000) (hk : d.Data.length + 20 ≤ k) (hw : d.Writes ≤ 9223372036854775807) : journal_Recover k d = some (recoverR k d) := by
  unfold journal_Recover recoverR
  rw [read_eq k d (by omega), bind_e rfl]
  unfold readD
  cases hv : valid d with
  | false => rfl
  | true =>
    by_cases hdn : d.Down = true
    · rw [if_neg (show ¬ (true = false) by simp), if_neg (show ¬ (true = false) by simp), if_pos hdn, if_pos hdn]
      show ifp (d.Data.length ≤ 4000000) _ = _
      rw [ifp_pos (by omega)]
    · rw [if_neg (show ¬ (true = false) by simp), if_neg (show ¬ (true = false) by simp), if_neg hdn, if_neg hdn]
      show ((journal_Scan k d.Data).bind _) = _
      rw [scan_eq k _ (by omega) hk, bind_e rfl]
      dsimp only
      by_cases ht : total (frs k d.Data) < d.Data.length
      · rw [decide_eq_true (by omega), cond_true, if_pos ht, trunc_eq k d _ (by omega) hw, bind_e rfl]
        by_cases he : (truncD d (total (frs k d.Data))).2 = 0
        · rw [show ((truncD d (total (frs k d.Data))).2 != 0) = false from by simp [he], cond_false, if_neg (by simp [he])]
        · rw [show ((truncD d (total (frs k d.Data))).2 != 0) = true from by simp [he], cond_true, if_pos he]
      · rw [decide_eq_false (by omega), cond_false, if_neg ht]
theorem recover_ref (k : Nat) (d : Disk) (hd : d.Data.length ≤ 1400000) (hk : d.Data.length + 20 ≤ k) (hw : d.Writes ≤ 9223372036854775807) : actorgridref26_RecoverRecords k d = some (recoverR k d) := by
  unfold actorgridref26_RecoverRecords recoverR
  rw [valid_ref, bind_e rfl]
  cases hv : valid d with
  | false => rfl
  | true =>
    rw [if_neg (show ¬ (true = false) by simp), Bool.not_true, cond_false]
    by_cases hdn : d.Down = true
    · rw [if_pos hdn, hdn, cond_true, copy_ref k d (by omega), bind_e rfl]
    · rw [if_neg hdn, show d.Down = false from by simpa using hdn, cond_false, scan_ref k _ (by omega) hk, bind_e rfl]
      dsimp only
      have htl := total_le k d.Data (by omega)
      by_cases ht : total (frs k d.Data) < d.Data.length
      · rw [show (((total (frs k d.Data) : Nat) : Int) == ((d.Data.length : Nat) : Int)) = false from by simp; omega, cond_false, if_pos ht, trunc_ref k d _ (by omega) hw, bind_e rfl]
        by_cases he : (truncD d (total (frs k d.Data))).2 = 0
        · rw [show ((truncD d (total (frs k d.Data))).2 != 0) = false from by simp [he], cond_false, if_neg (by simp [he])]
        · rw [show ((truncD d (total (frs k d.Data))).2 != 0) = true from by simp [he], cond_true, if_pos he]
      · rw [show (((total (frs k d.Data) : Nat) : Int) == ((d.Data.length : Nat) : Int)) = true from by simp; omega, cond_true, if_neg ht, copy_ref k d (by omega), bind_e rfl]
/-! ### frames one behind the other -/
theorem frame_parts (kind : UInt8) (body : List UInt8) : ∃ t, t.length = 4 ∧ t = low (crc ([65, 71, kind] ++ enc body.length ++ body)) ∧ frame kind body = (65 : UInt8) :: 71 :: kind :: (enc body.length ++ (body ++ t)) := by
  refine ⟨low (crc ([65, 71, kind] ++ enc body.length ++ body)), rfl, rfl, ?_⟩
  show ([65, 71, kind] ++ enc body.length ++ body) ++ low (crc ([65, 71, kind] ++ enc body.length ++ body)) = _
  generalize low (crc ([65, 71, kind] ++ enc body.length ++ body)) = t
  simp only [List.append_assoc, List.cons_append, List.nil_append]
theorem open_cutK (kind : UInt8) (hk : kind.toNat ≠ 0) (body : List UInt8) (hb : body.length ≤ 4000000) (j : Nat) (hj : j < (frame kind body).length) : (openF ((frame kind body).take j)).2.2.2 = 2 := by
  obtain ⟨t, ht, _, hf⟩ := frame_parts kind body
  rw [hf] at hj ⊢
  simp only [List.length_cons, List.length_append] at hj
  by_cases h3 : j < 3
  · unfold openF
    rw [if_pos (by rw [List.length_take]; omega)]
  obtain ⟨j, rfl⟩ : ∃ i, j = i + 3 := ⟨j - 3, by omega⟩
  rw [List.take_succ_cons, List.take_succ_cons, List.take_succ_cons]
  unfold openF
  rw [if_neg (by simp), if_neg (by show ¬ ((65 : UInt8).toNat ≠ 65 ∨ (71 : UInt8).toNat ≠ 71 ∨ kind.toNat = 0); simp [hk]), List.drop_succ_cons, List.drop_succ_cons, List.drop_succ_cons, List.drop_zero]
  by_cases h2 : j < (enc body.length).length
  · rw [List.take_append_of_le_length (by omega), readU_cutn hb j h2, if_pos (by decide)]
  · rw [List.take_append, List.take_of_length_le (by omega), readU_nat hb]
    dsimp only
    rw [if_neg (by decide), ofNat_len hb]
    by_cases hbig : 16777216 < body.length
    · omega
    rw [if_neg hbig]
    unfold openAt
    rw [if_pos (by simp only [List.length_cons, List.length_append, List.length_take, Int.toNat_natCast]; omega)]
theorem open_frame (kind : UInt8) (hk : kind.toNat ≠ 0) (y z : List UInt8) (hy : y.length ≤ 4000000) : openF (frame kind y ++ z) = ((kind.toNat : Int), y, ((frame kind y).length : Int), 0) := by
  obtain ⟨t, ht, ht2, hf⟩ := frame_parts kind y
  have hlen := frame_len kind y
  have hx : frame kind y ++ z = (65 : UInt8) :: 71 :: kind :: (enc y.length ++ (y ++ (t ++ z))) := by rw [hf]; simp only [List.append_assoc, List.cons_append]
  have hx2 : frame kind y ++ z = ([65, 71, kind] ++ enc y.length) ++ (y ++ (t ++ z)) := by rw [hx]; simp only [List.append_assoc, List.cons_append, List.nil_append]
  have hL : (frame kind y ++ z).length = 3 + (enc y.length).length + y.length + 4 + z.length := by rw [List.length_append, hlen]
  have h3 : ([65, 71, kind] ++ enc y.length).length = 3 + (enc y.length).length := by simp only [List.length_append, List.length_cons, List.length_nil]
  unfold openF
  rw [if_neg (by omega)]
  have hr : readU ((frame kind y ++ z).drop 3) = (UInt64.ofNat y.length, ((enc y.length).length : Int), 0) := by
    rw [hx, List.drop_succ_cons, List.drop_succ_cons, List.drop_succ_cons, List.drop_zero, readU_nat hy]
  rw [if_neg (by rw [hx]; show ¬ ((65 : UInt8).toNat ≠ 65 ∨ (71 : UInt8).toNat ≠ 71 ∨ kind.toNat = 0); simp [hk]), hr]
  dsimp only
  rw [if_neg (by decide), ofNat_len hy, if_neg (by omega)]
  unfold openAt
  rw [if_neg (by rw [Int.toNat_natCast]; omega), Int.toNat_natCast]
  have t1 : (frame kind y ++ z).take (3 + (enc y.length).length + y.length) = [65, 71, kind] ++ enc y.length ++ y := by
    rw [hx2, ← List.append_assoc]
    exact List.take_left' (by rw [List.length_append, h3])
  have t2 : ((frame kind y ++ z).drop (3 + (enc y.length).length + y.length)).take 4 = t := by
    rw [hx2, ← List.append_assoc, List.drop_left' (by rw [List.length_append, h3])]
    exact List.take_left' ht
  have t3 : ((frame kind y ++ z).drop (3 + (enc y.length).length)).take y.length = y := by
    rw [hx2, List.drop_left' h3, List.take_left]
  rw [t1, t2, t3, ← ht2, if_pos rfl, hlen, hx]
  rfl
def bytesF (l : List JournalRecord) : List UInt8 := l.flatMap frameR
def goodR (r : JournalRecord) : Prop := 1 ≤ r.Kind ∧ r.Kind ≤ 255 ∧ r.Body.length ≤ 100000
theorem kind_of {r : JournalRecord} (h : goodR r) : ((UInt8.ofInt r.Kind).toNat : Int) = r.Kind := by
  obtain ⟨h1, h2, _⟩ := h
  show (((UInt8.ofNat (r.Kind % 2 ^ 8).toNat).toNat : Nat) : Int) = _
  rw [UInt8.toNat_ofNat']
  omega
theorem open_R {r : JournalRecord} (h : goodR r) (z : List UInt8) : openF (frameR r ++ z) = (r.Kind, r.Body, ((frameR r).length : Int), 0) := by
  have hk := kind_of h
  obtain ⟨h1, h2, h3⟩ := h
  unfold frameR
  rw [open_frame _ (by omega) _ _ (by omega), hk]
theorem frs_stop (n : Nat) (z : List UInt8) (h : (openF z).2.2.2 ≠ 0) : frs n z = [] := by
  cases n with
  | zero => rfl
  | succ n => rw [frs, if_pos h]
theorem frs_bytes : ∀ (l : List JournalRecord) (n : Nat) (z : List UInt8), (∀ r ∈ l, goodR r) → l.length ≤ n → frs n (bytesF l ++ z) = l.map (fun r => (r, (frameR r).length)) ++ frs (n - l.length) z
  | [], n, z, _, _ => by simp [bytesF]
  | r :: l, n, z, hg, hn => by
    obtain ⟨n, rfl⟩ : ∃ m, n = m + 1 := ⟨n - 1, by simp at hn; omega⟩
    have hb : bytesF (r :: l) ++ z = frameR r ++ (bytesF l ++ z) := by simp [bytesF]
    have ho := open_R (hg r (by simp)) (bytesF l ++ z)
    rw [hb, frs, ho, if_neg (by simp), Int.toNat_natCast, List.drop_left, frs_bytes l n z (fun r hr => hg r (by simp [hr])) (by simp at hn; omega)]
    simp
theorem frs_all (l : List JournalRecord) (n : Nat) (z : List UInt8) (hg : ∀ r ∈ l, goodR r) (hn : l.length ≤ n) (hz : (openF z).2.2.2 ≠ 0) : frs n (bytesF l ++ z) = l.map (fun r => (r, (frameR r).length)) := by
  rw [frs_bytes l n z hg hn, frs_stop _ z hz, List.append_nil]
theorem total_bytes (l : List JournalRecord) : total (l.map (fun r => (r, (frameR r).length))) = (bytesF l).length := by
  induction l with
  | nil => rfl
  | cons r l ih => simp [total, bytesF] at ih ⊢; omega
theorem map_fst (l : List JournalRecord) : (l.map (fun r => (r, (frameR r).length))).map (·.1) = l := by
  induction l with
  | nil => rfl
  | cons r l ih => rw [List.map_cons, List.map_cons, ih]
theorem open_nil : (openF []).2.2.2 ≠ 0 := by decide
end Md
end Go.Proofs.Ytkcfkcgclljncaa
