/-
  Law 27 in plain words: JournalAppends, JournalScans, JournalRecovers. Conditions: none.
-/
import Derived.Test.YtkcfkcgclljncaaJourPb
namespace Go.Proofs.Ytkcfkcgclljncaa
set_option linter.unusedVariables false
set_option linter.unusedSimpArgs false
namespace Md
theorem awake_data : (appendR ⟨[], 100, false, 0, 0, false⟩ ⟨7, [120]⟩) = (⟨frameR ⟨7, [120]⟩, 100, false, 0, 0, false⟩, 0) := by decide +kernel
theorem awake27 (k : Nat) (hk : 200 ≤ k) (hk2 : k ≤ 100000) : actorgridlaw27_awake k = some true := by
  have hg : ∀ r ∈ [(⟨7, [120]⟩ : JournalRecord)], goodR r := fun r hr => by
    rcases List.mem_singleton.1 hr with rfl
    exact ⟨by decide, by decide, by decide⟩
  have hl := frameR_len ⟨7, [120]⟩ (by decide)
  have hl' : (frameR ⟨7, [120]⟩).length ≤ 13 := hl.1
  have hf := frs_all [⟨7, [120]⟩] k [] hg (by simp; omega) open_nil
  have hb : bytesF [⟨7, [120]⟩] ++ [] = frameR ⟨7, [120]⟩ := by simp [bytesF]
  rw [hb] at hf
  unfold actorgridlaw27_awake
  rw [new_eq, bind_e rfl, show newD 100 = (⟨[], 100, false, 0, 0, false⟩, 0) from by decide]
  dsimp only
  rw [jappend_eq k _ _ (by simp) (by simp; omega) hk2 (by simp) (by simp), bind_e rfl, awake_data]
  dsimp only
  rw [recover_eq k _ (by dsimp only; omega) (by dsimp only; omega) (by simp), bind_e rfl]
  have hr : recoverR k ⟨frameR ⟨7, [120]⟩, 100, false, 0, 0, false⟩ = ([⟨7, [120]⟩], ⟨frameR ⟨7, [120]⟩, 100, false, 0, 0, false⟩, 0) := by
    unfold recoverR
    dsimp only
    rw [if_neg (by decide +kernel), if_neg (by simp), hf, if_neg]
    · rfl
    · show ¬ ((frameR ⟨7, [120]⟩).length + 0 < (frameR ⟨7, [120]⟩).length)
      omega
  rw [hr, walk1_eq k _ (by omega) (by omega), bind_e rfl, hf]
  rfl
theorem JournalAppends_law (a0 : Disk) (a1 : JournalRecord) (h0 : a0.ok) (h1 : a1.ok) : ∃ k, actorgridlaw27_JournalAppends k a0 a1 = some true := by
  refine ⟨5000, ?_⟩
  have hw : a0.Writes ≤ 9223372036854775807 := by unfold Disk.ok at h0; have := h0; unfold I64 at this; omega
  unfold actorgridlaw27_JournalAppends
  rw [awake27 _ (by omega) (by omega), bind_e rfl, Bool.not_true, cond_false]
  by_cases hd : ((a0.Data.length : Nat) : Int) > 3000
  · rw [decide_eq_true hd]; rfl
  by_cases hb : ((a1.Body.length : Nat) : Int) > 3000
  · rw [decide_eq_true hb, Bool.or_true]; rfl
  rw [decide_eq_false hd, decide_eq_false hb, Bool.or_self, cond_false, jappend_eq _ _ _ (by omega) (by omega) (by omega) (by omega) hw, bind_e rfl, jappend_ref _ _ _ (by omega) (by omega) (by omega) (by omega) hw, bind_e rfl, beq_self_eq_true, cond_true, sameD_eq, bind_e rfl, cond_true]
  unfold journal_ValidRecord actorgridref26_ValidRecord
  rw [bind_e rfl, bind_e rfl, beq_self_eq_true]
theorem bytes_loop (k : Nat) (hk2 : k ≤ 100000) (l : List JournalRecord) (hl : l.length ≤ 20) (hb : ∀ r ∈ l, r.Body.length ≤ 300) (hk : 400 ≤ k) : ∀ (n i : Nat) (acc : List UInt8), i ≤ l.length → l.length - i < n → acc.length ≤ i * 320 →
    ∃ out, actorgridlaw27_bytes_loop1 k l n i acc = some out ∧ out.length ≤ 6400
  | 0, i, _, _, h, _ => by omega
  | n + 1, i, acc, hi, h, ha => by
    unfold actorgridlaw27_bytes_loop1
    by_cases hl2 : i < l.length
    · have hbi : (l.getD i default).Body.length ≤ 300 := hb _ (by rw [List.getD_eq_getElem?_getD, List.getElem?_eq_getElem hl2]; exact List.getElem_mem hl2)
      rw [decide_eq_true (by omega), cond_true, ifp_pos hl2, ifp_pos hl2, seal_ref k _ _ (by omega) (by omega) hk2, bind_e rfl]
      have hs : (sealF (l.getD i default).Kind (l.getD i default).Body).1.length ≤ 320 := by
        unfold sealF
        split
        · simp
        · rw [frame_len]
          have := enc_len5 (n := (l.getD i default).Body.length) (by omega)
          omega
      cases hz : ((sealF (l.getD i default).Kind (l.getD i default).Body).2 == 0) with
      | true =>
        rw [cond_true, ifp_pos (by omega), bind_e rfl, ifp_pos (by omega)]
        exact bytes_loop k hk2 l hl hb hk n (i + 1) _ (by omega) (by omega) (by rw [List.length_append]; omega)
      | false =>
        rw [cond_false, bind_e rfl, ifp_pos (by omega)]
        have ha' : acc.length ≤ (i + 1) * 320 := by rw [Nat.add_mul]; exact Nat.le_trans ha (Nat.le_add_right _ _)
        exact bytes_loop k hk2 l hl hb hk n (i + 1) acc (by omega) (by omega) ha'
    · rw [decide_eq_false (by omega), cond_false]
      exact ⟨acc, rfl, by omega⟩
theorem bytes_some (k : Nat) (hk : 400 ≤ k) (hk2 : k ≤ 100000) (l : List JournalRecord) (hl : l.length ≤ 20) (hb : ∀ r ∈ l, r.Body.length ≤ 300) (more : List UInt8) (hm : more.length ≤ 500) : ∃ out, actorgridlaw27_bytes k l more = some out ∧ out.length ≤ 6900 := by
  obtain ⟨out, h1, h2⟩ := bytes_loop k hk2 l hl hb hk k 0 [] (Nat.zero_le _) (by omega) (by simp)
  unfold actorgridlaw27_bytes
  rw [h1, bind_e rfl, ifp_pos (by omega)]
  exact ⟨_, rfl, by rw [List.length_append]; omega⟩
/-- The test of the bodies' lengths. -/
theorem bodies_S (k : Nat) (l : List JournalRecord) (hl : l.length ≤ 20) : ∀ (n i : Nat), i ≤ l.length → l.length - i < n → actorgridlaw27_JournalScans_loop1 k l n i = some (.inr true) ∨ (actorgridlaw27_JournalScans_loop1 k l n i = some (.inl ()) ∧ ∀ j, i ≤ j → j < l.length → (l.getD j default).Body.length ≤ 300)
  | 0, i, _, h => by omega
  | n + 1, i, hi, h => by
    unfold actorgridlaw27_JournalScans_loop1
    by_cases hl2 : i < l.length
    · rw [decide_eq_true (by omega), cond_true, ifp_pos hl2]
      by_cases hb : (((l.getD i default).Body.length : Nat) : Int) > 300
      · rw [decide_eq_true hb]; exact .inl rfl
      · rw [decide_eq_false hb, cond_false, ifp_pos (by omega)]
        rcases bodies_S k l hl n (i + 1) (by omega) (by omega) with h1 | ⟨h1, h2⟩
        · exact .inl h1
        · refine .inr ⟨h1, fun j h3 h4 => ?_⟩
          by_cases hj : j = i
          · subst hj; omega
          · exact h2 j (by omega) h4
    · rw [decide_eq_false (by omega)]
      exact .inr ⟨rfl, fun j h1 h2 => by omega⟩
theorem getD_all {l : List JournalRecord} (h : ∀ j, 0 ≤ j → j < l.length → (l.getD j default).Body.length ≤ 300) : ∀ r ∈ l, r.Body.length ≤ 300 := fun r hr => by
  obtain ⟨j, hj⟩ := List.mem_iff_getElem?.1 hr
  obtain ⟨hlt, e⟩ := List.getElem?_eq_some_iff.1 hj
  have := h j (Nat.zero_le _) hlt
  rw [List.getD_eq_getElem?_getD, hj] at this
  exact this
theorem offs_at : ∀ (f : List (JournalRecord × Nat)) (p j : Nat), j < f.length → ∃ q, (offs p f)[j]? = some (q, (f.map (·.1)).getD j default) ∧ ((offs p f).map (fun x => (x.1 : Int))).getD j default = (q : Int)
  | [], _, _, h => by simp at h
  | x :: f, p, 0, h => ⟨p, rfl, rfl⟩
  | x :: f, p, j + 1, h => by
    obtain ⟨q, h1, h2⟩ := offs_at f (p + x.2) j (by simpa using h)
    exact ⟨q, by simpa [offs] using h1, by simpa [offs] using h2⟩
theorem offs_len : ∀ (f : List (JournalRecord × Nat)) (p : Nat), (offs p f).length = f.length
  | [], _ => rfl
  | x :: f, p => by simp [offs, offs_len f]
theorem walk_loop (k : Nat) (f : List (JournalRecord × Nat)) (hf : f.length ≤ 4000000) (t : Int) : ∀ (n j : Nat), j + n = f.length → actorgridlaw27_JournalScans_loop2 k (f.map (·.1), (offs 0 f).map (fun x => (x.1 : Int)), t) (castW ((offs 0 f).drop j)) j = some (.inl f.length)
  | 0, j, h => by
    rw [List.drop_of_length_le (by rw [offs_len]; omega)]
    show some (Sum.inl j) = _
    rw [show j = f.length by omega]
  | n + 1, j, h => by
    have hj : j < f.length := by omega
    obtain ⟨q, h1, h2⟩ := offs_at f 0 j hj
    have hd : (offs 0 f).drop j = (q, (f.map (·.1)).getD j default) :: (offs 0 f).drop (j + 1) := by
      obtain ⟨hlt, e⟩ := List.getElem?_eq_some_iff.1 h1
      rw [List.drop_eq_getElem_cons hlt, e]
    rw [hd]
    show actorgridlaw27_JournalScans_loop2 k _ (((q : Int), (f.map (·.1)).getD j default) :: castW ((offs 0 f).drop (j + 1))) j = _
    unfold actorgridlaw27_JournalScans_loop2
    have hl1 : (f.map (·.1)).length = f.length := by simp
    have hl2 : ((offs 0 f).map (fun x => (x.1 : Int))).length = f.length := by simp [offs_len]
    dsimp only
    rw [decide_eq_false (by omega), cond_false, ifp_pos (by omega), h2, bne_self_eq_false, cond_false, ifp_pos (by omega), bne_self_eq_false, cond_false, ifp_pos (by omega), decide_eq_true rfl, Bool.not_true, cond_false, ifp_pos (by omega)]
    exact walk_loop k f hf t n (j + 1) (by omega)
theorem JournalScans_law (a0 : List JournalRecord) (a1 : List UInt8) (a2 : UInt16) (h0 : ∀ y ∈ a0, y.ok) : ∃ k, actorgridlaw27_JournalScans k a0 a1 a2 = some true := by
  refine ⟨8000, ?_⟩
  unfold actorgridlaw27_JournalScans
  rw [awake27 _ (by omega) (by omega), bind_e rfl, Bool.not_true, cond_false]
  by_cases hl : ((a0.length : Nat) : Int) > 20
  · rw [decide_eq_true hl]; rfl
  by_cases hm : ((a1.length : Nat) : Int) > 500
  · rw [decide_eq_true hm, Bool.or_true]; rfl
  rw [decide_eq_false hl, decide_eq_false hm, Bool.or_self, cond_false]
  rcases bodies_S 8000 a0 (by omega) 8000 0 (Nat.zero_le _) (by omega) with h1 | ⟨h1, h2⟩
  · rw [h1]; rfl
  obtain ⟨out, h3, h4⟩ := bytes_some 8000 (by omega) (by omega) a0 (by omega) (getD_all h2) a1 (by omega)
  rw [h1, bind_e rfl]
  show Option.bind _ _ = _
  rw [h3, bind_e rfl, ifp_pos (by omega)]
  have hlen : (out.take (min out.length a2.toNat)).length ≤ 6900 := by rw [List.length_take]; omega
  generalize out.take (min out.length a2.toNat) = b at hlen ⊢
  have hfl := frs_len 8000 b (by omega)
  rw [scan_eq _ b (by omega) (by omega), bind_e rfl, scan_ref _ b (by omega) (by omega), bind_e rfl]
  dsimp only
  rw [bne_self_eq_false, cond_false, sameR_eq _ _ (by rw [List.length_map]; omega) (by rw [List.length_map]; omega), bind_e rfl, Bool.not_true, bind_e rfl, cond_false, walk1_eq _ b (by omega) (by omega), bind_e rfl]
  have := walk_loop 8000 (frs 8000 b) (by omega) ((total (frs 8000 b) : Nat) : Int) (frs 8000 b).length 0 (by omega)
  rw [List.drop_zero] at this
  rw [this, bind_e rfl]
  show some _ = _
  rw [List.length_map, beq_self_eq_true]
theorem bodies_R (k : Nat) (l : List JournalRecord) (hl : l.length ≤ 20) : ∀ (n i : Nat), i ≤ l.length → l.length - i < n → actorgridlaw27_JournalRecovers_loop1 k l n i = some (.inr true) ∨ (actorgridlaw27_JournalRecovers_loop1 k l n i = some (.inl ()) ∧ ∀ j, i ≤ j → j < l.length → (l.getD j default).Body.length ≤ 300)
  | 0, i, _, h => by omega
  | n + 1, i, hi, h => by
    unfold actorgridlaw27_JournalRecovers_loop1
    by_cases hl2 : i < l.length
    · rw [decide_eq_true (by omega), cond_true, ifp_pos hl2]
      by_cases hb : (((l.getD i default).Body.length : Nat) : Int) > 300
      · rw [decide_eq_true hb]; exact .inl rfl
      · rw [decide_eq_false hb, cond_false, ifp_pos (by omega)]
        rcases bodies_R k l hl n (i + 1) (by omega) (by omega) with h1 | ⟨h1, h2⟩
        · exact .inl h1
        · refine .inr ⟨h1, fun j h3 h4 => ?_⟩
          by_cases hj : j = i
          · subst hj; omega
          · exact h2 j (by omega) h4
    · rw [decide_eq_false (by omega)]
      exact .inr ⟨rfl, fun j h1 h2 => by omega⟩
theorem recoverR_len (k : Nat) (d : Disk) (hd : d.Data.length ≤ 3000000) : (recoverR k d).1.length ≤ d.Data.length := by
  have := frs_len k d.Data hd
  unfold recoverR
  repeat' split
  all_goals (try rw [List.length_map]) <;> simp <;> omega
theorem JournalRecovers_law (a0 : List JournalRecord) (a1 : List UInt8) (a2 : Disk) (h0 : ∀ y ∈ a0, y.ok) (h2 : a2.ok) : ∃ k, actorgridlaw27_JournalRecovers k a0 a1 a2 = some true := by
  refine ⟨8000, ?_⟩
  have hw : a2.Writes ≤ 9223372036854775807 := by unfold Disk.ok at h2; unfold I64 at h2; omega
  unfold actorgridlaw27_JournalRecovers
  rw [awake27 _ (by omega) (by omega), bind_e rfl, Bool.not_true, cond_false]
  by_cases hl : ((a0.length : Nat) : Int) > 20
  · rw [decide_eq_true hl]; rfl
  by_cases hm : ((a1.length : Nat) : Int) > 500
  · rw [decide_eq_true hm, Bool.or_true]; rfl
  by_cases hd : ((a2.Data.length : Nat) : Int) > 2000
  · rw [decide_eq_true hd, Bool.or_true]; rfl
  rw [decide_eq_false hl, decide_eq_false hm, decide_eq_false hd, Bool.or_self, Bool.or_self, cond_false]
  rcases bodies_R 8000 a0 (by omega) 8000 0 (Nat.zero_le _) (by omega) with h1 | ⟨h1, h2⟩
  · rw [h1]; rfl
  obtain ⟨out, h3, h4⟩ := bytes_some 8000 (by omega) (by omega) a0 (by omega) (getD_all h2) a1 (by omega)
  rw [h1, bind_e rfl]
  show Option.bind _ _ = _
  rw [h3, bind_e rfl]
  have step : ∀ d : Disk, d.Data.length ≤ 7000 → d.Writes ≤ 9223372036854775807 → ∀ {R : Type} (F : Option R) (G : Option R),
      ((journal_Recover 8000 d).bind fun x11 => (actorgridref26_RecoverRecords 8000 d).bind fun x12 => ((bif (x11.2.2 != x12.2.2) then (some true) else ((actorgridref26_SameRecords 8000 x11.1 x12.1).bind fun x18 => some (!x18))) : Option Bool).bind fun x13 => ((bif x13 then (some true) else ((actorgridref26_SameDisk 8000 x11.2.1 x12.2.1).bind fun x17 => some (!x17))) : Option Bool).bind fun x14 => bif x14 then F else G) = G := fun d h5 h6 R F G => by
    have := recoverR_len 8000 d (by omega)
    rw [recover_eq _ d (by omega) (by omega) h6, bind_e rfl, recover_ref _ d (by omega) (by omega) h6, bind_e rfl, bne_self_eq_false, cond_false, sameR_eq _ _ (by omega) (by omega), bind_e rfl, Bool.not_true, bind_e rfl, cond_false, sameD_eq, bind_e rfl, Bool.not_true, bind_e rfl, cond_false]
  have hloop : actorgridlaw27_JournalRecovers_loop2 8000 a2 out 8000 0 = some (.inl ()) := by
    unfold actorgridlaw27_JournalRecovers_loop2
    rw [decide_eq_true (by simp), cond_true, ifp_pos (by simp)]
    refine (step a2 (by omega) hw _ _).trans ?_
    rw [ifp_pos (by omega)]
    unfold actorgridlaw27_JournalRecovers_loop2
    rw [decide_eq_true (by simp), cond_true, ifp_pos (by simp)]
    refine (step ⟨out, a2.Capacity, a2.Armed, a2.Writes, a2.Keep, a2.Down⟩ (by dsimp only; omega) hw _ _).trans ?_
    rw [ifp_pos (by omega)]
    rfl
  rw [hloop]
  rfl
end Md
end Go.Proofs.Ytkcfkcgclljncaa
