/-
  Law StoreSequences. Conditions: none.
-/
import Derived.Test.YtkcfkcgclljncaaStorR
import Derived.Test.YtkcfkcgclljncaaStorQM
namespace Go.Proofs.Ytkcfkcgclljncaa
set_option linter.unusedVariables false
set_option linter.unusedSimpArgs false
namespace Md
/-- A disk of a small capacity. -/
def DI (d : Disk) : Prop := valid d = true ∧ d.Capacity ≤ 65535 ∧ d.Writes ≤ 1000 ∧ d.Keep ≤ 1000
theorem valid_iff (d : Disk) : valid d = true ↔ (0 ≤ d.Capacity ∧ d.Capacity ≤ 1048576 ∧ (d.Data.length : Int) ≤ d.Capacity ∧ 0 ≤ d.Writes ∧ 0 ≤ d.Keep) ∧ (d.Armed = true → d.Down = false) ∧ (d.Armed = false → d.Writes = 0 ∧ d.Keep = 0) := by
  unfold valid
  cases d.Armed <;> simp
theorem DI.facts {d : Disk} (h : DI d) : 0 ≤ d.Capacity ∧ d.Data.length ≤ 65535 ∧ (d.Data.length : Int) ≤ d.Capacity ∧ 0 ≤ d.Writes ∧ 0 ≤ d.Keep := by
  obtain ⟨⟨h1, h2, h3, h4, h5⟩, _⟩ := (valid_iff d).1 h.1
  have := h.2.1
  exact ⟨h1, by omega, h3, h4, h5⟩
theorem DI.ok {d : Disk} (h : DI d) : d.ok := by
  obtain ⟨h1, h2, h3, h4, h5⟩ := h.facts
  obtain ⟨_, h6, h7, h8⟩ := h
  unfold Disk.ok I64
  omega
theorem DI.zero : DI zeroD := ⟨by decide, by decide, by decide, by decide⟩
theorem DI.appendD {d : Disk} (h : DI d) (b : List UInt8) : DI (appendD d b).1 := by
  obtain ⟨⟨h1, h2, h3, h4, h5⟩, ha, hn⟩ := (valid_iff d).1 h.1
  obtain ⟨hv, h6, h7, h8⟩ := h
  have hh : DI d := ⟨hv, h6, h7, h8⟩
  unfold Md.appendD
  rw [hv, if_neg (by simp)]
  by_cases c1 : d.Down = true
  · rw [if_pos c1]; exact hh
  rw [if_neg c1]
  by_cases c2 : (b.length : Int) > d.Capacity - d.Data.length
  · rw [if_pos c2]; exact hh
  rw [if_neg c2]
  by_cases c3 : d.Armed = true ∧ d.Writes = 0
  · rw [if_pos c3]
    have hl : (d.Data ++ b.take (min d.Keep.toNat b.length)).length ≤ d.Data.length + b.length := by rw [List.length_append, List.length_take]; omega
    exact ⟨(valid_iff _).2 ⟨⟨h1, h2, by dsimp only; omega, Int.le_refl 0, Int.le_refl 0⟩, fun e => (by cases e), fun _ => ⟨rfl, rfl⟩⟩, h6, by dsimp only; omega, by dsimp only; omega⟩
  · rw [if_neg c3]
    have hl : (d.Data ++ b).length = d.Data.length + b.length := List.length_append
    cases hA : d.Armed with
    | true =>
      have hw : d.Writes ≠ 0 := fun e => c3 ⟨hA, e⟩
      exact ⟨(valid_iff _).2 ⟨⟨h1, h2, by dsimp only; omega, by dsimp only; rw [if_pos rfl]; omega, h5⟩, fun _ => ha hA, fun e => (by cases e)⟩, h6, by dsimp only; rw [if_pos rfl]; omega, h8⟩
    | false =>
      exact ⟨(valid_iff _).2 ⟨⟨h1, h2, by dsimp only; omega, by dsimp only; rw [if_neg (by simp)]; omega, h5⟩, fun e => (by cases e), fun _ => ⟨by dsimp only; rw [if_neg (by simp)]; exact (hn hA).1, (hn hA).2⟩⟩, h6, by dsimp only; rw [if_neg (by simp)]; omega, h8⟩
theorem DI.appendR {d : Disk} (h : DI d) (r : JournalRecord) : DI (appendR d r).1 := by
  unfold Md.appendR
  split
  · exact DI.zero
  · exact h.appendD _
theorem DI.trunc {d : Disk} (h : DI d) (n : Int) : DI (truncD d n).1 := by
  obtain ⟨⟨h1, h2, h3, h4, h5⟩, ha, hn⟩ := (valid_iff d).1 h.1
  obtain ⟨hv, h6, h7, h8⟩ := h
  have hh : DI d := ⟨hv, h6, h7, h8⟩
  have ht : (d.Data.take n.toNat).length ≤ d.Data.length := by rw [List.length_take]; omega
  unfold truncD
  rw [hv, if_neg (by simp)]
  by_cases c1 : d.Down = true
  · rw [if_pos c1]; exact hh
  rw [if_neg c1]
  by_cases c2 : n < 0 ∨ (d.Data.length : Int) < n
  · rw [if_pos c2]; exact hh
  rw [if_neg c2]
  by_cases c3 : d.Armed = true ∧ d.Writes = 0
  · rw [if_pos c3]
    refine ⟨(valid_iff _).2 ⟨⟨h1, h2, ?_, Int.le_refl 0, Int.le_refl 0⟩, fun e => (by cases e), fun _ => ⟨rfl, rfl⟩⟩, h6, by dsimp only; omega, by dsimp only; omega⟩
    dsimp only
    split <;> omega
  · rw [if_neg c3]
    cases hA : d.Armed with
    | true =>
      have hw : d.Writes ≠ 0 := fun e => c3 ⟨hA, e⟩
      exact ⟨(valid_iff _).2 ⟨⟨h1, h2, by dsimp only; omega, by dsimp only; rw [if_pos rfl]; omega, h5⟩, fun _ => ha hA, fun e => (by cases e)⟩, h6, by dsimp only; rw [if_pos rfl]; omega, h8⟩
    | false =>
      exact ⟨(valid_iff _).2 ⟨⟨h1, h2, by dsimp only; omega, by dsimp only; rw [if_neg (by simp)]; omega, h5⟩, fun e => (by cases e), fun _ => ⟨by dsimp only; rw [if_neg (by simp)]; exact (hn hA).1, (hn hA).2⟩⟩, h6, by dsimp only; rw [if_neg (by simp)]; omega, h8⟩
theorem DI.restart {d : Disk} (h : DI d) : (restartD d).2 = 0 ∧ DI (restartD d).1 := by
  obtain ⟨h1, h2, h3, h4, h5⟩ := h.facts
  have h6 := h.2.1
  unfold restartD
  rw [h.1, if_neg (by simp)]
  exact ⟨rfl, (valid_iff _).2 ⟨⟨h1, by dsimp only; omega, h3, Int.le_refl 0, Int.le_refl 0⟩, fun e => (by cases e), fun _ => ⟨rfl, rfl⟩⟩, h6, by dsimp only; omega, by dsimp only; omega⟩
theorem DI.arm {d : Disk} (h : DI d) {w k : Nat} (hw : w ≤ 1000) (hk : k ≤ 1000) : DI (armD d w k).1 := by
  obtain ⟨h1, h2, h3, h4, h5⟩ := h.facts
  have h6 := h.2.1
  unfold armD
  split
  · exact DI.zero
  split
  · exact DI.zero
  · rename_i hd
    exact ⟨(valid_iff _).2 ⟨⟨h1, by dsimp only; omega, h3, by dsimp only; omega, by dsimp only; omega⟩, fun _ => by simpa using hd, fun e => (by cases e)⟩, h6, by dsimp only; omega, by dsimp only; omega⟩
def SI (s : Store) : Prop := (DI s.Disks.x0 ∧ DI s.Disks.x1) ∧ I64 s.Current ∧ I64 s.Number ∧ I64 s.Base ∧ I64 s.Count
theorem SI.ok {s : Store} (h : SI s) : s.ok := ⟨⟨h.1.1.ok, h.1.2.ok⟩, h.2⟩
theorem SI.zero : SI zeroS := ⟨⟨DI.zero, DI.zero⟩, by simp [zeroS, I64], by simp [zeroS, I64], by simp [zeroS, I64], by simp [zeroS, I64]⟩
theorem SI.set {s : Store} (h : SI s) {i : Int} {d : Disk} (hd : DI d) : DI (setD s i d).Disks.x0 ∧ DI (setD s i d).Disks.x1 := by
  by_cases hi : i = 0
  · rw [setD0 hi]; exact ⟨hd, h.1.2⟩
  · rw [setD1 hi]; exact ⟨h.1.1, hd⟩
theorem set_cur (s : Store) (i : Int) (d : Disk) : (setD s i d).Current = s.Current ∧ (setD s i d).Number = s.Number ∧ (setD s i d).Base = s.Base ∧ (setD s i d).Count = s.Count := by
  by_cases hi : i = 0
  · rw [setD0 hi]; exact ⟨rfl, rfl, rfl, rfl⟩
  · rw [setD1 hi]; exact ⟨rfl, rfl, rfl, rfl⟩
theorem SI.cur {s : Store} (h : SI s) : DI (cur s) := by
  unfold Md.cur
  split
  · exact h.1.1
  · exact h.1.2
theorem SI.other {s : Store} (h : SI s) : DI (otherD s) := by
  unfold otherD
  split
  · exact h.1.1
  · exact h.1.2
theorem SI.put {s : Store} (k : Nat) (h : SI s) (b : List UInt8) : SI (putS k s b).1 := by
  unfold putS
  split
  · exact SI.zero
  · rename_i hc
    have hv : okS k s = true := by
      cases hv : okS k s with
      | true => rfl
      | false => exact absurd (.inl hv) hc
    obtain ⟨_, _, hr, _⟩ := okS_facts hv
    unfold rangeOk at hr
    have hd := h.set (i := s.Current) (h.cur.appendR ⟨2, b⟩)
    obtain ⟨e1, e2, e3, e4⟩ := set_cur s s.Current (appendR (Md.cur s) ⟨2, b⟩).1
    unfold putR
    dsimp only
    split
    · exact ⟨hd, h.2.1, h.2.2.1, h.2.2.2.1, by dsimp only; unfold I64; omega⟩
    · exact ⟨hd, by rw [e1]; exact h.2.1, by rw [e2]; exact h.2.2.1, by rw [e3]; exact h.2.2.2.1, by rw [e4]; exact h.2.2.2.2⟩
theorem SI.ck {s : Store} (k : Nat) (h : SI s) (st : List UInt8) : SI (ckS k s st).1 := by
  unfold ckS
  split
  · exact SI.zero
  · rename_i hc
    have hv : okS k s = true := by
      cases hv : okS k s with
      | true => rfl
      | false => exact absurd (.inl hv) hc
    obtain ⟨_, _, hr, _⟩ := okS_facts hv
    unfold rangeOk at hr
    have hx : DI (ckX s (headB (s.Number + 1).toNat (s.Base + s.Count).toNat st)).1 := by
      unfold ckX
      split
      · exact (h.other.trunc 0).appendR _
      · exact h.other.trunc 0
    generalize ckX s (headB (s.Number + 1).toNat (s.Base + s.Count).toNat st) = x at hx
    have hd := h.set (i := 1 - s.Current) hx
    obtain ⟨e1, e2, e3, e4⟩ := set_cur s (1 - s.Current) x.1
    unfold ckR
    split
    · exact ⟨hd, by rw [e1]; exact h.2.1, by rw [e2]; exact h.2.2.1, by rw [e3]; exact h.2.2.2.1, by rw [e4]; exact h.2.2.2.2⟩
    · exact ⟨hd, by dsimp only; unfold I64; omega, by dsimp only; unfold I64; omega, by dsimp only; unfold I64; omega, by dsimp only; unfold I64; omega⟩
theorem contents_le {l : List JournalRecord} {n : Nat} {c : StoreContents} (h : contentsC l = some (n, c)) : n ≤ 1099511627776 ∧ 0 ≤ c.Base ∧ c.Base + c.Entries.length ≤ 1099511627776 := by
  cases l with
  | nil => cases h
  | cons r l =>
    by_cases h1 : r.Kind = 1
    · rw [contentsC_one h1] at h
      cases hp : parseH r.Body with
      | none => rw [hp] at h; cases h
      | some q =>
        obtain ⟨n0, b, st⟩ := q
        have hn : n0 ≤ 1099511627776 := by
          unfold parseH at hp
          repeat' split at hp
          all_goals first | (cases hp; done) | (cases hp; omega)
        rw [hp] at h
        dsimp only at h
        cases he : entriesC l with
        | none => rw [he] at h; cases h
        | some es =>
          rw [he] at h
          dsimp only at h
          split at h
          · cases h
          · cases h
            dsimp only
            omega
    · rw [contentsC_no h1] at h; cases h
theorem SI.rec {k : Nat} {a b : Disk} (ha : DI a) (hb : DI b) : SI (recS k a b).1 := by
  have hf : ∀ (i : Int) (n : Nat) (c : StoreContents), (i = 0 ∨ i = 1) → (n ≤ 1099511627776 ∧ 0 ≤ c.Base ∧ c.Base + (c.Entries.length : Int) ≤ 1099511627776) → SI (finS k a b i n c).1 := fun i n c hi hc => by
    have hI : I64 i := by unfold I64; omega
    have hN : I64 (n : Int) := by unfold I64; omega
    have hB : I64 c.Base := by unfold I64; omega
    have hE : I64 (c.Entries.length : Int) := by unfold I64; omega
    unfold finS
    rcases hi with rfl | rfl
    · rw [if_pos rfl]
      by_cases h1 : total (frs k a.Data) < a.Data.length
      · rw [if_pos h1]
        by_cases h2 : (truncD a (total (frs k a.Data))).2 ≠ 0
        · rw [if_pos h2]; exact SI.zero
        · rw [if_neg h2, if_pos rfl]; exact ⟨⟨ha.trunc _, hb⟩, hI, hN, hB, hE⟩
      · rw [if_neg h1]; exact ⟨⟨ha, hb⟩, hI, hN, hB, hE⟩
    · rw [if_neg (show ¬ (1 : Int) = 0 by decide)]
      by_cases h1 : total (frs k b.Data) < b.Data.length
      · rw [if_pos h1]
        by_cases h2 : (truncD b (total (frs k b.Data))).2 ≠ 0
        · rw [if_pos h2]; exact SI.zero
        · rw [if_neg h2, if_neg (show ¬ (1 : Int) = 0 by decide)]; exact ⟨⟨ha, hb.trunc _⟩, hI, hN, hB, hE⟩
      · rw [if_neg h1]; exact ⟨⟨ha, hb⟩, hI, hN, hB, hE⟩
  unfold recS
  split
  · exact SI.zero
  split
  · exact SI.zero
  split
  · exact SI.zero
  · rename_i i n c hp
    unfold usable pick2 at hp
    cases h0 : contentsC (recs k a.Data) with
    | none =>
      cases h1 : contentsC (recs k b.Data) with
      | none => rw [h0, h1] at hp; cases hp
      | some q => rw [h0, h1] at hp; cases hp; exact hf _ _ _ (.inr rfl) (contents_le h1)
    | some p =>
      cases h1 : contentsC (recs k b.Data) with
      | none => rw [h0, h1] at hp; cases hp; exact hf _ _ _ (.inl rfl) (contents_le h0)
      | some q =>
        rw [h0, h1] at hp
        dsimp only at hp
        split at hp
        · cases hp; exact hf _ _ _ (.inr rfl) (contents_le h1)
        · cases hp; exact hf _ _ _ (.inl rfl) (contents_le h0)
theorem SI.new {c : Nat} (h : c ≤ 65535) : SI (newS c).1 := by
  have hn : DI (newD (c : Int)).1 := by
    unfold newD
    rw [if_neg (by omega)]
    exact ⟨(valid_iff _).2 ⟨⟨by dsimp only; omega, by dsimp only; omega, by dsimp only; simp, Int.le_refl 0, Int.le_refl 0⟩, fun e => (by cases e), fun _ => ⟨rfl, rfl⟩⟩, by dsimp only; omega, by dsimp only; omega, by dsimp only; omega⟩
  unfold newS
  split
  · exact SI.zero
  split
  · exact SI.zero
  · exact ⟨⟨hn.appendR _, hn⟩, by dsimp only; unfold I64; omega, by dsimp only; unfold I64; omega, by dsimp only; unfold I64; omega, by dsimp only; unfold I64; omega⟩
theorem same_valid {s : Store} (h : SI s) : (store_Valid 70000 s).bind (fun x7 => (actorgridref26_ValidStore 70000 s).bind fun x8 => some ((x7 == x8), s, s)) = some (true, s, s) := by
  have h0 := h.1.1.facts.2.1
  have h1 := h.1.2.facts.2.1
  rw [validS_eq 70000 s (by omega) (by omega) (by omega) (by omega) h.ok, bind_e rfl, validR_st 70000 s (by omega) (by omega) (by omega) (by omega) h.ok, bind_e rfl, beq_self_eq_true]
theorem restart_loop (n : Nat) (s : Store) (h : SI s) : ∃ s', actorgridlaw28_restart_loop1 70000 (n + 3) 0 s s = some (.inl (s', s')) ∧ SI s' := by
  obtain ⟨e0, f0⟩ := h.1.1.restart
  obtain ⟨e1, f1⟩ := h.1.2.restart
  have h0 := h.1.1.facts.2.1
  have h1 := h.1.2.facts.2.1
  refine ⟨⟨⟨(restartD s.Disks.x0).1, (restartD s.Disks.x1).1⟩, s.Current, s.Number, s.Base, s.Count⟩, ?_, ⟨f0, f1⟩, h.2⟩
  unfold actorgridlaw28_restart_loop1
  rw [decide_eq_true (by decide), cond_true, decide_eq_true (by decide), cond_true, restart_eq 70000 _ (by omega), bind_e rfl, restart_ref 70000 _ (by omega), bind_e rfl, e0, show ((0 : Int) != 0) = false from rfl, Bool.or_self, cond_false, sameD_eq, bind_e rfl, Bool.not_true, bind_e rfl, cond_false, bind_e rfl]
  show ifp _ _ = _
  rw [ifp_pos (by decide)]
  unfold actorgridlaw28_restart_loop1
  rw [decide_eq_true (by decide), cond_true, decide_eq_false (by decide), cond_false, ifp_pos (by decide)]
  dsimp only
  rw [restart_eq 70000 _ (by omega), bind_e rfl, ifp_pos (by decide), restart_ref 70000 _ (by omega), bind_e rfl, e1, show ((0 : Int) != 0) = false from rfl, Bool.or_self, cond_false, sameD_eq, bind_e rfl, Bool.not_true, bind_e rfl, cond_false, ifp_pos (by decide), ifp_pos (by decide), bind_e rfl]
  show ifp _ _ = _
  rw [ifp_pos (by decide)]
  unfold actorgridlaw28_restart_loop1
  rw [decide_eq_false (by decide), cond_false]
theorem restart_same (s : Store) (h : SI s) : ∃ s', actorgridlaw28_restart 70000 s s = some (true, s', s') ∧ SI s' := by
  obtain ⟨s1, e1, h1⟩ := restart_loop 69997 s h
  have g0 := h1.1.1.facts.2.1
  have g1 := h1.1.2.facts.2.1
  have hr := SI.rec (k := 70000) h1.1.1 h1.1.2
  have hl := recS_len 70000 s1.Disks.x0 s1.Disks.x1 65535 g0 g1 (by omega)
  unfold actorgridlaw28_restart
  rw [show (70000 : Nat) = 69997 + 3 from rfl] at e1 ⊢
  rw [e1, bind_e rfl]
  show ∃ s', (store_Recover 70000 s1.Disks.x0 s1.Disks.x1).bind _ = _ ∧ _
  dsimp only
  rw [recover_store 70000 _ _ (by omega) (by omega) (by omega) (by omega) (writes_ok h1.1.1.ok) (writes_ok h1.1.2.ok), bind_e rfl]
  show ∃ s', (actorgridref26_RecoverStore 70000 s1.Disks.x0 s1.Disks.x1).bind _ = _ ∧ _
  rw [recover_rf 70000 _ _ (by omega) (by omega) (by omega) (by omega) (writes_ok h1.1.1.ok) (writes_ok h1.1.2.ok), bind_e rfl, same28, bind_e rfl, Bool.not_true, cond_false]
  show ∃ s', (((actorgridref26_SameContents 70000 (recS 70000 s1.Disks.x0 s1.Disks.x1).2.1 (recS 70000 s1.Disks.x0 s1.Disks.x1).2.1).bind _).bind _) = _ ∧ _
  rw [sameC 70000 _ (by omega) (by omega), bind_e rfl, Bool.not_true, bind_e rfl, cond_false]
  by_cases he : (recS 70000 s1.Disks.x0 s1.Disks.x1).2.2 = 0
  · rw [show ((recS 70000 s1.Disks.x0 s1.Disks.x1).2.2 == 0) = true from by simp [he], cond_true]
    exact ⟨_, rfl, hr⟩
  · rw [show ((recS 70000 s1.Disks.x0 s1.Disks.x1).2.2 == 0) = false from by simp [he], cond_false]
    exact ⟨_, rfl, h1⟩
theorem put_same (s : Store) (h : SI s) (b : List UInt8) (hb : b.length ≤ 200) : ∃ s', ((store_Put 70000 s b).bind fun x2 => (actorgridref26_Put 70000 s b).bind fun x3 => (actorgridlaw28_same 70000 x2.1 x2.2 x3.1 x3.2).bind fun x4 => bif (!x4) then (some (false, s, s)) else (bif (x2.2 != 1) then ((store_Valid 70000 x2.1).bind fun x7 => (actorgridref26_ValidStore 70000 x3.1).bind fun x8 => some ((x7 == x8), x2.1, x3.1)) else ((store_Valid 70000 s).bind fun x9 => (actorgridref26_ValidStore 70000 s).bind fun x10 => some ((x9 == x10), s, s)))) = some (true, s', s') ∧ SI s' := by
  have g0 := h.1.1.facts.2.1
  have g1 := h.1.2.facts.2.1
  rw [put_store 70000 s b (by omega) (by omega) (by omega) (by omega) (by omega) (by omega) h.ok, bind_e rfl, put_ref 70000 s b (by omega) (by omega) (by omega) (by omega) (by omega) (by omega) h.ok, bind_e rfl, same28, bind_e rfl, Bool.not_true, cond_false]
  cases ((putS 70000 s b).2 != 1) with
  | true => exact ⟨_, same_valid (h.put 70000 b), h.put 70000 b⟩
  | false => exact ⟨_, same_valid h, h⟩
theorem ck_same (s : Store) (h : SI s) (b : List UInt8) (hb : b.length ≤ 200) : ∃ s', ((store_Checkpoint 70000 s b).bind fun x2 => (actorgridref26_Checkpoint 70000 s b).bind fun x3 => (actorgridlaw28_same 70000 x2.1 x2.2 x3.1 x3.2).bind fun x4 => bif (!x4) then (some (false, s, s)) else (bif (x2.2 != 1) then ((store_Valid 70000 x2.1).bind fun x7 => (actorgridref26_ValidStore 70000 x3.1).bind fun x8 => some ((x7 == x8), x2.1, x3.1)) else ((store_Valid 70000 s).bind fun x9 => (actorgridref26_ValidStore 70000 s).bind fun x10 => some ((x9 == x10), s, s)))) = some (true, s', s') ∧ SI s' := by
  have g0 := h.1.1.facts.2.1
  have g1 := h.1.2.facts.2.1
  rw [ck_store 70000 s b (by omega) (by omega) (by omega) (by omega) (by omega) (by omega) h.ok, bind_e rfl, ck_ref 70000 s b (by omega) (by omega) (by omega) (by omega) (by omega) (by omega) h.ok, bind_e rfl, same28, bind_e rfl, Bool.not_true, cond_false]
  cases ((ckS 70000 s b).2 != 1) with
  | true => exact ⟨_, same_valid (h.ck 70000 b), h.ck 70000 b⟩
  | false => exact ⟨_, same_valid h, h⟩
theorem step_same (a : Actorgridlaw28Act) (s : Store) (h : SI s) (hb : a.B.length ≤ 200) : ∃ s', actorgridlaw28_step 70000 a s s = some (true, s', s') ∧ SI s' := by
  have g0 := h.1.1.facts.2.1
  have g1 := h.1.2.facts.2.1
  have hw := (a.Writes / 2 % 5).toNat_lt
  have hk := a.Keep.toNat_lt
  unfold actorgridlaw28_step
  cases (((a.Kind % (6 : UInt8)).toNat : Int) == 0) with
  | true => exact put_same s h a.B hb
  | false =>
    rw [cond_false]
    cases (((a.Kind % (6 : UInt8)).toNat : Int) == 1) with
    | true => exact put_same s h a.B hb
    | false =>
      rw [cond_false]
      cases (((a.Kind % (6 : UInt8)).toNat : Int) == 2) with
      | true => exact put_same s h a.B hb
      | false =>
        rw [cond_false]
        cases (((a.Kind % (6 : UInt8)).toNat : Int) == 3) with
        | true => exact ck_same s h a.B hb
        | false =>
          rw [cond_false]
          cases (((a.Kind % (6 : UInt8)).toNat : Int) == 4) with
          | true =>
            rw [cond_true]
            have d0 := h.1.1.arm (w := (a.Writes / 2 % 5).toNat) (k := a.Keep.toNat) (by omega) (by omega)
            have d1 := h.1.2.arm (w := (a.Writes / 2 % 5).toNat) (k := a.Keep.toNat) (by omega) (by omega)
            by_cases hc : ((a.Writes.toNat % 2 : Nat) : Int) = 0
            · rw [decide_eq_true hc, cond_true, arm_eq 70000 _ _ _ (by omega), bind_e rfl, arm_ref 70000 _ _ _ (by omega), bind_e rfl, bne_self_eq_false, cond_false]
              cases ((armD s.Disks.x0 ((((a.Writes / 2) % 5).toNat : Nat) : Int) ((a.Keep.toNat : Nat) : Int)).2 == 0) with
              | true => exact ⟨_, same_valid (s := ⟨⟨_, _⟩, _, _, _, _⟩) ⟨⟨d0, h.1.2⟩, h.2⟩, ⟨d0, h.1.2⟩, h.2⟩
              | false => exact ⟨_, same_valid h, h⟩
            · have hc1 : ((a.Writes.toNat % 2 : Nat) : Int) = 1 := by omega
              rw [decide_eq_false hc, cond_false, ifp_pos hc1, arm_eq 70000 _ _ _ (by omega), bind_e rfl, ifp_pos hc1, arm_ref 70000 _ _ _ (by omega), bind_e rfl, bne_self_eq_false, cond_false, ifp_pos hc1, ifp_pos hc1]
              cases ((armD s.Disks.x1 ((((a.Writes / 2) % 5).toNat : Nat) : Int) ((a.Keep.toNat : Nat) : Int)).2 == 0) with
              | true => exact ⟨_, same_valid (s := ⟨⟨_, _⟩, _, _, _, _⟩) ⟨⟨h.1.1, d1⟩, h.2⟩, ⟨h.1.1, d1⟩, h.2⟩
              | false => exact ⟨_, same_valid h, h⟩
          | false =>
            rw [cond_false]
            obtain ⟨s', e, h'⟩ := restart_same s h
            rw [e, bind_e rfl]
            exact ⟨s', rfl, h'⟩
theorem seq_loop (a : List Actorgridlaw28Act) (ha : a.length ≤ 50) (x : Store × Int) : ∀ (n t : Nat) (s : Store), t ≤ a.length → a.length - t < n → SI s →
    actorgridlaw28_StoreSequences_loop1 70000 a x n t s s = some (.inl ()) ∨ actorgridlaw28_StoreSequences_loop1 70000 a x n t s s = some (.inr true)
  | 0, t, s, _, h, _ => by omega
  | n + 1, t, s, hi, h, hs => by
    unfold actorgridlaw28_StoreSequences_loop1
    by_cases hl : t < a.length
    · rw [decide_eq_true (by omega), Bool.true_and]
      cases (x.2 == 0) with
      | false => exact .inl rfl
      | true =>
        rw [cond_true, ifp_pos hl]
        by_cases hb : (((a.getD t default).B.length : Nat) : Int) > 200
        · rw [decide_eq_true hb]; exact .inr rfl
        rw [decide_eq_false hb, cond_false, ifp_pos hl]
        obtain ⟨s', e, h'⟩ := step_same (a.getD t default) s hs (by omega)
        rw [show (⟨(a.getD t default).Kind, (a.getD t default).B, (a.getD t default).Writes, (a.getD t default).Keep⟩ : Actorgridlaw28Act) = a.getD t default from rfl, e, bind_e rfl]
        dsimp only
        rw [Bool.not_true, cond_false, ifp_pos (by omega)]
        exact seq_loop a ha x n (t + 1) s' (by omega) (by omega) h'
    · rw [decide_eq_false (by omega), Bool.false_and]
      exact .inl rfl
theorem awake28q : actorgridlaw28_awake 70000 = some true := by decide +kernel
theorem StoreSequences_law (a0 : UInt16) (a1 : List Actorgridlaw28Act) : ∃ k, actorgridlaw28_StoreSequences k a0 a1 = some true := by
  refine ⟨70000, ?_⟩
  have h0 := a0.toNat_lt
  unfold actorgridlaw28_StoreSequences
  rw [awake28q, bind_e rfl, Bool.not_true, cond_false]
  by_cases hl : ((a1.length : Nat) : Int) > 50
  · rw [decide_eq_true hl]; rfl
  rw [decide_eq_false hl, cond_false, new_store 70000 (by omega) (by omega), bind_e rfl, new_rf 70000 (by omega) (by omega), bind_e rfl, same28, bind_e rfl, Bool.not_true, cond_false]
  rcases seq_loop a1 (by omega) (newS (a0.toNat : Int)) 70000 0 (newS (a0.toNat : Int)).1 (Nat.zero_le _) (by omega) (SI.new (by omega)) with h | h
  · rw [h]; rfl
  · rw [h]; rfl
end Md
end Go.Proofs.Ytkcfkcgclljncaa
