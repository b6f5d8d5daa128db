/-
  Layer 28 in plain words: a store's reading, validity, Put, Checkpoint, New, Recover, of the program and of its reference. Conditions: sizes.
-/
import Derived.Test.YtkcfkcgclljncaaJourQ
import Derived.Test.YtkcfkcgclljncaaStorBM
import Derived.Test.YtkcfkcgclljncaaStorCM
import Derived.Test.YtkcfkcgclljncaaStorKM
namespace Go.Proofs.Ytkcfkcgclljncaa
set_option linter.unusedVariables false
set_option linter.unusedSimpArgs false
namespace Md
/-- A number at the beginning of b, and its length. -/
def numU (b : List UInt8) : Option (Nat × Nat) := if (readU b).2.2 = 0 then some ((readU b).1.toNat, (readU b).2.1.toNat) else none
theorem numU_some {b : List UInt8} {v n : Nat} (h : numU b = some (v, n)) : (readU b).2.2 = 0 ∧ (readU b).1.toNat = v ∧ (readU b).2.1 = (n : Int) ∧ 0 < n ∧ n ≤ b.length := by
  unfold numU at h
  by_cases h0 : (readU b).2.2 = 0
  · rw [if_pos h0] at h
    rcases readU_ok b with ⟨h1, _⟩ | ⟨_, m, h2, h3, h4⟩
    · exact absurd h0 h1
    · have h5 := Option.some.inj h
      rw [h2, Int.toNat_natCast] at h5
      injection h5 with h5 h6
      subst h6
      exact ⟨h0, h5, h2, h3, h4⟩
  · rw [if_neg h0] at h; cases h
theorem numU_none {b : List UInt8} (h : numU b = none) : (readU b).2.2 ≠ 0 := fun h0 => by
  unfold numU at h
  rw [if_pos h0] at h; cases h
def parseH (b : List UInt8) : Option (Nat × Nat × List UInt8) :=
  match numU b with
  | none => none
  | some (v0, n0) => if 1099511627776 < v0 then none else
    match numU (b.drop n0) with
    | none => none
    | some (v1, n1) => if 1099511627776 < v1 then none else
      match numU ((b.drop n0).drop n1) with
      | none => none
      | some (v2, n2) => if v2 = (((b.drop n0).drop n1).drop n2).length then some (v0, v1, ((b.drop n0).drop n1).drop n2) else none
def toP (o : Option (Nat × Nat × List UInt8)) : Int × Int × List UInt8 × Bool := match o with
  | none => (0, 0, [], false)
  | some (a, b, s) => ((a : Int), (b : Int), s, true)
theorem parse_eq (k : Nat) (b : List UInt8) (hb : b.length ≤ 3000000) (hk : b.length < k) : store_parseHeader k b = some (toP (parseH b)) := by
  unfold store_parseHeader parseH
  rw [uintR_eq k b (by omega) hk, bind_e rfl]
  cases h0 : numU b with
  | none => rw [show ((readU b).2.2 != 0) = true from bne_iff_ne.2 (numU_none h0)]; rfl
  | some q0 =>
    obtain ⟨v0, n0⟩ := q0
    obtain ⟨e0, f0, g0, p0, l0⟩ := numU_some h0
    have d0 : (b.drop n0).length = b.length - n0 := List.length_drop
    rw [e0, f0, g0, show ((0 : Int) != 0) = false from rfl, Bool.false_or]
    dsimp only
    by_cases hv0 : 1099511627776 < v0
    · rw [decide_eq_true (by omega), if_pos hv0]; rfl
    rw [decide_eq_false (by omega), cond_false, if_neg hv0, ifp_pos (by omega), Int.toNat_natCast, ifp_pos l0, uintR_eq k _ (by omega) (by omega), bind_e rfl]
    cases h1 : numU (b.drop n0) with
    | none => rw [show ((readU (b.drop n0)).2.2 != 0) = true from bne_iff_ne.2 (numU_none h1)]; rfl
    | some q1 =>
      obtain ⟨v1, n1⟩ := q1
      obtain ⟨e1, f1, g1, p1, l1⟩ := numU_some h1
      have d1 : ((b.drop n0).drop n1).length = b.length - n0 - n1 := by rw [List.length_drop, d0]
      rw [e1, f1, g1, show ((0 : Int) != 0) = false from rfl, Bool.false_or]
      dsimp only
      by_cases hv1 : 1099511627776 < v1
      · rw [decide_eq_true (by omega), if_pos hv1]; rfl
      rw [decide_eq_false (by omega), cond_false, if_neg hv1, ifp_pos (by omega), Int.toNat_natCast, ifp_pos l1, uintR_eq k _ (by omega) (by omega), bind_e rfl]
      cases h2 : numU ((b.drop n0).drop n1) with
      | none => rw [show ((readU ((b.drop n0).drop n1)).2.2 != 0) = true from bne_iff_ne.2 (numU_none h2)]; rfl
      | some q2 =>
        obtain ⟨v2, n2⟩ := q2
        obtain ⟨e2, f2, g2, p2, l2⟩ := numU_some h2
        have d2 : (((b.drop n0).drop n1).drop n2).length = b.length - n0 - n1 - n2 := by rw [List.length_drop, d1]
        rw [e2, f2, g2, show ((0 : Int) != 0) = false from rfl, Bool.false_and]
        dsimp only
        rw [cond_false, ifp_pos (by omega), Int.toNat_natCast, ifp_pos l2, ofNat_len (by omega)]
        by_cases hl : v2 = (((b.drop n0).drop n1).drop n2).length
        · rw [show (((v2 : Nat) : Int) != (((((b.drop n0).drop n1).drop n2).length : Nat) : Int)) = false from by simp; omega, cond_false, ifp_pos (by omega), if_pos hl, W_id (by omega) (by omega), W_id (by omega) (by omega)]
          rfl
        · rw [show (((v2 : Nat) : Int) != (((((b.drop n0).drop n1).drop n2).length : Nat) : Int)) = true from by simp; omega, cond_true, if_neg hl]
          rfl
theorem number_none (k : Nat) (b : List UInt8) (hb : b.length ≤ 3000000) (hk : b.length < k) (h0 : numU b = none) : actorgridref26_number k b = some (0, 0, false) := by
  unfold actorgridref26_number
  rw [uintR_ref k b (by omega) hk, bind_e rfl, show ((readU b).2.2 != 0) = true from bne_iff_ne.2 (numU_none h0)]
  rfl
theorem number_big (k : Nat) (b : List UInt8) (hb : b.length ≤ 3000000) (hk : b.length < k) {v n : Nat} (h0 : numU b = some (v, n)) (hv : 1099511627776 < v) : actorgridref26_number k b = some (0, 0, false) := by
  obtain ⟨e0, f0, g0, p0, l0⟩ := numU_some h0
  unfold actorgridref26_number
  rw [uintR_ref k b (by omega) hk, bind_e rfl, e0, f0, g0, show ((0 : Int) != 0) = false from rfl, Bool.false_or, decide_eq_true (by omega)]
  rfl
theorem number_ok (k : Nat) (b : List UInt8) (hb : b.length ≤ 3000000) (hk : b.length < k) {v n : Nat} (h0 : numU b = some (v, n)) (hv : ¬ 1099511627776 < v) : actorgridref26_number k b = some ((v : Int), (n : Int), true) := by
  obtain ⟨e0, f0, g0, p0, l0⟩ := numU_some h0
  unfold actorgridref26_number
  rw [uintR_ref k b (by omega) hk, bind_e rfl, e0, f0, g0, show ((0 : Int) != 0) = false from rfl, Bool.false_or, decide_eq_false (by omega), cond_false, W_id (by omega) (by omega)]
theorem header_ref (k : Nat) (b : List UInt8) (hb : b.length ≤ 3000000) (hk : b.length < k) : actorgridref26_readHeader k b = some (toP (parseH b)) := by
  unfold actorgridref26_readHeader parseH
  cases h0 : numU b with
  | none => rw [number_none k b hb hk h0]; rfl
  | some q0 =>
    obtain ⟨v0, n0⟩ := q0
    obtain ⟨e0, f0, g0, p0, l0⟩ := numU_some h0
    have d0 : (b.drop n0).length = b.length - n0 := List.length_drop
    dsimp only
    by_cases hv0 : 1099511627776 < v0
    · rw [number_big k b hb hk h0 hv0, if_pos hv0]; rfl
    rw [number_ok k b hb hk h0 hv0, bind_e rfl, if_neg hv0]
    dsimp only
    rw [Bool.not_true, cond_false, ifp_pos (by omega), Int.toNat_natCast, ifp_pos l0]
    cases h1 : numU (b.drop n0) with
    | none => rw [number_none k _ (by omega) (by omega) h1]; rfl
    | some q1 =>
      obtain ⟨v1, n1⟩ := q1
      obtain ⟨e1, f1, g1, p1, l1⟩ := numU_some h1
      have d1 : ((b.drop n0).drop n1).length = b.length - n0 - n1 := by rw [List.length_drop, d0]
      dsimp only
      by_cases hv1 : 1099511627776 < v1
      · rw [number_big k _ (by omega) (by omega) h1 hv1, if_pos hv1]; rfl
      rw [number_ok k _ (by omega) (by omega) h1 hv1, bind_e rfl, if_neg hv1]
      dsimp only
      have w1 : W ((n0 : Int) + (n1 : Int)) = ((n0 + n1 : Nat) : Int) := by rw [W_id (by omega) (by omega)]; omega
      rw [Bool.not_true, cond_false, w1, ifp_pos (by omega), Int.toNat_natCast, ifp_pos (by omega), ← List.drop_drop, uintR_ref k _ (by omega) (by omega), bind_e rfl]
      cases h2 : numU ((b.drop n0).drop n1) with
      | none => rw [show ((readU ((b.drop n0).drop n1)).2.2 != 0) = true from bne_iff_ne.2 (numU_none h2)]; rfl
      | some q2 =>
        obtain ⟨v2, n2⟩ := q2
        obtain ⟨e2, f2, g2, p2, l2⟩ := numU_some h2
        have d2 : (((b.drop n0).drop n1).drop n2).length = b.length - n0 - n1 - n2 := by rw [List.length_drop, d1]
        have w2 : W (W (W (((b.length : Nat) : Int) - (n0 : Int)) - (n1 : Int)) - (n2 : Int)) = ((b.length - n0 - n1 - n2 : Nat) : Int) := by
          rw [W_id (n := ((b.length : Nat) : Int) - (n0 : Int)) (by omega) (by omega), W_id (n := ((b.length : Nat) : Int) - (n0 : Int) - (n1 : Int)) (by omega) (by omega), W_id (by omega) (by omega)]
          omega
        have w3 : W (((n0 + n1 : Nat) : Int) + (n2 : Int)) = ((n0 + n1 + n2 : Nat) : Int) := by rw [W_id (by omega) (by omega)]; omega
        have w4 : (UInt64.ofInt ((b.length - n0 - n1 - n2 : Nat) : Int)).toNat = b.length - n0 - n1 - n2 := by rw [ofInt_nat]; omega
        rw [e2, f2, g2, show ((0 : Int) != 0) = false from rfl, Bool.false_or, w2, w3, w4]
        dsimp only
        rw [d2]
        by_cases hl : v2 = b.length - n0 - n1 - n2
        · rw [show (((v2 : Nat) : Int) != ((b.length - n0 - n1 - n2 : Nat) : Int)) = false from by simp; omega, cond_false, ifp_pos (by omega), Int.toNat_natCast, ifp_pos (by omega), ifp_pos (by rw [List.length_drop]; simp; omega), if_pos hl, List.nil_append, List.drop_drop, List.drop_drop, Nat.add_assoc]
          rfl
        · rw [show (((v2 : Nat) : Int) != ((b.length - n0 - n1 - n2 : Nat) : Int)) = true from by simp; omega, cond_true, if_neg hl]
          rfl
/-- The bodies, if all are entries. -/
def entriesC : List JournalRecord → Option (List (List UInt8))
  | [] => some []
  | r :: l => if r.Kind = 2 then (entriesC l).map (r.Body :: ·) else none
def contentsC (l : List JournalRecord) : Option (Nat × StoreContents) :=
  match l with
  | [] => none
  | r :: l => if r.Kind ≠ 1 then none else match parseH r.Body with
    | none => none
    | some (n, b, st) => match entriesC l with
      | none => none
      | some es => if 1099511627776 < b + es.length then none else some (n, ⟨(b : Int), st, es⟩)
theorem entriesC_len : ∀ {l : List JournalRecord} {es : List (List UInt8)}, entriesC l = some es → es.length = l.length
  | [], es, h => by cases h; rfl
  | r :: l, es, h => by
    unfold entriesC at h
    split at h
    · cases hl : entriesC l with
      | none => rw [hl] at h; cases h
      | some es' => rw [hl] at h; cases h; simp [entriesC_len hl]
    · cases h
theorem getD_dropR (l : List JournalRecord) {i : Nat} (h : i < l.length) : l.drop i = l.getD i default :: l.drop (i + 1) := by
  rw [List.drop_eq_getElem_cons h, List.getD_eq_getElem?_getD, List.getElem?_eq_getElem h]
  rfl
theorem read_loop (k : Nat) (x : List JournalRecord × Int) (hl : (x.1.drop 1).length ≤ 3000000) : ∀ (n i : Nat) (acc : List (List UInt8)), i ≤ (x.1.drop 1).length → (x.1.drop 1).length - i < n → acc.length ≤ i →
    store_read_loop1 k x n i acc = some (match entriesC ((x.1.drop 1).drop i) with | some es => .inl (acc ++ es) | none => .inr (0, ⟨0, [], []⟩, 0, false))
  | 0, i, _, _, h, _ => by omega
  | n + 1, i, acc, hi, h, ha => by
    unfold store_read_loop1
    by_cases hl2 : i < (x.1.drop 1).length
    · have hd := getD_dropR (x.1.drop 1) hl2
      rw [decide_eq_true (by omega), cond_true, ifp_pos hl2, hd]
      unfold entriesC
      by_cases h2 : ((x.1.drop 1).getD i default).Kind = 2
      · rw [show (((x.1.drop 1).getD i default).Kind != 2) = false from by rw [h2]; rfl, cond_false, ifp_pos (by simp; omega), ifp_pos (by omega), if_pos h2, read_loop k x hl n (i + 1) _ (by omega) (by omega) (by simp; omega)]
        cases entriesC ((x.1.drop 1).drop (i + 1)) with
        | none => rfl
        | some es => simp
      · rw [show (((x.1.drop 1).getD i default).Kind != 2) = true from bne_iff_ne.2 h2, cond_true, if_neg h2]
    · rw [decide_eq_false (by omega), cond_false, List.drop_of_length_le (by omega)]
      simp [entriesC]
def recs (k : Nat) (b : List UInt8) : List JournalRecord := (frs k b).map (·.1)
theorem scan_eqr (k : Nat) (b : List UInt8) (hb : b.length ≤ 3000000) (hk : b.length + 20 ≤ k) : journal_Scan k b = some (recs k b, (total (frs k b) : Int)) := scan_eq k b hb hk
theorem recs_len (k : Nat) (b : List UInt8) (hb : b.length ≤ 3000000) : (recs k b).length ≤ b.length := by
  unfold recs
  rw [List.length_map]; exact frs_len k b hb
theorem contentsC_one {r : JournalRecord} {l : List JournalRecord} (h : r.Kind = 1) : contentsC (r :: l) = (match parseH r.Body with
    | none => none
    | some (n, b, st) => match entriesC l with
      | none => none
      | some es => if 1099511627776 < b + es.length then none else some (n, ⟨(b : Int), st, es⟩)) := by
  show (if r.Kind ≠ 1 then none else _) = _
  rw [if_neg (by simp [h])]
  all_goals rfl
theorem contentsC_no {r : JournalRecord} {l : List JournalRecord} (h : r.Kind ≠ 1) : contentsC (r :: l) = none := by
  show (if r.Kind ≠ 1 then none else _) = _
  rw [if_pos h]
theorem sread (k : Nat) (d : Disk) (hd : d.Data.length ≤ 1400000) (hk : d.Data.length + 20 ≤ k) : ∃ r, store_read k d = some r ∧
    (∀ n c, contentsC (recs k d.Data) = some (n, c) → r = ((n : Int), c, ((total (frs k d.Data) : Nat) : Int), true)) ∧ (contentsC (recs k d.Data) = none → r.2.2.2 = false) := by
  have hrl := recs_len k d.Data (by omega)
  have hok : ∀ x ∈ recs k d.Data, x.Body.length ≤ d.Data.length := fun x hx => by
    obtain ⟨y, hy, rfl⟩ := List.mem_map.1 hx
    exact (frs_ok k d.Data (by omega) y hy).2.2
  unfold store_read
  rw [scan_eqr k _ (by omega) hk, bind_e rfl]
  dsimp only
  generalize recs k d.Data = l at hrl hok ⊢
  generalize total (frs k d.Data) = t
  cases l with
  | nil => exact ⟨_, rfl, fun n c h => by (cases h), fun _ => rfl⟩
  | cons r l =>
    rw [show ((((r :: l).length : Nat) : Int) == 0) = false from by simp; omega, cond_false, ifp_pos (by simp)]
    have hg : (r :: l).getD 0 default = r := rfl
    rw [hg]
    by_cases h1 : r.Kind = 1
    · rw [contentsC_one h1, show (r.Kind != 1) = false from by rw [h1]; rfl, cond_false, ifp_pos (by simp), parse_eq k _ (by have := hok r (by simp); omega) (by have := hok r (by simp); omega), bind_e rfl]
      cases hp : parseH r.Body with
      | none => exact ⟨_, rfl, fun n c h => by (cases h), fun _ => rfl⟩
      | some q =>
        obtain ⟨n, b, st⟩ := q
        unfold toP
        dsimp only
        rw [Bool.not_true, cond_false, ifp_pos (by simp)]
        have hll : l.length ≤ 1400000 := by simp at hrl; omega
        have := read_loop k (r :: l, (t : Int)) (by simp; omega) k 0 [] (Nat.zero_le _) (by simp; simp at hrl; omega) (by simp)
        rw [List.drop_zero, show (((r :: l : List JournalRecord), (t : Int)).1.drop 1) = l from rfl] at this
        rw [this, bind_e rfl]
        cases he : entriesC l with
        | none => exact ⟨_, rfl, fun n c h => by (cases h), fun _ => rfl⟩
        | some es =>
          have hel := entriesC_len he
          show ∃ r, some _ = some r ∧ _
          refine ⟨_, rfl, fun n' c h => ?_, fun h => ?_⟩
          · dsimp only at h ⊢
            split at h
            · cases h
            · rename_i hb
              cases h
              rw [List.nil_append, W_id (by omega) (by omega), decide_eq_true (by omega)]
          · dsimp only at h ⊢
            split at h
            · rename_i hb
              rw [List.nil_append, W_id (by omega) (by omega), decide_eq_false (by omega)]
            · cases h
    · rw [show (r.Kind != 1) = true from bne_iff_ne.2 h1, cond_true, contentsC_no h1]
      exact ⟨_, rfl, fun n c h => by (cases h), fun _ => rfl⟩
theorem cont_loopR (k : Nat) (l : List JournalRecord) (hl : l.length ≤ 3000000) (hb : ∀ x ∈ l, x.Body.length ≤ 3000000) : ∀ (n i : Nat) (acc : List (List UInt8)), i ≤ l.length → l.length - i < n → acc.length ≤ i →
    actorgridref26_contents_loop1 k l n i acc = some (match entriesC (l.drop i) with | some es => .inl (acc ++ es) | none => .inr (0, ⟨0, [], []⟩, false))
  | 0, i, _, _, h, _ => by omega
  | n + 1, i, acc, hi, h, ha => by
    unfold actorgridref26_contents_loop1
    by_cases hl2 : i < l.length
    · have hd := getD_dropR l hl2
      have hbl : (l.getD i default).Body.length ≤ 3000000 := hb _ (by rw [List.getD_eq_getElem?_getD, List.getElem?_eq_getElem hl2]; exact List.getElem_mem hl2)
      rw [decide_eq_true (by omega), cond_true, ifp_pos hl2, hd]
      unfold entriesC
      by_cases h2 : (l.getD i default).Kind = 2
      · rw [show ((l.getD i default).Kind != 2) = false from by rw [h2]; rfl, cond_false, ifp_pos hl2, ifp_pos (by omega), ifp_pos (by simp; omega), ifp_pos (by omega), if_pos h2, cont_loopR k l hl hb n (i + 1) _ (by omega) (by omega) (by simp; omega)]
        cases entriesC (l.drop (i + 1)) with
        | none => rfl
        | some es => simp
      · rw [show ((l.getD i default).Kind != 2) = true from bne_iff_ne.2 h2, cond_true, if_neg h2]
    · rw [decide_eq_false (by omega), cond_false, List.drop_of_length_le (by omega)]
      simp [entriesC]
theorem scont (k : Nat) (l : List JournalRecord) (hl : l.length ≤ 1400000) (hk : l.length < k) (hb : ∀ x ∈ l, x.Body.length ≤ 1400000 ∧ x.Body.length < k) : ∃ r, actorgridref26_contents k l = some r ∧
    (∀ n c, contentsC l = some (n, c) → r = ((n : Int), c, true)) ∧ (contentsC l = none → r.2.2 = false) := by
  unfold actorgridref26_contents
  cases l with
  | nil => exact ⟨_, rfl, fun n c h => by (cases h), fun _ => rfl⟩
  | cons r l =>
    rw [show ((((r :: l).length : Nat) : Int) == 0) = false from by simp; omega, cond_false, ifp_pos (by simp), bind_e rfl]
    have hg : (r :: l).getD 0 default = r := rfl
    rw [hg]
    by_cases h1 : r.Kind = 1
    · rw [contentsC_one h1, show (r.Kind != 1) = false from by rw [h1]; rfl, cond_false, ifp_pos (by simp), header_ref k _ (by have := hb r (by simp); omega) (hb r (by simp)).2, bind_e rfl]
      cases hp : parseH r.Body with
      | none => exact ⟨_, rfl, fun n c h => by (cases h), fun _ => rfl⟩
      | some q =>
        obtain ⟨n, b, st⟩ := q
        unfold toP
        dsimp only
        have hcl : (r :: l).length = l.length + 1 := List.length_cons
        have w1 : W ((((r :: l).length : Nat) : Int) - 1) = (l.length : Int) := by rw [hcl, W_id (by omega) (by omega)]; omega
        have hn : (n : Int) ≤ 1099511627776 ∧ (b : Int) ≤ 1099511627776 := by
          unfold parseH at hp
          repeat' split at hp
          all_goals first | (cases hp; done) | (cases hp; omega)
        rw [Bool.not_true, Bool.false_or, w1, W_id (by omega) (by omega)]
        by_cases hbig : 1099511627776 < b + l.length
        · rw [decide_eq_true (by omega), cond_true]
          refine ⟨_, rfl, fun n' c h => ?_, fun _ => rfl⟩
          cases he : entriesC l with
          | none => rw [he] at h; cases h
          | some es =>
            rw [he] at h
            dsimp only at h
            rw [entriesC_len he, if_pos hbig] at h
            cases h
        · rw [decide_eq_false (by omega), cond_false]
          have := cont_loopR k (r :: l) (by omega) (fun x hx => by have := (hb x hx).1; omega) k 1 [] (by simp) (by omega) (by simp)
          rw [show (r :: l).drop 1 = l from rfl] at this
          rw [this, bind_e rfl]
          cases he : entriesC l with
          | none => exact ⟨_, rfl, fun n c h => by (cases h), fun _ => rfl⟩
          | some es =>
            show ∃ r, some _ = some r ∧ _
            refine ⟨_, rfl, fun n' c h => ?_, fun h => ?_⟩
            · dsimp only at h ⊢
              rw [entriesC_len he, if_neg hbig] at h
              cases h
              rfl
            · dsimp only at h
              rw [entriesC_len he, if_neg hbig] at h
              cases h
    · rw [show (r.Kind != 1) = true from bne_iff_ne.2 h1, cond_true, contentsC_no h1]
      exact ⟨_, rfl, fun n c h => by (cases h), fun _ => rfl⟩
def cur (s : Store) : Disk := if s.Current = 0 then s.Disks.x0 else s.Disks.x1
def readOk (k : Nat) (s : Store) (d : Disk) : Bool := match contentsC (recs k d.Data) with
  | some (n, c) => decide (total (frs k d.Data) = d.Data.length ∧ (n : Int) = s.Number ∧ c.Base = s.Base ∧ (c.Entries.length : Int) = s.Count)
  | none => false
def rangeOk (s : Store) : Prop := 0 ≤ s.Current ∧ s.Current ≤ 1 ∧ 0 ≤ s.Number ∧ s.Number ≤ 1099511627776 ∧ 0 ≤ s.Base ∧ s.Base ≤ 1099511627776 ∧ 0 ≤ s.Count ∧ s.Count ≤ 1099511627776 ∧ s.Base + s.Count ≤ 1099511627776
instance (s : Store) : Decidable (rangeOk s) := by unfold rangeOk; infer_instance
def okS (k : Nat) (s : Store) : Bool := valid s.Disks.x0 && valid s.Disks.x1 && decide (rangeOk s) && readOk k s (cur s)
theorem read_bool (k : Nat) (s : Store) (d : Disk) (r : Int × StoreContents × Int × Bool) (h1 : ∀ n c, contentsC (recs k d.Data) = some (n, c) → r = ((n : Int), c, ((total (frs k d.Data) : Nat) : Int), true)) (h2 : contentsC (recs k d.Data) = none → r.2.2.2 = false) :
    ((((r.2.2.2 && (r.2.2.1 == ((d.Data.length : Nat) : Int))) && (r.1 == s.Number)) && (r.2.1.Base == s.Base)) && (((r.2.1.Entries.length : Nat) : Int) == s.Count)) = readOk k s d := by
  unfold readOk
  cases hc : contentsC (recs k d.Data) with
  | none => rw [h2 hc]; rfl
  | some q =>
    obtain ⟨n, c⟩ := q
    rw [h1 n c hc]
    dsimp only
    rw [Bool.eq_iff_iff]
    simp
    omega
theorem readR_bool (k : Nat) (s : Store) (d : Disk) (r : Int × StoreContents × Bool) (h1 : ∀ n c, contentsC (recs k d.Data) = some (n, c) → r = ((n : Int), c, true)) (h2 : contentsC (recs k d.Data) = none → r.2.2 = false) (ht : total (frs k d.Data) = d.Data.length) :
    (((r.2.2 && (r.1 == s.Number)) && (r.2.1.Base == s.Base)) && (((r.2.1.Entries.length : Nat) : Int) == s.Count)) = readOk k s d := by
  unfold readOk
  cases hc : contentsC (recs k d.Data) with
  | none => rw [h2 hc]; rfl
  | some q =>
    obtain ⟨n, c⟩ := q
    rw [h1 n c hc]
    dsimp only
    rw [Bool.eq_iff_iff]
    simp
    omega
theorem readOk_total {k : Nat} {s : Store} {d : Disk} (h : total (frs k d.Data) ≠ d.Data.length) : readOk k s d = false := by
  unfold readOk
  split
  · exact decide_eq_false fun h1 => h h1.1
  · rfl
theorem validS_eq (k : Nat) (s : Store) (h0 : s.Disks.x0.Data.length ≤ 1400000) (h1 : s.Disks.x1.Data.length ≤ 1400000) (hk0 : s.Disks.x0.Data.length + 20 ≤ k) (hk1 : s.Disks.x1.Data.length + 20 ≤ k) (hs : s.ok) : store_Valid k s = some (okS k s) := by
  unfold store_Valid okS store_number
  rw [valid_eq, bind_e rfl]
  cases hv0 : valid s.Disks.x0 with
  | false => rfl
  | true =>
    rw [Bool.not_true, cond_false, valid_eq, bind_e rfl, bind_e rfl]
    cases hv1 : valid s.Disks.x1 with
    | false => rfl
    | true =>
      rw [Bool.not_true, Bool.false_or, Bool.and_self, Bool.true_and]
      have hsb : I64 s.Base ∧ I64 s.Count := ⟨hs.2.2.2.1, hs.2.2.2.2⟩
      unfold I64 at hsb
      by_cases hr : rangeOk s
      · have hr' := hr
        unfold rangeOk at hr'
        rw [decide_eq_false (by omega : ¬ s.Current < 0), decide_eq_false (by omega : ¬ s.Current > 1), Bool.or_self, cond_false, bind_e rfl, bind_e rfl, decide_eq_true (by omega : s.Number ≥ 0), decide_eq_true (by omega : s.Number ≤ 1099511627776), Bool.and_self, Bool.not_true, cond_false, bind_e rfl, bind_e rfl,
          decide_eq_true (by omega : s.Base ≥ 0), decide_eq_true (by omega : s.Base ≤ 1099511627776), Bool.and_self, Bool.not_true, cond_false, bind_e rfl, bind_e rfl, decide_eq_true (by omega : s.Count ≥ 0), decide_eq_true (by omega : s.Count ≤ 1099511627776), Bool.and_self, Bool.not_true, Bool.false_or,
          W_id (by omega) (by omega), decide_eq_false (by omega : ¬ s.Base > 1099511627776 - s.Count), cond_false, decide_eq_true hr, Bool.true_and]
        unfold cur
        by_cases hc : s.Current = 0
        · rw [decide_eq_true hc, cond_true, if_pos hc]
          obtain ⟨r, e1, e2, e3⟩ := sread k s.Disks.x0 h0 hk0
          rw [e1, bind_e rfl, read_bool k s _ r e2 e3]
        · rw [decide_eq_false hc, cond_false, if_neg hc, ifp_pos (by omega)]
          obtain ⟨r, e1, e2, e3⟩ := sread k s.Disks.x1 h1 hk1
          rw [e1, bind_e rfl, ifp_pos (by omega), ← read_bool k s _ r e2 e3]
          cases r.2.2.2 <;> rfl
      · rw [decide_eq_false hr]
        have hr' := hr
        unfold rangeOk at hr'
        by_cases c1 : s.Current < 0 ∨ s.Current > 1
        · rw [show ((decide (s.Current < 0)) || (decide (s.Current > 1))) = true from by rw [Bool.or_eq_true]; simpa using c1]
          rfl
        · rw [decide_eq_false (by omega : ¬ s.Current < 0), decide_eq_false (by omega : ¬ s.Current > 1), Bool.or_self, cond_false, bind_e rfl, bind_e rfl]
          by_cases c2 : s.Number ≥ 0 ∧ s.Number ≤ 1099511627776
          · rw [decide_eq_true c2.1, decide_eq_true c2.2, Bool.and_self, Bool.not_true, cond_false, bind_e rfl, bind_e rfl]
            by_cases c3 : s.Base ≥ 0 ∧ s.Base ≤ 1099511627776
            · rw [decide_eq_true c3.1, decide_eq_true c3.2, Bool.and_self, Bool.not_true, cond_false, bind_e rfl, bind_e rfl]
              by_cases c4 : s.Count ≥ 0 ∧ s.Count ≤ 1099511627776
              · rw [decide_eq_true c4.1, decide_eq_true c4.2, Bool.and_self, Bool.not_true, Bool.false_or, W_id (by omega) (by omega), decide_eq_true (by omega : s.Base > 1099511627776 - s.Count)]
                rfl
              · rw [show ((decide (s.Count ≥ 0)) && (decide (s.Count ≤ 1099511627776))) = false from by rw [Bool.and_eq_false_iff]; simp; omega]
                rfl
            · rw [show ((decide (s.Base ≥ 0)) && (decide (s.Base ≤ 1099511627776))) = false from by rw [Bool.and_eq_false_iff]; simp; omega]
              rfl
          · rw [show ((decide (s.Number ≥ 0)) && (decide (s.Number ≤ 1099511627776))) = false from by rw [Bool.and_eq_false_iff]; simp; omega]
            rfl
theorem scan_refr (k : Nat) (b : List UInt8) (hb : b.length ≤ 3000000) (hk : b.length + 20 ≤ k) : actorgridref26_Scan k b = some (recs k b, (offs 0 (frs k b)).map (fun x => (x.1 : Int)), (total (frs k b) : Int)) := scan_ref k b hb hk
theorem recs_ok (k : Nat) (b : List UInt8) (hb : b.length ≤ 3000000) : ∀ x ∈ recs k b, x.Body.length ≤ b.length := fun x hx => by
  obtain ⟨y, hy, rfl⟩ := List.mem_map.1 hx
  exact (frs_ok k b hb y hy).2.2
theorem validR_st (k : Nat) (s : Store) (h0 : s.Disks.x0.Data.length ≤ 1400000) (h1 : s.Disks.x1.Data.length ≤ 1400000) (hk0 : s.Disks.x0.Data.length + 20 ≤ k) (hk1 : s.Disks.x1.Data.length + 20 ≤ k) (hs : s.ok) : actorgridref26_ValidStore k s = some (okS k s) := by
  unfold actorgridref26_ValidStore okS
  rw [valid_ref, bind_e rfl]
  cases hv0 : valid s.Disks.x0 with
  | false => rfl
  | true =>
    rw [Bool.not_true, cond_false, valid_ref, bind_e rfl, bind_e rfl]
    cases hv1 : valid s.Disks.x1 with
    | false => rfl
    | true =>
      have hsb : I64 s.Base ∧ I64 s.Count := ⟨hs.2.2.2.1, hs.2.2.2.2⟩
      unfold I64 at hsb
      have hrange : ((((((((!true) || (decide (s.Current < 0))) || (decide (s.Current > 1))) || (decide (s.Number < 0))) || (decide (s.Number > 1099511627776))) || (decide (s.Base < 0))) || (decide (s.Base > 1099511627776))) || (decide (s.Count < 0)) || (decide (s.Count > (Md.W (1099511627776 - s.Base))))) = !decide (rangeOk s) := by
        by_cases hb : 0 ≤ s.Base
        · have hdec : (!decide (rangeOk s)) = true ↔ ¬ rangeOk s := by simp
          rw [W_id (by omega) (by omega), Bool.eq_iff_iff, hdec]
          unfold rangeOk
          simp only [Bool.not_true, Bool.false_or, Bool.or_eq_true, decide_eq_true_eq]
          omega
        · rw [show decide (s.Base < 0) = true from decide_eq_true (by omega)]
          have : ¬ rangeOk s := by unfold rangeOk; omega
          rw [decide_eq_false this]
          simp
      rw [hrange]
      by_cases hr : rangeOk s
      · have hr' := hr
        unfold rangeOk at hr'
        rw [decide_eq_true hr, Bool.not_true, cond_false, Bool.and_self, Bool.true_and, Bool.true_and]
        have go : ∀ d : Disk, d.Data.length ≤ 1400000 → d.Data.length + 20 ≤ k → ((actorgridref26_Scan k d.Data).bind fun x13 => bif (x13.2.2 != ((d.Data.length : Nat) : Int)) then (some false) else ((actorgridref26_contents k x13.1).bind fun x15 => some (((x15.2.2 && (x15.1 == s.Number)) && (x15.2.1.Base == s.Base)) && (((x15.2.1.Entries.length : Nat) : Int) == s.Count)))) = some (readOk k s d) := fun d hd hk => by
          rw [scan_refr k _ (by omega) hk, bind_e rfl]
          dsimp only
          have hrl := recs_len k d.Data (by omega)
          have hro := recs_ok k d.Data (by omega)
          by_cases ht : total (frs k d.Data) = d.Data.length
          · rw [show (((total (frs k d.Data) : Nat) : Int) != ((d.Data.length : Nat) : Int)) = false from by rw [ht]; simp, cond_false]
            obtain ⟨r, e1, e2, e3⟩ := scont k (recs k d.Data) (by omega) (by omega) (fun x hx => by have := hro x hx; omega)
            rw [e1, bind_e rfl, readR_bool k s d r e2 e3 ht]
          · rw [show (((total (frs k d.Data) : Nat) : Int) != ((d.Data.length : Nat) : Int)) = true from by simp; omega, cond_true, readOk_total ht]
        unfold cur
        by_cases hc : s.Current = 0
        · rw [decide_eq_true hc, cond_true, if_pos hc]
          exact go _ h0 hk0
        · rw [decide_eq_false hc, cond_false, if_neg hc, ifp_pos (by omega)]
          have := go _ h1 hk1
          rw [scan_refr k _ (by omega) hk1, bind_e rfl] at this ⊢
          rw [ifp_pos (by omega)]
          exact this
      · rw [decide_eq_false hr]; rfl
theorem okS_facts {k : Nat} {s : Store} (h : okS k s = true) : valid s.Disks.x0 = true ∧ valid s.Disks.x1 = true ∧ rangeOk s ∧ readOk k s (cur s) = true := by
  unfold okS at h
  rw [Bool.and_eq_true, Bool.and_eq_true, Bool.and_eq_true] at h
  exact ⟨h.1.1.1, h.1.1.2, of_decide_eq_true h.1.2, h.2⟩
def zeroS : Store := ⟨⟨zeroD, zeroD⟩, 0, 0, 0, 0⟩
def setD (s : Store) (i : Int) (d : Disk) : Store := if i = 0 then ⟨⟨d, s.Disks.x1⟩, s.Current, s.Number, s.Base, s.Count⟩ else ⟨⟨s.Disks.x0, d⟩, s.Current, s.Number, s.Base, s.Count⟩
def putR (s : Store) (x : Disk × Int) : Store × Int := (if x.2 = 0 then ⟨(setD s s.Current x.1).Disks, s.Current, s.Number, s.Base, s.Count + 1⟩ else setD s s.Current x.1, x.2)
def putS (k : Nat) (s : Store) (b : List UInt8) : Store × Int :=
  if okS k s = false ∨ 6064 < b.length ∨ s.Base + s.Count = 1099511627776 then (zeroS, 1) else putR s (appendR (cur s) ⟨2, b⟩)
theorem setD0 {s : Store} {i : Int} {d : Disk} (h : i = 0) : setD s i d = ⟨⟨d, s.Disks.x1⟩, s.Current, s.Number, s.Base, s.Count⟩ := if_pos h
theorem setD1 {s : Store} {i : Int} {d : Disk} (h : i ≠ 0) : setD s i d = ⟨⟨s.Disks.x0, d⟩, s.Current, s.Number, s.Base, s.Count⟩ := if_neg h
theorem cur0 {s : Store} (h : s.Current = 0) : cur s = s.Disks.x0 := if_pos h
theorem cur1 {s : Store} (h : s.Current ≠ 0) : cur s = s.Disks.x1 := if_neg h
theorem clone_s (k : Nat) (s : Store) (h0 : s.Disks.x0.Data.length ≤ 1400000) (h1 : s.Disks.x1.Data.length ≤ 1400000) : store_clone k s = some s := by
  unfold store_clone
  rw [ifp_pos (by omega), ifp_pos (by omega)]
theorem writes_ok {d : Disk} (h : d.ok) : d.Writes ≤ 9223372036854775807 := by
  unfold Disk.ok I64 at h
  omega
theorem put_store (k : Nat) (s : Store) (b : List UInt8) (h0 : s.Disks.x0.Data.length ≤ 1400000) (h1 : s.Disks.x1.Data.length ≤ 1400000) (hk0 : s.Disks.x0.Data.length + 20 ≤ k) (hk1 : s.Disks.x1.Data.length + 20 ≤ k) (hk2 : k ≤ 100000) (hb : b.length + 20 ≤ k) (hs : s.ok) : store_Put k s b = some (putS k s b) := by
  unfold store_Put putS
  rw [validS_eq k s h0 h1 hk0 hk1 hs, bind_e rfl]
  have hw0 := writes_ok hs.1.1
  have hw1 := writes_ok hs.1.2
  cases hv : okS k s with
  | false => rw [if_pos (.inl rfl)]; rfl
  | true =>
    obtain ⟨_, _, hr, _⟩ := okS_facts hv
    unfold rangeOk at hr
    have hsc := hs.2.2.2.2
    by_cases hl : 6064 < b.length
    · rw [decide_eq_true (by omega), if_pos (.inr (.inl hl))]; rfl
    rw [decide_eq_false (by omega), W_id (by omega) (by omega)]
    by_cases hm : s.Base + s.Count = 1099511627776
    · rw [show (s.Base + s.Count == 1099511627776) = true from by simp [hm], if_pos (.inr (.inr hm))]; rfl
    rw [show (s.Base + s.Count == 1099511627776) = false from by simp [hm], if_neg (by simp; omega), Bool.not_true, Bool.or_self, Bool.or_self, cond_false]
    unfold putR
    by_cases hc : s.Current = 0
    · rw [decide_eq_true hc, cond_true, cur0 hc, setD0 hc, jappend_eq k _ _ (by dsimp only; omega) (by dsimp only; omega) hk2 (by omega) hw0, bind_e rfl, clone_s k s h0 h1, bind_e rfl, decide_eq_true hc, cond_true]
      by_cases he : (appendR s.Disks.x0 ⟨2, b⟩).2 = 0
      · rw [show ((appendR s.Disks.x0 ⟨2, b⟩).2 == 0) = true from by simp [he], cond_true, if_pos he, W_id (by omega) (by omega)]
      · rw [show ((appendR s.Disks.x0 ⟨2, b⟩).2 == 0) = false from by simp [he], cond_false, if_neg he]
    · rw [decide_eq_false hc, cond_false, cur1 hc, setD1 hc, ifp_pos (by omega), jappend_eq k _ _ (by dsimp only; omega) (by dsimp only; omega) hk2 (by omega) hw1, bind_e rfl, clone_s k s h0 h1, bind_e rfl, decide_eq_false hc, cond_false, ifp_pos (by omega)]
      by_cases he : (appendR s.Disks.x1 ⟨2, b⟩).2 = 0
      · rw [show ((appendR s.Disks.x1 ⟨2, b⟩).2 == 0) = true from by simp [he], cond_true, if_pos he, W_id (by omega) (by omega)]
      · rw [show ((appendR s.Disks.x1 ⟨2, b⟩).2 == 0) = false from by simp [he], cond_false, if_neg he]
theorem copy_s (k : Nat) (s : Store) (h0 : s.Disks.x0.Data.length ≤ 1400000) (h1 : s.Disks.x1.Data.length ≤ 1400000) : actorgridref26_CopyStore k s = some s := by
  unfold actorgridref26_CopyStore
  rw [copy_ref k _ (by omega), bind_e rfl, copy_ref k _ (by omega), bind_e rfl]
theorem put_ref (k : Nat) (s : Store) (b : List UInt8) (h0 : s.Disks.x0.Data.length ≤ 1400000) (h1 : s.Disks.x1.Data.length ≤ 1400000) (hk0 : s.Disks.x0.Data.length + 20 ≤ k) (hk1 : s.Disks.x1.Data.length + 20 ≤ k) (hk2 : k ≤ 100000) (hb : b.length + 20 ≤ k) (hs : s.ok) : actorgridref26_Put k s b = some (putS k s b) := by
  unfold actorgridref26_Put putS
  rw [validR_st k s h0 h1 hk0 hk1 hs, bind_e rfl]
  have hw0 := writes_ok hs.1.1
  have hw1 := writes_ok hs.1.2
  cases hv : okS k s with
  | false => rw [if_pos (.inl rfl)]; rfl
  | true =>
    obtain ⟨_, _, hr, _⟩ := okS_facts hv
    unfold rangeOk at hr
    by_cases hl : 6064 < b.length
    · rw [decide_eq_true (by omega), if_pos (.inr (.inl hl))]; rfl
    rw [decide_eq_false (by omega), W_id (by omega) (by omega)]
    by_cases hm : s.Base + s.Count = 1099511627776
    · rw [show (s.Base + s.Count == 1099511627776) = true from by simp [hm], if_pos (.inr (.inr hm))]; rfl
    rw [show (s.Base + s.Count == 1099511627776) = false from by simp [hm], if_neg (by simp; omega), Bool.not_true, Bool.or_self, Bool.or_self, cond_false, copy_s k s h0 h1, bind_e rfl]
    unfold putR
    by_cases hc : s.Current = 0
    · rw [decide_eq_true hc, cond_true, cur0 hc, setD0 hc, jappend_ref k _ _ (by dsimp only; omega) (by dsimp only; omega) hk2 (by omega) hw0, bind_e rfl]
      by_cases he : (appendR s.Disks.x0 ⟨2, b⟩).2 = 0
      · rw [show ((appendR s.Disks.x0 ⟨2, b⟩).2 != 0) = false from by simp [he], cond_false, if_pos he, he, W_id (by omega) (by omega)]
      · rw [show ((appendR s.Disks.x0 ⟨2, b⟩).2 != 0) = true from by simp [he], cond_true, if_neg he]
    · rw [decide_eq_false hc, cond_false, cur1 hc, setD1 hc, ifp_pos (by omega), jappend_ref k _ _ (by dsimp only; omega) (by dsimp only; omega) hk2 (by omega) hw1, bind_e rfl, ifp_pos (by omega)]
      by_cases he : (appendR s.Disks.x1 ⟨2, b⟩).2 = 0
      · rw [show ((appendR s.Disks.x1 ⟨2, b⟩).2 != 0) = false from by simp [he], cond_false, if_pos he, he, W_id (by omega) (by omega)]
      · rw [show ((appendR s.Disks.x1 ⟨2, b⟩).2 != 0) = true from by simp [he], cond_true, if_neg he]
/-- The body of a header. -/
def headB (n b : Nat) (st : List UInt8) : List UInt8 := enc n ++ enc b ++ enc st.length ++ st
theorem headB_len (n b : Nat) (st : List UInt8) (hn : n ≤ 1099511627776) (hb : b ≤ 1099511627776) (hs : st.length ≤ 3000000) : (headB n b st).length ≤ st.length + 30 := by
  have h1 := enc_len 9 n (by omega)
  have h2 := enc_len 9 b (by omega)
  have h3 := enc_len5 (n := st.length) (by omega)
  unfold headB
  simp only [List.length_append]
  omega
theorem ofInt_small {n : Nat} (h : n ≤ 1099511627776) : (UInt64.ofInt (n : Int)).toNat = n := by rw [ofInt_nat]; omega
theorem header_eq (k : Nat) (hk : 10 ≤ k) (hk2 : k ≤ 100000) (n b : Nat) (st : List UInt8) (hn : n ≤ 1099511627776) (hb : b ≤ 1099511627776) (hs : st.length ≤ 2000000) : store_header k (n : Int) (b : Int) st = some (headB n b st) := by
  have h1 := enc_len 9 n (by omega)
  have h2 := enc_len 9 b (by omega)
  have h3 := enc_len5 (n := st.length) (by omega)
  unfold store_header
  rw [appendUint_eq k hk hk2 _ _ (by simp), bind_e rfl, ofInt_small hn, List.nil_append, appendUint_eq k hk hk2 _ _ (by omega), bind_e rfl, ofInt_small hb, appendUint_eq k hk hk2 _ _ (by rw [List.length_append]; omega), bind_e rfl, ofNat_len (by omega), ifp_pos (by simp only [List.length_append]; omega)]
  rfl
theorem header_rf (k : Nat) (hk : 10 ≤ k) (hk2 : k ≤ 100000) (n b : Nat) (st : List UInt8) (hn : n ≤ 1099511627776) (hb : b ≤ 1099511627776) (hs : st.length ≤ 2000000) : actorgridref26_HeaderBody k (n : Int) (b : Int) st = some (headB n b st) := by
  have h1 := enc_len 9 n (by omega)
  have h2 := enc_len 9 b (by omega)
  have h3 := enc_len5 (n := st.length) (by omega)
  unfold actorgridref26_HeaderBody
  rw [uint_eq k hk hk2, bind_e rfl, ofInt_small hn, uint_eq k hk hk2, bind_e rfl, ofInt_small hb, ifp_pos (by omega), uint_eq k hk hk2, bind_e rfl, ofNat_len (by omega), ifp_pos (by rw [List.length_append]; omega), ifp_pos (by simp only [List.length_append]; omega)]
  rfl
theorem trunc_small (d : Disk) (n : Int) (hw : d.Writes ≤ 9223372036854775807) : (truncD d n).1.Data.length ≤ d.Data.length ∧ (truncD d n).1.Writes ≤ 9223372036854775807 := by
  unfold truncD
  by_cases h1 : valid d = false
  · rw [if_pos h1]; exact ⟨Nat.zero_le _, by show (0 : Int) ≤ _; decide⟩
  rw [if_neg h1]
  by_cases h2 : d.Down = true
  · rw [if_pos h2]; exact ⟨Nat.le_refl _, hw⟩
  rw [if_neg h2]
  by_cases h3 : n < 0 ∨ (d.Data.length : Int) < n
  · rw [if_pos h3]; exact ⟨Nat.le_refl _, hw⟩
  rw [if_neg h3]
  have ht : (d.Data.take n.toNat).length ≤ d.Data.length := by rw [List.length_take]; omega
  by_cases h4 : d.Armed = true ∧ d.Writes = 0
  · rw [if_pos h4]
    refine ⟨?_, by show (0 : Int) ≤ _; decide⟩
    dsimp only
    split
    · exact ht
    · exact Nat.le_refl _
  · rw [if_neg h4]
    refine ⟨ht, ?_⟩
    dsimp only
    split <;> omega
def otherD (s : Store) : Disk := if 1 - s.Current = 0 then s.Disks.x0 else s.Disks.x1
def ckX (s : Store) (body : List UInt8) : Disk × Int := if (truncD (otherD s) 0).2 = 0 then appendR (truncD (otherD s) 0).1 ⟨1, body⟩ else truncD (otherD s) 0
def ckR (s : Store) (x : Disk × Int) : Store × Int := if x.2 ≠ 0 then (setD s (1 - s.Current) x.1, x.2) else (⟨(setD s (1 - s.Current) x.1).Disks, 1 - s.Current, s.Number + 1, s.Base + s.Count, 0⟩, 0)
def ckS (k : Nat) (s : Store) (st : List UInt8) : Store × Int :=
  if okS k s = false ∨ s.Number = 1099511627776 then (zeroS, 1) else ckR s (ckX s (headB (s.Number + 1).toNat (s.Base + s.Count).toNat st))
set_option maxHeartbeats 1000000 in
theorem ck_store (k : Nat) (s : Store) (st : List UInt8) (h0 : s.Disks.x0.Data.length ≤ 1400000) (h1 : s.Disks.x1.Data.length ≤ 1400000) (hk0 : s.Disks.x0.Data.length + 20 ≤ k) (hk1 : s.Disks.x1.Data.length + 20 ≤ k) (hk2 : k ≤ 100000) (hb : st.length + 60 ≤ k) (hs : s.ok) : store_Checkpoint k s st = some (ckS k s st) := by
  unfold store_Checkpoint ckS
  rw [validS_eq k s h0 h1 hk0 hk1 hs, bind_e rfl]
  have hw0 := writes_ok hs.1.1
  have hw1 := writes_ok hs.1.2
  cases hv : okS k s with
  | false => rw [if_pos (.inl rfl)]; rfl
  | true =>
    obtain ⟨_, _, hr, _⟩ := okS_facts hv
    unfold rangeOk at hr
    by_cases hm : s.Number = 1099511627776
    · rw [show (s.Number == 1099511627776) = true from by simp [hm], if_pos (.inr hm)]; rfl
    rw [show (s.Number == 1099511627776) = false from by simp [hm], if_neg (by simp; omega), Bool.not_true, Bool.or_self, cond_false]
    have e1 : W (s.Number + 1) = (((s.Number + 1).toNat : Nat) : Int) := by rw [W_id (by omega) (by omega)]; omega
    have e2 : W (s.Base + s.Count) = (((s.Base + s.Count).toNat : Nat) : Int) := by rw [W_id (by omega) (by omega)]; omega
    have e3 : W (1 - s.Current) = 1 - s.Current := W_id (by omega) (by omega)
    have hbl := headB_len (s.Number + 1).toNat (s.Base + s.Count).toNat st (by omega) (by omega) (by omega)
    rw [e1, e2, e3, header_eq k (by omega) hk2 _ _ st (by omega) (by omega) (by omega), bind_e rfl, decide_eq_false (by omega), cond_false]
    have f1 : (((s.Number + 1).toNat : Nat) : Int) = s.Number + 1 := by omega
    have f2 : (((s.Base + s.Count).toNat : Nat) : Int) = s.Base + s.Count := by omega
    generalize headB (s.Number + 1).toNat (s.Base + s.Count).toNat st = body at hbl ⊢
    unfold ckR ckX otherD
    by_cases hc : 1 - s.Current = 0
    · obtain ⟨t1, t2⟩ := trunc_small s.Disks.x0 0 hw0
      rw [decide_eq_true hc, cond_true, if_pos hc, setD0 hc, trunc_eq k _ _ (by omega) hw0, bind_e rfl]
      by_cases ht : (truncD s.Disks.x0 0).2 = 0
      · rw [show ((truncD s.Disks.x0 0).2 == 0) = true from by simp [ht], cond_true, if_pos ht, jappend_eq k _ _ (by dsimp only; omega) (by dsimp only; omega) hk2 (by omega) t2, bind_e rfl, clone_s k s h0 h1, bind_e rfl]
        by_cases he : (appendR (truncD s.Disks.x0 0).1 ⟨1, body⟩).2 = 0
        · rw [show ((appendR (truncD s.Disks.x0 0).1 ⟨1, body⟩).2 != 0) = false from by simp [he], cond_false, if_neg (by simp [he]), e1, e2, f1, f2]
        · rw [show ((appendR (truncD s.Disks.x0 0).1 ⟨1, body⟩).2 != 0) = true from by simp [he], cond_true, if_pos he]
      · rw [show ((truncD s.Disks.x0 0).2 == 0) = false from by simp [ht], cond_false, if_neg ht, clone_s k s h0 h1, bind_e rfl, show ((truncD s.Disks.x0 0).2 != 0) = true from by simp [ht], cond_true, if_pos ht]
    · obtain ⟨t1, t2⟩ := trunc_small s.Disks.x1 0 hw1
      rw [decide_eq_false hc, cond_false, if_neg hc, setD1 hc, ifp_pos (by omega), trunc_eq k _ _ (by omega) hw1, bind_e rfl]
      by_cases ht : (truncD s.Disks.x1 0).2 = 0
      · rw [show ((truncD s.Disks.x1 0).2 == 0) = true from by simp [ht], cond_true, if_pos ht, jappend_eq k _ _ (by dsimp only; omega) (by dsimp only; omega) hk2 (by omega) t2, bind_e rfl, clone_s k s h0 h1, bind_e rfl, ifp_pos (by omega)]
        by_cases he : (appendR (truncD s.Disks.x1 0).1 ⟨1, body⟩).2 = 0
        · rw [show ((appendR (truncD s.Disks.x1 0).1 ⟨1, body⟩).2 != 0) = false from by simp [he], cond_false, if_neg (by simp [he]), e1, e2, f1, f2]
        · rw [show ((appendR (truncD s.Disks.x1 0).1 ⟨1, body⟩).2 != 0) = true from by simp [he], cond_true, if_pos he]
      · rw [show ((truncD s.Disks.x1 0).2 == 0) = false from by simp [ht], cond_false, if_neg ht, clone_s k s h0 h1, bind_e rfl, ifp_pos (by omega), show ((truncD s.Disks.x1 0).2 != 0) = true from by simp [ht], cond_true, if_pos ht]
set_option maxHeartbeats 1000000 in
theorem ck_ref (k : Nat) (s : Store) (st : List UInt8) (h0 : s.Disks.x0.Data.length ≤ 1400000) (h1 : s.Disks.x1.Data.length ≤ 1400000) (hk0 : s.Disks.x0.Data.length + 20 ≤ k) (hk1 : s.Disks.x1.Data.length + 20 ≤ k) (hk2 : k ≤ 100000) (hb : st.length + 60 ≤ k) (hs : s.ok) : actorgridref26_Checkpoint k s st = some (ckS k s st) := by
  unfold actorgridref26_Checkpoint ckS
  rw [validR_st k s h0 h1 hk0 hk1 hs, bind_e rfl]
  have hw0 := writes_ok hs.1.1
  have hw1 := writes_ok hs.1.2
  cases hv : okS k s with
  | false => rw [if_pos (.inl rfl)]; rfl
  | true =>
    obtain ⟨_, _, hr, _⟩ := okS_facts hv
    unfold rangeOk at hr
    by_cases hm : s.Number = 1099511627776
    · rw [show (s.Number == 1099511627776) = true from by simp [hm], if_pos (.inr hm)]; rfl
    rw [show (s.Number == 1099511627776) = false from by simp [hm], if_neg (by simp; omega), Bool.not_true, Bool.or_self, cond_false]
    have e1 : W (s.Number + 1) = (((s.Number + 1).toNat : Nat) : Int) := by rw [W_id (by omega) (by omega)]; omega
    have e2 : W (s.Base + s.Count) = (((s.Base + s.Count).toNat : Nat) : Int) := by rw [W_id (by omega) (by omega)]; omega
    have e3 : W (1 - s.Current) = 1 - s.Current := W_id (by omega) (by omega)
    have hbl := headB_len (s.Number + 1).toNat (s.Base + s.Count).toNat st (by omega) (by omega) (by omega)
    rw [e1, e2, header_rf k (by omega) hk2 _ _ st (by omega) (by omega) (by omega), bind_e rfl, decide_eq_false (by omega), cond_false, copy_s k s h0 h1, bind_e rfl, e3]
    have f1 : (((s.Number + 1).toNat : Nat) : Int) = s.Number + 1 := by omega
    have f2 : (((s.Base + s.Count).toNat : Nat) : Int) = s.Base + s.Count := by omega
    generalize headB (s.Number + 1).toNat (s.Base + s.Count).toNat st = body at hbl ⊢
    unfold ckR ckX otherD
    by_cases hc : 1 - s.Current = 0
    · obtain ⟨t1, t2⟩ := trunc_small s.Disks.x0 0 hw0
      rw [decide_eq_true hc, cond_true, if_pos hc, setD0 hc, trunc_ref k _ _ (by omega) hw0, bind_e rfl]
      by_cases ht : (truncD s.Disks.x0 0).2 = 0
      · rw [show ((truncD s.Disks.x0 0).2 != 0) = false from by simp [ht], cond_false, if_pos ht, jappend_ref k _ _ (by dsimp only; omega) (by dsimp only; omega) hk2 (by omega) t2, bind_e rfl]
        by_cases he : (appendR (truncD s.Disks.x0 0).1 ⟨1, body⟩).2 = 0
        · rw [show ((appendR (truncD s.Disks.x0 0).1 ⟨1, body⟩).2 != 0) = false from by simp [he], cond_false, if_neg (by simp [he]), e1, e2, f1, f2]
        · rw [show ((appendR (truncD s.Disks.x0 0).1 ⟨1, body⟩).2 != 0) = true from by simp [he], cond_true, if_pos he]
      · rw [show ((truncD s.Disks.x0 0).2 != 0) = true from by simp [ht], cond_true, if_neg ht, if_pos ht]
    · obtain ⟨t1, t2⟩ := trunc_small s.Disks.x1 0 hw1
      rw [decide_eq_false hc, cond_false, if_neg hc, setD1 hc, ifp_pos (by omega), trunc_ref k _ _ (by omega) hw1, bind_e rfl, ifp_pos (by omega)]
      by_cases ht : (truncD s.Disks.x1 0).2 = 0
      · rw [show ((truncD s.Disks.x1 0).2 != 0) = false from by simp [ht], cond_false, if_pos ht, jappend_ref k _ _ (by dsimp only; omega) (by dsimp only; omega) hk2 (by omega) t2, bind_e rfl, ifp_pos (by omega)]
        by_cases he : (appendR (truncD s.Disks.x1 0).1 ⟨1, body⟩).2 = 0
        · rw [show ((appendR (truncD s.Disks.x1 0).1 ⟨1, body⟩).2 != 0) = false from by simp [he], cond_false, if_neg (by simp [he]), e1, e2, f1, f2]
        · rw [show ((appendR (truncD s.Disks.x1 0).1 ⟨1, body⟩).2 != 0) = true from by simp [he], cond_true, if_pos he]
      · rw [show ((truncD s.Disks.x1 0).2 != 0) = true from by simp [ht], cond_true, if_neg ht, if_pos ht]
def newS (c : Int) : Store × Int := if (newD c).2 ≠ 0 then (zeroS, (newD c).2) else if (appendR (newD c).1 ⟨1, headB 0 0 []⟩).2 ≠ 0 then (zeroS, (appendR (newD c).1 ⟨1, headB 0 0 []⟩).2) else (⟨⟨(appendR (newD c).1 ⟨1, headB 0 0 []⟩).1, (newD c).1⟩, 0, 0, 0, 0⟩, 0)
theorem new_small (c : Int) : (newD c).1.Data.length = 0 ∧ (newD c).1.Writes = 0 := by
  unfold newD zeroD
  split <;> exact ⟨rfl, rfl⟩
theorem head0_len : (headB 0 0 []).length = 3 := by
  have : enc 0 = [UInt8.ofNat 0] := enc_lt (by decide)
  unfold headB
  rw [this, List.length_nil, this]
  rfl
theorem new_store (k : Nat) (hk : 100 ≤ k) (hk2 : k ≤ 100000) (c : Int) : store_New k c = some (newS c) := by
  obtain ⟨h1, h2⟩ := new_small c
  have h3 := head0_len
  have hh : store_header k 0 0 [] = some (headB 0 0 []) := header_eq k (by omega) hk2 0 0 [] (by omega) (by omega) (by simp)
  unfold store_New newS
  rw [new_eq, bind_e rfl]
  by_cases he : (newD c).2 = 0
  · rw [show ((newD c).2 != 0) = false from by simp [he], cond_false, bind_e rfl, show ((newD c).2 != 0) = false from by simp [he], cond_false, if_neg (by simp [he]), hh, bind_e rfl, jappend_eq k _ _ (by dsimp only; omega) (by dsimp only; omega) hk2 (by omega) (by omega), bind_e rfl]
    by_cases hf : (appendR (newD c).1 ⟨1, headB 0 0 []⟩).2 = 0
    · rw [show ((appendR (newD c).1 ⟨1, headB 0 0 []⟩).2 != 0) = false from by simp [hf], cond_false, if_neg (by simp [hf])]
    · rw [show ((appendR (newD c).1 ⟨1, headB 0 0 []⟩).2 != 0) = true from by simp [hf], cond_true, if_pos hf]
      rfl
  · rw [show ((newD c).2 != 0) = true from by simp [he], cond_true, if_pos he]
    rfl
theorem new_rf (k : Nat) (hk : 100 ≤ k) (hk2 : k ≤ 100000) (c : Int) : actorgridref26_NewStore k c = some (newS c) := by
  obtain ⟨h1, h2⟩ := new_small c
  have h3 := head0_len
  have hh : actorgridref26_HeaderBody k 0 0 [] = some (headB 0 0 []) := header_rf k (by omega) hk2 0 0 [] (by omega) (by omega) (by simp)
  unfold actorgridref26_NewStore newS
  rw [new_ref, bind_e rfl]
  by_cases he : (newD c).2 = 0
  · rw [show ((newD c).2 != 0) = false from by simp [he], cond_false, if_neg (by simp [he]), hh, bind_e rfl, jappend_ref k _ _ (by dsimp only; omega) (by dsimp only; omega) hk2 (by omega) (by omega), bind_e rfl]
    by_cases hf : (appendR (newD c).1 ⟨1, headB 0 0 []⟩).2 = 0
    · rw [show ((appendR (newD c).1 ⟨1, headB 0 0 []⟩).2 != 0) = false from by simp [hf], cond_false, if_neg (by simp [hf]), copy_ref k _ (by omega), bind_e rfl]
    · rw [show ((appendR (newD c).1 ⟨1, headB 0 0 []⟩).2 != 0) = true from by simp [hf], cond_true, if_pos hf]
      rfl
  · rw [show ((newD c).2 != 0) = true from by simp [he], cond_true, if_pos he]
    rfl
def zeroC : StoreContents := ⟨0, [], []⟩
def finS (k : Nat) (a b : Disk) (i : Int) (n : Nat) (c : StoreContents) : Store × StoreContents × Int :=
  if total (frs k (if i = 0 then a else b).Data) < (if i = 0 then a else b).Data.length then
    (if (truncD (if i = 0 then a else b) (total (frs k (if i = 0 then a else b).Data))).2 ≠ 0 then (zeroS, zeroC, (truncD (if i = 0 then a else b) (total (frs k (if i = 0 then a else b).Data))).2)
     else (⟨(if i = 0 then ⟨(truncD a (total (frs k a.Data))).1, b⟩ else ⟨a, (truncD b (total (frs k b.Data))).1⟩), i, (n : Int), c.Base, (c.Entries.length : Int)⟩, c, 0))
  else (⟨⟨a, b⟩, i, (n : Int), c.Base, (c.Entries.length : Int)⟩, c, 0)
def pick2 (p q : Option (Nat × StoreContents)) : Option (Int × Nat × StoreContents) := match p, q with
  | none, none => none
  | some (n, c), none => some (0, n, c)
  | none, some (n, c) => some (1, n, c)
  | some (n0, c0), some (n1, c1) => if n0 < n1 then some (1, n1, c1) else some (0, n0, c0)
def usable (k : Nat) (d : Disk) : Option (Nat × StoreContents) := contentsC (recs k d.Data)
def recS (k : Nat) (a b : Disk) : Store × StoreContents × Int :=
  if valid a = false ∨ valid b = false then (zeroS, zeroC, 1) else if a.Down = true ∨ b.Down = true then (zeroS, zeroC, 23)
  else match pick2 (usable k a) (usable k b) with
    | none => (zeroS, zeroC, 24)
    | some (i, n, c) => finS k a b i n c
theorem fin0 (k : Nat) (a b : Disk) (n : Nat) (c : StoreContents) (hda : a.Data.length ≤ 1400000) (hwa : a.Writes ≤ 9223372036854775807) :
    (bif (decide (((total (frs k a.Data) : Nat) : Int) < ((a.Data.length : Nat) : Int))) then ((disk_Truncate k a ((total (frs k a.Data) : Nat) : Int)).bind fun x13 => bif (x13.2 != 0) then (some (zeroS, zeroC, x13.2)) else (some ((⟨(⟨x13.1, b⟩ : Arr2Disk), 0, (n : Int), c.Base, ((c.Entries.length : Nat) : Int)⟩ : Store), c, (0 : Int)))) else (some ((⟨⟨a, b⟩, 0, (n : Int), c.Base, ((c.Entries.length : Nat) : Int)⟩ : Store), c, 0))) = some (finS k a b 0 n c) := by
  unfold finS
  rw [if_pos rfl]
  by_cases ht : total (frs k a.Data) < a.Data.length
  · rw [decide_eq_true (by omega), cond_true, if_pos ht, trunc_eq k _ _ (by omega) hwa, bind_e rfl]
    by_cases he : (truncD a ((total (frs k a.Data) : Nat) : Int)).2 = 0
    · rw [show ((truncD a ((total (frs k a.Data) : Nat) : Int)).2 != 0) = false from by simp [he], cond_false, if_neg (by simp [he]), if_pos rfl]
    · rw [show ((truncD a ((total (frs k a.Data) : Nat) : Int)).2 != 0) = true from by simp [he], cond_true, if_pos he]
  · rw [decide_eq_false (by omega), cond_false, if_neg ht]
theorem fin1 (k : Nat) (a b : Disk) (n : Nat) (c : StoreContents) (hdb : b.Data.length ≤ 1400000) (hwb : b.Writes ≤ 9223372036854775807) :
    (bif (decide (((total (frs k b.Data) : Nat) : Int) < ((b.Data.length : Nat) : Int))) then ((disk_Truncate k b ((total (frs k b.Data) : Nat) : Int)).bind fun x13 => bif (x13.2 != 0) then (some (zeroS, zeroC, x13.2)) else (some ((⟨(⟨a, x13.1⟩ : Arr2Disk), 1, (n : Int), c.Base, ((c.Entries.length : Nat) : Int)⟩ : Store), c, (0 : Int)))) else (some ((⟨⟨a, b⟩, 1, (n : Int), c.Base, ((c.Entries.length : Nat) : Int)⟩ : Store), c, 0))) = some (finS k a b 1 n c) := by
  unfold finS
  rw [if_neg (show ¬ (1 : Int) = 0 by decide)]
  by_cases ht : total (frs k b.Data) < b.Data.length
  · rw [decide_eq_true (by omega), cond_true, if_pos ht, trunc_eq k _ _ (by omega) hwb, bind_e rfl]
    by_cases he : (truncD b ((total (frs k b.Data) : Nat) : Int)).2 = 0
    · rw [show ((truncD b ((total (frs k b.Data) : Nat) : Int)).2 != 0) = false from by simp [he], cond_false, if_neg (by simp [he]), if_neg (show ¬ (1 : Int) = 0 by decide)]
    · rw [show ((truncD b ((total (frs k b.Data) : Nat) : Int)).2 != 0) = true from by simp [he], cond_true, if_pos he]
  · rw [decide_eq_false (by omega), cond_false, if_neg ht]
set_option maxHeartbeats 1000000 in
theorem recover_store (k : Nat) (a b : Disk) (hda : a.Data.length ≤ 1400000) (hdb : b.Data.length ≤ 1400000) (hka : a.Data.length + 20 ≤ k) (hkb : b.Data.length + 20 ≤ k) (hwa : a.Writes ≤ 9223372036854775807) (hwb : b.Writes ≤ 9223372036854775807) : store_Recover k a b = some (recS k a b) := by
  unfold store_Recover recS
  rw [valid_eq, bind_e rfl]
  cases hva : valid a with
  | false => rw [if_pos (.inl rfl)]; rfl
  | true =>
    rw [Bool.not_true, cond_false, valid_eq, bind_e rfl]
    cases hvb : valid b with
    | false => rw [if_pos (.inr rfl)]; rfl
    | true =>
      rw [Bool.not_true, cond_false, if_neg (by simp)]
      by_cases hna : a.Down = true
      · rw [hna, cond_true, if_pos (.inl rfl)]; rfl
      rw [show a.Down = false from by simpa using hna, cond_false]
      by_cases hnb : b.Down = true
      · rw [hnb, cond_true, if_pos (.inr rfl)]; rfl
      rw [show b.Down = false from by simpa using hnb, cond_false, if_neg (by simp), clone_s k _ hda hdb, bind_e rfl]
      dsimp only
      obtain ⟨r0, e1, e2, e3⟩ := sread k a hda hka
      obtain ⟨r1, f1, f2, f3⟩ := sread k b hdb hkb
      rw [e1, bind_e rfl, f1]
      change _ = some (match pick2 (contentsC (recs k a.Data)) (contentsC (recs k b.Data)) with | none => _ | some (i, n, c) => _)
      cases ha : contentsC (recs k a.Data) with
      | none =>
        rw [e3 ha, Bool.false_and, cond_false, bind_e rfl]
        dsimp only
        rw [bind_e rfl]
        cases hb : contentsC (recs k b.Data) with
        | none =>
          rw [f3 hb, Bool.false_and, cond_false, bind_e rfl]
          rfl
        | some q1 =>
          obtain ⟨n1, c1⟩ := q1
          rw [f2 n1 c1 hb]
          dsimp only
          rw [Bool.not_false, Bool.true_or, Bool.and_self, cond_true, bind_e rfl]
          dsimp only
          rw [Bool.not_true, cond_false, decide_eq_false (by decide), cond_false, ifp_pos rfl]
          simp only [ifp_pos]
          exact fin1 k a b n1 c1 hdb hwb
      | some q0 =>
        obtain ⟨n0, c0⟩ := q0
        rw [e2 n0 c0 ha]
        dsimp only
        rw [Bool.and_self, cond_true, bind_e rfl]
        dsimp only
        rw [bind_e rfl, Bool.not_true, Bool.false_or]
        cases hb : contentsC (recs k b.Data) with
        | none =>
          rw [f3 hb, Bool.false_and, cond_false, bind_e rfl]
          dsimp only
          rw [Bool.not_true, cond_false, decide_eq_true rfl, cond_true]
          exact fin0 k a b n0 c0 hda hwa
        | some q1 =>
          obtain ⟨n1, c1⟩ := q1
          rw [f2 n1 c1 hb]
          dsimp only
          rw [Bool.true_and]
          unfold pick2
          dsimp only
          by_cases hlt : n0 < n1
          · rw [decide_eq_true (by omega), cond_true, bind_e rfl, if_pos hlt]
            dsimp only
            rw [Bool.not_true, cond_false, decide_eq_false (by decide), cond_false, ifp_pos rfl]
            simp only [ifp_pos]
            exact fin1 k a b n1 c1 hdb hwb
          · rw [decide_eq_false (by omega), cond_false, bind_e rfl, if_neg hlt]
            dsimp only
            rw [Bool.not_true, cond_false, decide_eq_true rfl, cond_true]
            exact fin0 k a b n0 c0 hda hwa
theorem finR0 (k : Nat) (a b : Disk) (n : Nat) (c : StoreContents) (hda : a.Data.length ≤ 1400000) (hwa : a.Writes ≤ 9223372036854775807) :
    (bif (decide (((total (frs k a.Data) : Nat) : Int) < ((a.Data.length : Nat) : Int))) then ((actorgridref26_Truncate k a ((total (frs k a.Data) : Nat) : Int)).bind fun x13 => bif (x13.2 != 0) then (some (zeroS, zeroC, x13.2)) else (some ((⟨(⟨x13.1, b⟩ : Arr2Disk), 0, (n : Int), c.Base, ((c.Entries.length : Nat) : Int)⟩ : Store), c, (0 : Int)))) else (some ((⟨⟨a, b⟩, 0, (n : Int), c.Base, ((c.Entries.length : Nat) : Int)⟩ : Store), c, 0))) = some (finS k a b 0 n c) := by
  rw [← fin0 k a b n c hda hwa, trunc_eq k _ _ (by omega) hwa, trunc_ref k _ _ (by omega) hwa]
theorem finR1 (k : Nat) (a b : Disk) (n : Nat) (c : StoreContents) (hdb : b.Data.length ≤ 1400000) (hwb : b.Writes ≤ 9223372036854775807) :
    (bif (decide (((total (frs k b.Data) : Nat) : Int) < ((b.Data.length : Nat) : Int))) then ((actorgridref26_Truncate k b ((total (frs k b.Data) : Nat) : Int)).bind fun x13 => bif (x13.2 != 0) then (some (zeroS, zeroC, x13.2)) else (some ((⟨(⟨a, x13.1⟩ : Arr2Disk), 1, (n : Int), c.Base, ((c.Entries.length : Nat) : Int)⟩ : Store), c, (0 : Int)))) else (some ((⟨⟨a, b⟩, 1, (n : Int), c.Base, ((c.Entries.length : Nat) : Int)⟩ : Store), c, 0))) = some (finS k a b 1 n c) := by
  rw [← fin1 k a b n c hdb hwb, trunc_eq k _ _ (by omega) hwb, trunc_ref k _ _ (by omega) hwb]
set_option maxHeartbeats 1000000 in
theorem recover_rf (k : Nat) (a b : Disk) (hda : a.Data.length ≤ 1400000) (hdb : b.Data.length ≤ 1400000) (hka : a.Data.length + 20 ≤ k) (hkb : b.Data.length + 20 ≤ k) (hwa : a.Writes ≤ 9223372036854775807) (hwb : b.Writes ≤ 9223372036854775807) : actorgridref26_RecoverStore k a b = some (recS k a b) := by
  have ra := recs_len k a.Data (by omega)
  have rb := recs_len k b.Data (by omega)
  have oa := recs_ok k a.Data (by omega)
  have ob := recs_ok k b.Data (by omega)
  unfold actorgridref26_RecoverStore recS
  rw [valid_ref, bind_e rfl]
  cases hva : valid a with
  | false => rw [if_pos (.inl rfl)]; rfl
  | true =>
    rw [Bool.not_true, cond_false, valid_ref, bind_e rfl, bind_e rfl]
    cases hvb : valid b with
    | false => rw [if_pos (.inr rfl)]; rfl
    | true =>
      rw [Bool.not_true, cond_false, if_neg (by simp)]
      by_cases hna : a.Down = true
      · rw [hna, Bool.true_or, cond_true, if_pos (.inl rfl)]; rfl
      rw [show a.Down = false from by simpa using hna, Bool.false_or]
      by_cases hnb : b.Down = true
      · rw [hnb, cond_true, if_pos (.inr rfl)]; rfl
      rw [show b.Down = false from by simpa using hnb, cond_false, if_neg (by simp), copy_ref k a (by omega), bind_e rfl, copy_ref k b (by omega), bind_e rfl]
      obtain ⟨r0, e1, e2, e3⟩ := scont k (recs k a.Data) (by omega) (by omega) (fun x hx => by have := oa x hx; omega)
      obtain ⟨r1, f1, f2, f3⟩ := scont k (recs k b.Data) (by omega) (by omega) (fun x hx => by have := ob x hx; omega)
      rw [scan_refr k _ (by omega) hka, bind_e rfl, scan_refr k _ (by omega) hkb]
      dsimp only
      rw [e1, bind_e rfl]
      change _ = some (match pick2 (contentsC (recs k a.Data)) (contentsC (recs k b.Data)) with | none => _ | some (i, n, c) => _)
      cases ha : contentsC (recs k a.Data) with
      | none =>
        rw [e3 ha, Bool.false_and, cond_false, bind_e rfl]
        dsimp only
        rw [bind_e rfl]
        dsimp only
        rw [f1, bind_e rfl]
        cases hb : contentsC (recs k b.Data) with
        | none =>
          rw [f3 hb, Bool.false_and, cond_false, bind_e rfl]
          rfl
        | some q1 =>
          obtain ⟨n1, c1⟩ := q1
          rw [f2 n1 c1 hb]
          dsimp only
          rw [show decide ((-1 : Int) < 0) = true from by decide, Bool.true_or, Bool.and_self, cond_true, bind_e rfl]
          dsimp only
          rw [show decide ((1 : Int) < 0) = false from by decide, cond_false, show decide ((1 : Int) = 0) = false from by decide, cond_false, ifp_pos rfl]
          simp only [ifp_pos]
          exact finR1 k a b n1 c1 hdb hwb
      | some q0 =>
        obtain ⟨n0, c0⟩ := q0
        rw [e2 n0 c0 ha]
        dsimp only
        rw [Bool.and_self, cond_true, bind_e rfl]
        dsimp only
        rw [bind_e rfl]
        dsimp only
        rw [f1, bind_e rfl, show decide ((0 : Int) < 0) = false from by decide, Bool.false_or]
        cases hb : contentsC (recs k b.Data) with
        | none =>
          rw [f3 hb, Bool.false_and, cond_false, bind_e rfl]
          dsimp only
          rw [show decide ((0 : Int) < 0) = false from by decide, cond_false, decide_eq_true rfl, cond_true]
          exact finR0 k a b n0 c0 hda hwa
        | some q1 =>
          obtain ⟨n1, c1⟩ := q1
          rw [f2 n1 c1 hb]
          dsimp only
          rw [Bool.true_and]
          unfold pick2
          dsimp only
          by_cases hlt : n0 < n1
          · rw [decide_eq_true (by omega), cond_true, bind_e rfl, if_pos hlt]
            dsimp only
            rw [show decide ((1 : Int) < 0) = false from by decide, cond_false, show decide ((1 : Int) = 0) = false from by decide, cond_false, ifp_pos rfl]
            simp only [ifp_pos]
            exact finR1 k a b n1 c1 hdb hwb
          · rw [decide_eq_false (by omega), cond_false, bind_e rfl, if_neg hlt]
            dsimp only
            rw [show decide ((0 : Int) < 0) = false from by decide, cond_false, decide_eq_true rfl, cond_true]
            exact finR0 k a b n0 c0 hda hwa
theorem same28 (k : Nat) (s : Store) (e : Int) : actorgridlaw28_same k s e s e = some true := by
  unfold actorgridlaw28_same actorgridref26_SameStore
  rw [beq_self_eq_true, cond_true, sameD_eq, bind_e rfl, cond_true, sameD_eq, bind_e rfl, bind_e rfl, beq_self_eq_true, beq_self_eq_true, beq_self_eq_true, beq_self_eq_true]
  rfl
theorem sameC_loop (k : Nat) (c : StoreContents) (hc : c.Entries.length ≤ 4000000) : ∀ (n i : Nat), i ≤ c.Entries.length → c.Entries.length - i < n → actorgridref26_SameContents_loop1 k c c n i = some (.inl ())
  | 0, i, _, h => by omega
  | n + 1, i, hi, h => by
    unfold actorgridref26_SameContents_loop1
    by_cases hl : i < c.Entries.length
    · rw [decide_eq_true (by omega), cond_true, ifp_pos hl, ifp_pos hl, decide_eq_true rfl, Bool.not_true, cond_false, ifp_pos (by omega)]
      exact sameC_loop k c hc n (i + 1) (by omega) (by omega)
    · rw [decide_eq_false (by omega)]; rfl
theorem sameC (k : Nat) (c : StoreContents) (hc : c.Entries.length ≤ 4000000) (hk : c.Entries.length < k) : actorgridref26_SameContents k c c = some true := by
  unfold actorgridref26_SameContents
  rw [bne_self_eq_false, decide_eq_true rfl, bne_self_eq_false, Bool.not_true, Bool.or_self, Bool.or_self, cond_false, sameC_loop k c hc k 0 (Nat.zero_le _) (by omega)]
  rfl
theorem contentsC_len {l : List JournalRecord} {n : Nat} {c : StoreContents} (h : contentsC l = some (n, c)) : c.Entries.length ≤ l.length := by
  cases l with
  | nil => cases h
  | cons r l =>
    by_cases h1 : r.Kind = 1
    · rw [contentsC_one h1] at h
      cases hp : parseH r.Body with
      | none => rw [hp] at h; cases h
      | some q =>
        obtain ⟨n0, b, st⟩ := q
        rw [hp] at h
        dsimp only at h
        cases he : entriesC l with
        | none => rw [he] at h; cases h
        | some es =>
          rw [he] at h
          dsimp only at h
          split at h
          · cases h
          · cases h
            have := entriesC_len he
            simp
            omega
    · rw [contentsC_no h1] at h; cases h
theorem recS_len (k : Nat) (a b : Disk) (m : Nat) (hda : a.Data.length ≤ m) (hdb : b.Data.length ≤ m) (hm : m ≤ 3000000) : (recS k a b).2.1.Entries.length ≤ m := by
  have ra := recs_len k a.Data (by omega)
  have rb := recs_len k b.Data (by omega)
  have hf : ∀ i n c, c.Entries.length ≤ m → (finS k a b i n c).2.1.Entries.length ≤ m := fun i n c hc => by
    unfold finS
    repeat' split
    all_goals first | exact hc | exact Nat.zero_le _
  unfold recS
  split
  · exact Nat.zero_le _
  split
  · exact Nat.zero_le _
  split
  · exact Nat.zero_le _
  · rename_i i n c hp
    refine hf i n c ?_
    unfold usable pick2 at hp
    cases h0 : contentsC (recs k a.Data) with
    | none =>
      cases h1 : contentsC (recs k b.Data) with
      | none => rw [h0, h1] at hp; cases hp
      | some q => rw [h0, h1] at hp; cases hp; have := contentsC_len h1; omega
    | some p =>
      cases h1 : contentsC (recs k b.Data) with
      | none => rw [h0, h1] at hp; cases hp; have := contentsC_len h0; omega
      | some q =>
        rw [h0, h1] at hp
        dsimp only at hp
        split at hp
        · cases hp; have := contentsC_len h1; omega
        · cases hp; have := contentsC_len h0; omega
end Md
end Go.Proofs.Ytkcfkcgclljncaa
