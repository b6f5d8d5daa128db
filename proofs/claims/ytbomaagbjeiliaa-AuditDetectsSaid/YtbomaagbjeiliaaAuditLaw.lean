/-
  The plain law of AuditDetects: what a change of a verified log does to Verify and Fork. No walk here.
-/
import Derived.Test.YtbomaagbjeiliaaAuditPartsW
import Derived.Test.YtbomaagbjeiliaaAuditForksW
namespace Go.Proofs.Ytbomaagbjeiliaa
set_option linter.unusedVariables false
open Go.ChangeShapes Go.WideShapes Go.RowKit
open Hash HashW
open Kit hiding keep_cell below_step below_drewN
namespace Audit
open AuditPartsW (lastH_append verify_append parts)

theorem verify_bad (q : Int) (i : Nat) (x y : List Entry) (e : Entry) (hx : (verify q i x).2 = true) (hg : good (lastH q x) (i + x.length : Nat) e = false) : verify q i (x ++ e :: y) = (((i + x.length : Nat) : Int), false) := by
  induction x generalizing q i with
  | nil => simp only [List.nil_append, verify, lastH, List.length_nil, Nat.add_zero] at hg ⊢; rw [hg]; rfl
  | cons a r ih =>
    simp only [List.cons_append, verify, lastH] at hx hg ⊢
    cases h : good q i a with
    | false => rw [h] at hx; simp at hx
    | true =>
      rw [h] at hx
      simp only [if_true] at hx ⊢
      have hl : i + (a :: r).length = i + 1 + r.length := by simp; omega
      rw [hl] at hg ⊢
      exact ih _ _ hx hg
theorem verify_get (l : List Entry) (K : Nat) (e : Entry) (h : (verify 0 0 l).2 = true) (he : l[K]? = some e) : good (lastH 0 (l.take K)) K e = true := by
  obtain ⟨hK, hee⟩ := List.getElem?_eq_some_iff.1 he
  have hp := parts l K (by omega)
  rw [h, List.drop_eq_getElem_cons hK, hee] at hp
  unfold last at hp
  simp only [extend] at hp
  cases hg : good (lastH 0 (l.take K)) K e with
  | true => rfl
  | false => rw [hg] at hp; simp at hp
theorem verify_take (l : List Entry) (K : Nat) (hK : K ≤ l.length) (h : (verify 0 0 l).2 = true) : (verify 0 0 (l.take K)).2 = true := by
  have hp := parts l K hK
  rw [h] at hp
  exact (Bool.and_eq_true_iff.1 hp.symm).1
theorem split_at {l : List Entry} {m : Nat} {e : Entry} (h : l[m]? = some e) : l = l.take m ++ e :: l.drop (m + 1) := by
  obtain ⟨hm, he⟩ := List.getElem?_eq_some_iff.1 h
  rw [← he, ← List.drop_eq_getElem_cons hm, List.take_append_drop]
theorem fork_self (l : List Entry) : fork l l = l.length := by
  induction l with
  | nil => rfl
  | cons e r ih => simp [fork, (same_iff e e).2 rfl, ih]
theorem fork_at (x y z : List Entry) (a b : Entry) (h : same a b = false) : fork (x ++ a :: y) (x ++ b :: z) = x.length := by
  induction x with
  | nil => simp [fork, h]
  | cons e r ih => simp [fork, (same_iff e e).2 rfl, ih]

/-- Two logs that part at place m, where the second one's entry is bad. -/
structure Parts (l b : List Entry) (m : Nat) : Prop where
  lt : m < l.length
  fork : fork l b = m
  ver : verify 0 0 b = ((m : Int), false)
theorem parts_mk {l b : List Entry} {m : Nat} {e e' : Entry} (h : (verify 0 0 l).2 = true) (he : l[m]? = some e) (he' : b[m]? = some e') (ht : b.take m = l.take m) (hs : same e e' = false) (hg : good (lastH 0 (l.take m)) m e' = false) : Parts l b m := by
  obtain ⟨hm, _⟩ := List.getElem?_eq_some_iff.1 he
  have hl := split_at he
  have hb := split_at he'
  have hlen : (l.take m).length = m := by rw [List.length_take]; omega
  refine ⟨hm, ?_, ?_⟩
  · rw [hb, ht]
    conv => lhs; lhs; rw [hl]
    rw [fork_at _ _ _ _ _ hs, hlen]
  · rw [hb, ht]
    have := verify_bad 0 0 (l.take m) (b.drop (m + 1)) e' (verify_take l m (by omega) h) (by rw [hlen, Nat.zero_add]; exact hg)
    rw [hlen, Nat.zero_add] at this
    exact this

/-- One entry set: the log as it was, or it parts there. -/
theorem set_parts {l : List Entry} {K : Nat} {e e' : Entry} (h : (verify 0 0 l).2 = true) (he : l[K]? = some e) (hg : same e e' = false → good (lastH 0 (l.take K)) K e' = false) : (same e e' = true ∧ l.set K e' = l) ∨ Parts l (l.set K e') K := by
  obtain ⟨hK, hee⟩ := List.getElem?_eq_some_iff.1 he
  cases hs : same e e' with
  | true =>
    left
    refine ⟨rfl, ?_⟩
    rw [← (same_iff e e').1 hs, ← hee]
    exact List.set_getElem_self hK
  | false =>
    right
    exact parts_mk h he (List.getElem?_set_self hK) (by rw [List.take_set_of_le (Nat.le_refl _)]) hs (hg hs)

theorem good_parts {p i : Int} {e : Entry} (h : good p i e = true) : e.index = i ∧ e.text.size ≤ 200 ∧ e.hash = hashI p e.index e.kind e.text.data.toList := by
  simp [good] at h
  exact h

theorem law_index {l : List Entry} {K : Nat} {e : Entry} (n : Int) (h : (verify 0 0 l).2 = true) (he : l[K]? = some e) : (same e { e with index := n } = true ∧ l.set K { e with index := n } = l) ∨ Parts l (l.set K { e with index := n }) K := by
  refine set_parts h he fun hs => ?_
  have hg := good_parts (verify_get l K e h he)
  refine good_index ?_
  rw [beq_eq_false_iff_ne]
  intro hn
  have : same e { e with index := n } = true := (same_iff _ _).2 (by cases e; simp at hg hn ⊢; omega)
  rw [this] at hs; cases hs

theorem law_kind {l : List Entry} {K : Nat} {e : Entry} (n : Int) (h : (verify 0 0 l).2 = true) (he : l[K]? = some e) (hn : (Lit.int .i64 n).wf = true) (hk : (Lit.int .i64 e.kind).wf = true) :
    (same e { e with kind := n } = true ∧ l.set K { e with kind := n } = l) ∨ Parts l (l.set K { e with kind := n }) K := by
  refine set_parts h he fun hs => ?_
  obtain ⟨g1, g2, g3⟩ := good_parts (verify_get l K e h he)
  rw [good_hash (e := { e with kind := n }) (by simp [g1]) g2, beq_eq_false_iff_ne]
  intro hh
  simp only at hh
  rw [g3] at hh
  have h1 := combineI_left (combineI_u64 _ _) (combineI_u64 _ _) hh
  have h2 := combineI_right (U64.wrap _) (U64.wrap _) h1
  have h3 := wrap_inj hk hn h2
  have : same e { e with kind := n } = true := (same_iff _ _).2 (by cases e; simp at h3 ⊢; exact h3)
  rw [this] at hs; cases hs

theorem law_hash {l : List Entry} {K : Nat} {e : Entry} (v : Int) (h : (verify 0 0 l).2 = true) (he : l[K]? = some e) : (same e { e with hash := v } = true ∧ l.set K { e with hash := v } = l) ∨ Parts l (l.set K { e with hash := v }) K := by
  refine set_parts h he fun hs => ?_
  obtain ⟨g1, g2, g3⟩ := good_parts (verify_get l K e h he)
  rw [good_hash (e := { e with hash := v }) (by simp [g1]) g2, beq_eq_false_iff_ne]
  intro hh
  simp only at hh
  rw [← g3] at hh
  have : same e { e with hash := v } = true := (same_iff _ _).2 (by cases e; simp at hh ⊢; exact hh.symm)
  rw [this] at hs; cases hs

theorem law_text {l : List Entry} {K : Nat} {e : Entry} (t : ByteArray) (h : (verify 0 0 l).2 = true) (he : l[K]? = some e) (hw : textI e.text.data.toList ≠ textI t.data.toList ∨ 200 < t.size) :
    verify 0 0 (l.set K { e with text := t }) = ((K : Int), false) := by
  obtain ⟨g1, g2, g3⟩ := good_parts (verify_get l K e h he)
  have hne : same e { e with text := t } = false := by
    cases hs : same e { e with text := t } with
    | false => rfl
    | true =>
      have := congrArg Entry.text ((same_iff _ _).1 hs)
      simp at this
      rw [← this] at hw
      rcases hw with hw | hw
      · exact absurd rfl hw
      · omega
  have hp := set_parts h he (e' := { e with text := t }) fun _ => by
    rcases hw with hw | hw
    · by_cases h2 : t.size ≤ 200
      · rw [good_hash (by simp [g1]) h2, beq_eq_false_iff_ne]
        intro hh
        simp only at hh
        rw [g3] at hh
        exact hw (combineI_right (textI_u64 _) (textI_u64 _) hh)
      · exact good_text h2
    · exact good_text (by simp; omega)
  rcases hp with ⟨h1, _⟩ | hp
  · rw [hne] at h1; cases h1
  · exact hp.ver

theorem law_erase {l : List Entry} {K : Nat} (h : (verify 0 0 l).2 = true) (hK : K + 1 < l.length) : verify 0 0 (l.eraseIdx K) = ((K : Int), false) := by
  have he : l[K]? = some l[K] := List.getElem?_eq_getElem (by omega)
  have he1 : l[K + 1]? = some l[K + 1] := List.getElem?_eq_getElem hK
  have g0 := good_parts (verify_get l K _ h he)
  have g1 := good_parts (verify_get l (K + 1) _ h he1)
  refine (parts_mk h he (e' := l[K + 1]) ?_ ?_ ?_ ?_).ver
  · rw [List.getElem?_eraseIdx, if_neg (by omega)]; exact he1
  · rw [List.eraseIdx_eq_take_drop_succ, List.take_append, List.length_take, Nat.min_eq_left (by omega), Nat.sub_self, List.take_zero, List.append_nil, List.take_take, Nat.min_self]
  · cases hs : same l[K] l[K + 1] with
    | false => rfl
    | true =>
      have := congrArg Entry.index ((same_iff _ _).1 hs)
      rw [g0.1, g1.1] at this
      omega
  · refine good_index ?_
    rw [beq_eq_false_iff_ne, g1.1]
    omega
theorem law_erase_last {l : List Entry} {K : Nat} (h : (verify 0 0 l).2 = true) (hK : K + 1 = l.length) : (verify 0 0 (l.eraseIdx K)).2 = true := by
  rw [List.eraseIdx_eq_take_drop_succ, List.drop_eq_nil_of_le (by omega), List.append_nil]
  exact verify_take l K (by omega) h

theorem law_swap_same {l : List Entry} {K : Nat} (hK : K < l.length) : swapAt l K K = l := by
  unfold swapAt
  rw [List.getElem?_eq_getElem hK]
  simp
theorem law_swap {l : List Entry} {K J : Nat} (h : (verify 0 0 l).2 = true) (hK : K < l.length) (hJ : J < l.length) (hne : K ≠ J) : Parts l (swapAt l K J) (min K J) := by
  have heK : l[K]? = some l[K] := List.getElem?_eq_getElem hK
  have heJ : l[J]? = some l[J] := List.getElem?_eq_getElem hJ
  have gK := good_parts (verify_get l K _ h heK)
  have gJ := good_parts (verify_get l J _ h heJ)
  have hs : swapAt l K J = (l.set K l[J]).set J l[K] := by unfold swapAt; rw [heK, heJ]
  have hd : same l[K] l[J] = false := by
    cases hs : same l[K] l[J] with
    | false => rfl
    | true =>
      have := congrArg Entry.index ((same_iff _ _).1 hs)
      rw [gK.1, gJ.1] at this
      omega
  rw [hs]
  rcases Nat.lt_or_gt_of_ne hne with hlt | hlt
  · rw [Nat.min_eq_left (by omega)]
    refine parts_mk h heK (e' := l[J]) ?_ ?_ hd ?_
    · rw [List.getElem?_set_ne (by omega), List.getElem?_set_self hK]
    · rw [List.take_set_of_le (by omega), List.take_set_of_le (Nat.le_refl _)]
    · refine good_index ?_
      rw [beq_eq_false_iff_ne, gJ.1]
      omega
  · rw [Nat.min_eq_right (by omega)]
    refine parts_mk h heJ (e' := l[K]) ?_ ?_ ?_ ?_
    · rw [List.getElem?_set_self (by simpa using hJ)]
    · rw [List.take_set_of_le (Nat.le_refl _), List.take_set_of_le (by omega)]
    · cases hs : same l[J] l[K] with
      | false => rfl
      | true =>
        have := congrArg Entry.index ((same_iff _ _).1 hs)
        rw [gK.1, gJ.1] at this
        omega
    · refine good_index ?_
      rw [beq_eq_false_iff_ne, gK.1]
      omega

/-- The kinds of a log are its lines' kinds. -/
theorem build_kind (ls : List Line) (h : ∀ x ∈ ls, (Lit.int .i64 x.kind).wf = true) : ∀ e ∈ build ls, (Lit.int .i64 e.kind).wf = true := by
  suffices hh : ∀ n, ∀ ls : List Line, ls.length = n → (∀ x ∈ ls, (Lit.int .i64 x.kind).wf = true) → ∀ e ∈ build ls, (Lit.int .i64 e.kind).wf = true from hh _ ls rfl h
  intro n
  induction n with
  | zero => intro ls h _; cases ls with | nil => simp [build] | cons => simp at h
  | succ n ih =>
    intro ls h hk
    obtain ⟨a, x, rfl⟩ : ∃ a x, ls = a ++ [x] := ⟨ls.dropLast, ls.getLast (by intro e; rw [e] at h; simp at h), (List.dropLast_concat_getLast _).symm⟩
    intro e he
    rw [build_snoc, List.mem_append] at he
    rcases he with he | he
    · exact ih a (by simpa using h) (fun x hx => hk x (List.mem_append_left _ hx)) e he
    · simp at he
      rw [he]
      exact hk x (by simp)

end Audit
end Go.Proofs.Ytbomaagbjeiliaa
