/-
  A region that draws its order, in which a call writes variables by their addresses. No condition of its own.
-/
import Derived.Test.YtjpiiejdaiaocaaDoorAbsU
namespace Go.Proofs.YtjpiiejdaiaocaaDoor
open Go.ChangeShapes Go.WideShapes Go.RowKit
set_option linter.unusedVariables false
set_option linter.unusedSimpArgs false
namespace Abs
structure ApartC (l : List Oper) (m : Nat) (al : List Add) : Prop where
  len : (l.take m).length = al.length
  dst : ∀ (i j : Nat) (o o' : Oper) (t : Nat), (l.take m)[i]? = some o → (l.take m)[j]? = some o' → o.dst = some t → o'.dst = some t → i = j
  key : ∀ (i j : Nat) (x y : Add) (id : Nat), al[i]? = some x → al[j]? = some y → id ∈ x.blks.map (·.1) → id ∈ y.blks.map (·.1) → i = j
def freshC : List Add → ASt → Nat → Nat → Bool
  | [], _, _, _ => true
  | x :: r, s, c, i => (Nat.beq i c || (x.blks.map (·.1)).all fun id => (look s.heap id).isNone) && freshC r s c (i + 1)
theorem freshC_at {s : ASt} {c : Nat} : ∀ {al : List Add} {k : Nat}, freshC al s c k = true → ∀ {i : Nat} {x : Add} {id : Nat}, al[i]? = some x → k + i ≠ c → id ∈ x.blks.map (·.1) → look s.heap id = none
  | [], _, _, i, x, id, hx, _, _ => by simp at hx
  | y :: r, k, h, 0, x, id, hx, hc, hid => by
    simp at hx; subst hx
    simp only [freshC, Bool.and_eq_true, Bool.or_eq_true] at h
    rcases h.1 with h1 | h1
    · exact absurd (Nat.eq_of_beq_eq_true h1) (by simpa using hc)
    · simpa using List.all_eq_true.1 h1 id hid
  | y :: r, k, h, i + 1, x, id, hx, hc, hid => by
    simp only [freshC, Bool.and_eq_true] at h
    exact freshC_at h.2 (i := i) (by simpa using hx) (by omega) hid
section
variable {P : Program} {l : List Oper} {m : Nat} {al : List Add} {s : ASt} {Q : Exit → ASt → Prop}
def ObsC (P : Program) (l : List Oper) (m c : Nat) (dc : List Nat) (al : List Add) (s : ASt) : Nat → List Oper → List Add → Prop
  | i, o :: os, x :: xs => (∃ deps, depsOk l i [] deps = true ∧ (i = c ∨ memB dc i = true ∨ memB deps c = true) ∧ ∀ S, Le (SD (memB deps) 0 (l.take m) al (s.hide (dsts (l.take m)))) S → (i ≠ c → ∀ id, id ∈ x.blks.map (·.1) → look S.heap id = none) → Ob P l.toArray S o x) ∧ ObsC P l m c dc al s (i + 1) os xs
  | _, [], [] => True
  | _, _, _ => False
theorem ObsC.at {c : Nat} {dc : List Nat} : ∀ {k : Nat} {os : List Oper} {xs : List Add}, ObsC P l m c dc al s k os xs → ∀ {i : Nat} {o : Oper}, os[i]? = some o →
    ∃ x, xs[i]? = some x ∧ ∃ deps, depsOk l (k + i) [] deps = true ∧ (k + i = c ∨ memB dc (k + i) = true ∨ memB deps c = true) ∧ ∀ S, Le (SD (memB deps) 0 (l.take m) al (s.hide (dsts (l.take m)))) S → (k + i ≠ c → ∀ id, id ∈ x.blks.map (·.1) → look S.heap id = none) → Ob P l.toArray S o x
  | k, o :: os, x :: xs, h, 0, o', ho => by
    simp at ho; subst ho
    obtain ⟨deps, h1, h2, h3⟩ := h.1
    exact ⟨x, rfl, deps, h1, h2, h3⟩
  | k, o :: os, x :: xs, h, i + 1, o', ho => by
    obtain ⟨x', h1, h2⟩ := ObsC.at h.2 (i := i) (by simpa using ho)
    refine ⟨x', by simpa using h1, ?_⟩
    rw [show k + (i + 1) = k + 1 + i by omega]
    exact h2
  | _, [], [], _, i, o, ho => by simp at ho
  | _, [], _ :: _, h, _, _, _ => h.elim
  | _, _ :: _, [], h, _, _, _ => h.elim
theorem ObsC.length {c : Nat} {dc : List Nat} : ∀ {k : Nat} {os : List Oper} {xs : List Add}, ObsC P l m c dc al s k os xs → os.length = xs.length
  | _, [], [], _ => rfl
  | _, o :: os, x :: xs, h => by rw [List.length_cons, List.length_cons, ObsC.length h.2]
  | _, [], _ :: _, h => h.elim
  | _, _ :: _, [], h => h.elim
/-- With more done, more is known. -/
theorem SD_leC (ap : ApartC l m al) {c : Nat} (fresh : ∀ (i : Nat) (x : Add) (id : Nat), al[i]? = some x → i ≠ c → id ∈ x.blks.map (·.1) → look s.heap id = none) {D D' : Nat → Bool} (h : ∀ i, D i = true → D' i = true) (hc : D' c = true → D c = true) : Le (SD D 0 (l.take m) al (s.hide (dsts (l.take m)))) (SD D' 0 (l.take m) al (s.hide (dsts (l.take m)))) := by
  refine ⟨by rw [(SD_nt _ _ _ _).1, (SD_nt _ _ _ _).1], by rw [(SD_nt _ _ _ _).2, (SD_nt _ _ _ _).2], fun t ht => ?_, fun id b hb => ?_⟩
  · by_cases hex : ∃ (j : Nat) (o : Oper), (l.take m)[j]? = some o ∧ o.dst = some t
    · obtain ⟨j, o, h1, h2⟩ := hex
      have hjl : j < al.length := by rw [← ap.len]; exact (List.getElem?_eq_some_iff.1 h1).1
      have hx : al[j]? = some al[j] := List.getElem?_eq_getElem hjl
      have hu : ∀ (j' : Nat) (o' : Oper), (l.take m)[j']? = some o' → j' < al.length → o'.dst = some t → j' = j := fun j' o' h3 _ h4 => ap.dst j' j o' o t h3 h1 h4 h2
      by_cases hD : D j = true
      · rw [SD_get_some 0 _ al _ t j o _ h1 hx h2 (by simpa using h j hD) hu, SD_get_some 0 _ al _ t j o _ h1 hx h2 (by simpa using hD) hu]
      · exfalso
        apply ht
        rw [SD_get_none 0 _ al _ t fun j' o' h3 h4 h5 h6 => by rw [hu j' o' h3 h5 h6] at h4; simp at h4; exact hD h4]
        rw [hide_get, if_pos]
        exact List.mem_filterMap.2 ⟨o, List.mem_of_getElem? h1, h2⟩
    · have hn : ∀ (D : Nat → Bool) (j : Nat) (o : Oper), (l.take m)[j]? = some o → D (0 + j) = true → j < al.length → o.dst ≠ some t := fun D j o h1 _ _ h2 => hex ⟨j, o, h1, h2⟩
      rw [SD_get_none 0 _ al _ t (hn D'), SD_get_none 0 _ al _ t (hn D)]
  · by_cases hex : ∃ (j : Nat) (x : Add), al[j]? = some x ∧ id ∈ x.blks.map (·.1)
    · obtain ⟨j, x, h1, h2⟩ := hex
      have hjl : j < (l.take m).length := by rw [ap.len]; exact (List.getElem?_eq_some_iff.1 h1).1
      have hu : ∀ (j' : Nat) (x' : Add), al[j']? = some x' → id ∈ x'.blks.map (·.1) → j' = j := fun j' x' h3 h4 => ap.key j' j x' x id h3 h1 h4 h2
      by_cases hD : D j = true
      · rw [SD_look_some 0 _ al _ id j x hjl h1 h2 (by simpa using hD) hu] at hb
        rw [SD_look_some 0 _ al _ id j x hjl h1 h2 (by simpa using h j hD) hu]
        exact hb
      · rw [SD_look_none 0 _ al _ id fun j' x' h3 h4 h5 h6 => by rw [hu j' x' h3 h6] at h4; simp at h4; exact hD h4] at hb
        by_cases hjc : j = c
        · rw [SD_look_none 0 _ al _ id fun j' x' h3 h4 h5 h6 => by rw [hu j' x' h3 h6] at h4; simp at h4; exact hD (hjc ▸ hc (hjc ▸ h4))]
          exact hb
        · have := fresh j x id h1 hjc h2
          rw [show look (s.hide (dsts (l.take m))).heap id = look s.heap id from rfl, this] at hb
          cases hb
    · have hn : ∀ (D : Nat → Bool) (j : Nat) (x : Add), al[j]? = some x → D (0 + j) = true → j < (l.take m).length → id ∉ x.blks.map (·.1) := fun D j x h1 _ _ h2 => hex ⟨j, x, h1, h2⟩
      rw [SD_look_none 0 _ al _ id (hn D)] at hb
      rw [SD_look_none 0 _ al _ id (hn D')]
      exact hb
/-- One more is done. -/
theorem SD_addC (ap : ApartC l m al) {D D' : Nat → Bool} {i : Nat} {o : Oper} {x : Add} (ho : (l.take m)[i]? = some o) (hx : al[i]? = some x) (hi : ¬ D i = true) (hD : ∀ j, D' j = true ↔ (D j = true ∨ j = i)) :
    (∀ t, get (SD D' 0 (l.take m) al (s.hide (dsts (l.take m)))).env t = get ((SD D 0 (l.take m) al (s.hide (dsts (l.take m)))).add o.dst x).env t) ∧
    ∀ id, look (SD D' 0 (l.take m) al (s.hide (dsts (l.take m)))).heap id = look ((SD D 0 (l.take m) al (s.hide (dsts (l.take m)))).add o.dst x).heap id := by
  have hil : i < al.length := (List.getElem?_eq_some_iff.1 hx).1
  have hil2 : i < (l.take m).length := (List.getElem?_eq_some_iff.1 ho).1
  refine ⟨fun t => ?_, fun id => ?_⟩
  · rw [add_get]
    by_cases hd : o.dst = some t
    · rw [if_pos hd]
      exact SD_get_some 0 _ al _ t i o x ho hx hd (by simpa using (hD i).2 (.inr rfl)) fun j' o' h3 _ h4 => ap.dst j' i o' o t h3 ho h4 hd
    · rw [if_neg hd]
      by_cases hex : ∃ (j : Nat) (o : Oper), (l.take m)[j]? = some o ∧ o.dst = some t ∧ D j = true
      · obtain ⟨j, o1, h1, h2, h3⟩ := hex
        have hjl : j < al.length := by rw [← ap.len]; exact (List.getElem?_eq_some_iff.1 h1).1
        have hx1 : al[j]? = some al[j] := List.getElem?_eq_getElem hjl
        have hu : ∀ (j' : Nat) (o' : Oper), (l.take m)[j']? = some o' → j' < al.length → o'.dst = some t → j' = j := fun j' o' h3 _ h4 => ap.dst j' j o' o1 t h3 h1 h4 h2
        rw [SD_get_some 0 _ al _ t j o1 _ h1 hx1 h2 (by simpa using (hD j).2 (.inl h3)) hu, SD_get_some 0 _ al _ t j o1 _ h1 hx1 h2 (by simpa using h3) hu]
      · rw [SD_get_none 0 _ al _ t fun j o1 h1 h2 h3 h4 => ?_, SD_get_none 0 _ al _ t fun j o1 h1 h2 h3 h4 => hex ⟨j, o1, h1, h4, by simpa using h2⟩]
        rcases (hD j).1 (by simpa using h2) with h5 | h5
        · exact hex ⟨j, o1, h1, h4, h5⟩
        · subst h5; rw [ho] at h1; injection h1 with h1; subst h1; exact hd h4
  · rw [add_look]
    by_cases hd : id ∈ x.blks.map (·.1)
    · rw [if_pos hd]
      exact SD_look_some 0 _ al _ id i x hil2 hx hd (by simpa using (hD i).2 (.inr rfl)) fun j' x' h3 h4 => ap.key j' i x' x id h3 hx h4 hd
    · rw [if_neg hd]
      by_cases hex : ∃ (j : Nat) (x : Add), al[j]? = some x ∧ id ∈ x.blks.map (·.1) ∧ D j = true
      · obtain ⟨j, x1, h1, h2, h3⟩ := hex
        have hjl : j < (l.take m).length := by rw [ap.len]; exact (List.getElem?_eq_some_iff.1 h1).1
        have hu : ∀ (j' : Nat) (x' : Add), al[j']? = some x' → id ∈ x'.blks.map (·.1) → j' = j := fun j' x' h3 h4 => ap.key j' j x' x1 id h3 h1 h4 h2
        rw [SD_look_some 0 _ al _ id j x1 hjl h1 h2 (by simpa using (hD j).2 (.inl h3)) hu, SD_look_some 0 _ al _ id j x1 hjl h1 h2 (by simpa using h3) hu]
      · rw [SD_look_none 0 _ al _ id fun j x1 h1 h2 h3 h4 => ?_, SD_look_none 0 _ al _ id fun j x1 h1 h2 h3 h4 => hex ⟨j, x1, h1, h4, by simpa using h2⟩]
        rcases (hD j).1 (by simpa using h2) with h5 | h5
        · exact hex ⟨j, x1, h1, h4, h5⟩
        · subst h5; rw [hx] at h1; injection h1 with h1; subst h1; exact hd h4

theorem draw_set {c : Nat} {dc : List Nat} (hst : staticOk l m = true) (hdc : depsOk l c [] dc = true) (hcm : Nat.blt c m = true) (hkeys : nodupB (keysOf al) = true) (fresh : ∀ (i : Nat) (x : Add) (id : Nat), al[i]? = some x → i ≠ c → id ∈ x.blks.map (·.1) → look s.heap id = none) (hob : ObsC P l m c dc al s 0 (l.take m) al)
    (hrest : AOps P l.toArray (l.drop m) (SD (fun _ => true) 0 (l.take m) al s) Q) {U T : Nat → Prop} {w0 : Base} {a : Act} {w : World} {hv : Nat → Value} (ok : Ok U T w0 s a w hv) :
    wpAny P .any l.toArray (Post U T w0 Q) l.toArray.size (Array.replicate l.toArray.size false) a w := by
  simp only [staticOk, Bool.and_eq_true] at hst
  obtain ⟨⟨⟨hback, hsuf⟩, hm⟩, hdst⟩ := hst
  have hm' := Nat.le_of_ble_eq_true hm
  have ap : ApartC l m al := by
    refine ⟨ObsC.length hob, fun i j o o' t h1 h2 h3 h4 => nodup_filterMap (nodupB_nodup hdst) i j o o' t h1 h2 h3 h4, fun i j x y id h1 h2 h3 h4 => nodup_flatMap (nodupB_nodup hkeys) i j x y id h1 h2 h3 h4⟩
  have hbk : ∀ i o, l[i]? = some o → ∀ j, j ∈ Oper.edges o → j < i := fun i o ho j hj => by
    have h1 := List.all_eq_true.1 hback i (List.mem_range.2 (List.getElem?_eq_some_iff.1 ho).1)
    rw [ho] at h1
    have h2 := List.all_eq_true.1 h1 j hj
    simpa [Nat.blt_eq] using h2
  have hsf : ∀ i o, m ≤ i → l[i]? = some o → depsOk l i [] (List.range i).reverse = true := fun i o hi ho => by
    have h1 := List.all_eq_true.1 hsuf i (List.mem_range.2 (List.getElem?_eq_some_iff.1 ho).1)
    rw [Bool.or_eq_true] at h1
    rcases h1 with h1 | h1
    · have : i < m := by simpa [Nat.blt_eq] using h1
      omega
    · exact h1
  -- where the run may stand
  let Inv : Array Bool → Act → World → Prop := fun listed a w =>
    (∀ k o, l[k]? = some o → listed.getD k false = true → ∀ j, j ∈ Oper.edges o → listed.getD j false = true) ∧
    (((∀ k, m ≤ k → listed.getD k false = false) ∧ ∃ hv, Ok U T w0 (SD (fun j => listed.getD j false) 0 (l.take m) al (s.hide (dsts (l.take m)))) a w hv) ∨
     ∃ k, m ≤ k ∧ k ≤ l.length ∧ (∀ j, j < l.length → (listed.getD j false = true ↔ j < k)) ∧ wpList P l.toArray (Post U T w0 Q) (l.drop k) a w)
  -- all of the first part is done
  have full : ∀ (listed : Array Bool) a w hv, (∀ k, m ≤ k → listed.getD k false = false) → (∀ k, k < m → listed.getD k false = true) → Ok U T w0 (SD (fun j => listed.getD j false) 0 (l.take m) al (s.hide (dsts (l.take m)))) a w hv → wpList P l.toArray (Post U T w0 Q) (l.drop m) a w := by
    intro listed a w hv hno hyes ok
    refine hrest U T w0 a w hv (ok.equiv (by rw [(SD_nt _ _ _ _).1, (SD_nt _ _ _ _).1]; rfl) (by rw [(SD_nt _ _ _ _).2, (SD_nt _ _ _ _).2]; rfl) (fun t => ?_) (fun id => ?_))
    · by_cases hex : ∃ (j : Nat) (o : Oper), (l.take m)[j]? = some o ∧ o.dst = some t
      · obtain ⟨j, o, h1, h2⟩ := hex
        have hjl : j < al.length := by rw [← ap.len]; exact (List.getElem?_eq_some_iff.1 h1).1
        have hjm : j < m := by have := (List.getElem?_eq_some_iff.1 h1).1; rw [List.length_take] at this; omega
        have hx : al[j]? = some al[j] := List.getElem?_eq_getElem hjl
        have hu : ∀ (j' : Nat) (o' : Oper), (l.take m)[j']? = some o' → j' < al.length → o'.dst = some t → j' = j := fun j' o' h3 _ h4 => ap.dst j' j o' o t h3 h1 h4 h2
        rw [SD_get_some 0 _ al _ t j o _ h1 hx h2 (by simp) hu, SD_get_some 0 _ al _ t j o _ h1 hx h2 (by simpa using hyes j hjm) hu]
      · have hn : ∀ (D : Nat → Bool) (j : Nat) (o : Oper), (l.take m)[j]? = some o → D (0 + j) = true → j < al.length → o.dst ≠ some t := fun D j o h1 _ _ h2 => hex ⟨j, o, h1, h2⟩
        rw [SD_get_none 0 _ al _ t (hn _), SD_get_none 0 _ al _ t (hn _), hide_get, if_neg]
        intro ht
        obtain ⟨o, h1, h2⟩ := List.mem_filterMap.1 ht
        obtain ⟨j, h3⟩ := List.mem_iff_getElem?.1 h1
        exact hex ⟨j, o, h3, h2⟩
    · by_cases hex : ∃ (j : Nat) (x : Add), al[j]? = some x ∧ id ∈ x.blks.map (·.1)
      · obtain ⟨j, x, h1, h2⟩ := hex
        have hjl : j < (l.take m).length := by rw [ap.len]; exact (List.getElem?_eq_some_iff.1 h1).1
        have hjm : j < m := by rw [List.length_take] at hjl; omega
        have hu : ∀ (j' : Nat) (x' : Add), al[j']? = some x' → id ∈ x'.blks.map (·.1) → j' = j := fun j' x' h3 h4 => ap.key j' j x' x id h3 h1 h4 h2
        rw [SD_look_some 0 _ al _ id j x hjl h1 h2 (by simp) hu, SD_look_some 0 _ al _ id j x hjl h1 h2 (by simpa using hyes j hjm) hu]
      · have hn : ∀ (D : Nat → Bool) (j : Nat) (x : Add), al[j]? = some x → D (0 + j) = true → j < (l.take m).length → id ∉ x.blks.map (·.1) := fun D j x h1 _ _ h2 => hex ⟨j, x, h1, h2⟩
        rw [SD_look_none 0 _ al _ id (hn _), SD_look_none 0 _ al _ id (hn _)]
        rfl
  have key : ∀ fuel (listed : Array Bool) a w, listed.size = l.length → unl l.length listed ≤ fuel → Inv listed a w → wpAny P .any l.toArray (Post U T w0 Q) fuel listed a w := by
    intro fuel
    -- nothing is ready: all is done
    have done : ∀ (listed : Array Bool) a w, listed.size = l.length → Inv listed a w → Region.ready .any l.toArray listed = [] → Post U T w0 Q .normal a w := by
      intro listed a w hs hinv hr
      have hall : ∀ n, n ≤ l.length → ∀ j, j < n → listed.getD j false = true := by
        intro n
        induction n with
        | zero => intro _ j hj; omega
        | succ n ih =>
          intro hn j hj
          by_cases hjn : j < n
          · exact ih (by omega) j hjn
          · have hj2 : j = n := by omega
            subst hj2
            cases hg : listed.getD j false with
            | true => rfl
            | false =>
              exfalso
              have hjl : j < l.length := by omega
              have ho : l[j]? = some l[j] := List.getElem?_eq_getElem hjl
              have : j ∈ Region.ready .any l.toArray listed := mem_ready.2 ⟨by simpa [Array.getD, hs, hjl] using hg, l[j], by simp [hjl], fun e he hb => ih (by omega) _ (hbk j _ ho _ (edges_mem he hb))⟩
              rw [hr] at this
              cases this
      have hall' := hall l.length (Nat.le_refl _)
      obtain ⟨_, ⟨hno, hv, ok⟩ | ⟨k, h1, h2, h3, h4⟩⟩ := hinv
      · have hml : m = l.length := by
          rcases Nat.lt_or_ge m l.length with h | h
          · have := hno m (Nat.le_refl _); rw [hall' m h] at this; cases this
          · omega
        have := full listed a w hv hno (fun k hk => hall' k (by omega)) ok
        rw [hml, List.drop_length] at this
        exact this
      · have hk : k = l.length := by
          rcases Nat.lt_or_ge k l.length with h | h
          · have := (h3 k h).1 (hall' k h); omega
          · omega
        rw [hk, List.drop_length] at h4
        exact h4
    induction fuel with
    | zero =>
      intro listed a w hs hu hinv
      have hr : Region.ready .any l.toArray listed = [] := by
        cases hr : Region.ready .any l.toArray listed with
        | nil => rfl
        | cons i r =>
          exfalso
          have hi : i ∈ Region.ready .any l.toArray listed := by rw [hr]; simp
          obtain ⟨h1, o, h2, h3⟩ := mem_ready.1 hi
          obtain ⟨h4, h5⟩ := listed_get hs h1
          have hmem : i ∈ (List.range l.length).filter fun j => !listed.getD j false := List.mem_filter.2 ⟨List.mem_range.2 h4, by rw [h5]; rfl⟩
          have hpos := List.length_pos_of_mem hmem
          unfold unl at hu
          omega
      exact ⟨hr, done listed a w hs hinv hr⟩
    | succ fuel ih =>
      intro listed a w hs hu hinv
      refine ⟨done listed a w hs hinv, fun i hi => ?_⟩
      obtain ⟨h1, o, h2, h3⟩ := mem_ready.1 hi
      obtain ⟨hil, hi0⟩ := listed_get hs h1
      have ho : l[i]? = some o := by simpa using h2
      have hs' : (listed.setIfInBounds i true).size = l.length := by simpa using hs
      have hu' : unl l.length (listed.setIfInBounds i true) ≤ fuel := by have := unl_set hs hil hi0; omega
      have hset : ∀ j, (listed.setIfInBounds i true).getD j false = true ↔ (listed.getD j false = true ∨ j = i) := fun j => by
        by_cases hij : i = j
        · subst hij
          have : (listed.setIfInBounds i true).getD i false = true := by simp [Array.getD, hs, hil]
          exact ⟨fun _ => .inr rfl, fun _ => this⟩
        · rw [getD_set_ne false hij]
          exact ⟨.inl, fun h => h.resolve_right (Ne.symm hij)⟩
      obtain ⟨hcl, hcase⟩ := hinv
      have hedge : ∀ j, j ∈ Oper.edges o → listed.getD j false = true := fun j hj => by
        obtain ⟨e, he, hb, hon⟩ := mem_edges hj
        rw [← hon]
        exact h3 e he hb
      have hearl : m ≤ i → ∀ j, j < i → listed.getD j false = true := fun hmi j hj => depsOk_sound (D := fun j => listed.getD j false) (fun k o' hk hor j hj => by
        rcases hor with hl | rfl
        · exact hcl k o' hk hl j hj
        · rw [ho] at hk; injection hk with hk; subst hk; exact hedge j hj) [] _ (fun j hj => by cases hj) (hsf i o hmi ho) j (by simpa using hj)
      have hcl' : ∀ k o', l[k]? = some o' → (listed.setIfInBounds i true).getD k false = true → ∀ j, j ∈ Oper.edges o' → (listed.setIfInBounds i true).getD j false = true := fun k o' hk hl j hj => by
        rw [hset] at hl ⊢
        rcases hl with hl | hl
        · exact .inl (hcl k o' hk hl j hj)
        · subst hl; rw [ho] at hk; injection hk with hk; subst hk; exact .inl (hedge j hj)
      -- one step of the second part
      have step2 : ∀ k, m ≤ k → (∀ j, j < l.length → (listed.getD j false = true ↔ j < k)) → wpList P l.toArray (Post U T w0 Q) (l.drop k) a w → wpOp P l.toArray (Post U T w0 Q) i (wpAny P .any l.toArray (Post U T w0 Q) fuel (listed.setIfInBounds i true)) a w := by
        intro k hk hiff hwp
        have hik : i = k := by
          have h4 : ¬ i < k := fun h => by have := (hiff i hil).2 h; rw [hi0] at this; cases this
          rcases Nat.lt_or_ge k i with h5 | h5
          · have := (hiff k (by omega)).1 (hearl (by omega) k h5); omega
          · omega
        subst hik
        have hdrop : l.drop i = o :: l.drop (i + 1) := by
          rw [List.drop_eq_getElem_cons hil]
          congr 1
          have := List.getElem?_eq_getElem hil
          rw [ho] at this
          injection this with this
          exact this.symm
        rw [hdrop] at hwp
        unfold wpOp
        rw [h2]
        simp only
        have next : ∀ a w, wpList P l.toArray (Post U T w0 Q) (l.drop (i + 1)) a w → wpAny P .any l.toArray (Post U T w0 Q) fuel (listed.setIfInBounds i true) a w := fun a w hwp => by
          refine ih _ a w hs' hu' ⟨hcl', .inr ⟨i + 1, by omega, by omega, fun j hj => ?_, hwp⟩⟩
          rw [hset, hiff j hj]
          omega
        unfold wpList at hwp
        split
        · rename_i hw
          rw [if_pos hw] at hwp
          exact hwp.imp (Oper.wp_mono next) id
        · rename_i hw
          rw [if_neg hw] at hwp
          exact next _ _ hwp
      rcases hcase with ⟨hno, hv, ok⟩ | ⟨k, hk1, hk2, hiff, hwp⟩
      · by_cases him : i < m
        · -- one of the first part
          have hot : (l.take m)[i]? = some o := by rw [List.getElem?_take, if_pos him]; exact ho
          obtain ⟨x, hx, deps, hdeps, hcmp, hobi⟩ := ObsC.at hob hot
          simp only [Nat.zero_add] at hdeps hcmp hobi
          have hdl := depsOk_sound (D := fun j => listed.getD j false) (fun k o' hk hor j hj => by
            rcases hor with hl | rfl
            · exact hcl k o' hk hl j hj
            · rw [ho] at hk; injection hk with hk; subst hk; exact hedge j hj) [] deps (fun j hj => by cases hj) hdeps
          have hcc : listed.getD c false = true → memB deps c = true := fun hc => by
            rcases hcmp with h6 | h6 | h6
            · rw [h6, hc] at hi0; cases hi0
            · have h7 : listed.getD i false = true := by
                have hcl2 : c < l.length := by
                  have := Nat.blt_eq.mp hcm
                  omega
                exact depsOk_sound (D := fun j => listed.getD j false) (fun k o' hk hor j hj => by
                  rcases hor with hl | rfl
                  · exact hcl k o' hk hl j hj
                  · exact hcl k o' hk hc j hj) [] dc (fun j hj => by cases hj) hdc i (memB_mem h6)
              rw [h7] at hi0; cases hi0
            · exact h6
          have hle := SD_leC ap fresh (D := memB deps) (D' := fun j => listed.getD j false) (fun j hj => hdl j (memB_mem hj)) hcc
          have hob' := hobi _ hle fun hic id hid => by
            rw [SD_look_none 0 _ al _ id fun j' x' h3 h4 h5 h6 => by rw [ap.key j' i x' x id h3 hx h6 hid] at h4; simp [hi0] at h4]
            exact fresh i x id hx hic hid
          obtain ⟨e1, e2⟩ := SD_addC ap (D := fun j => listed.getD j false) (D' := fun j => (listed.setIfInBounds i true).getD j false) hot hx (by simp [hi0]) hset
          have next : ∀ a w hv, Ok U T w0 ((SD (fun j => listed.getD j false) 0 (l.take m) al (s.hide (dsts (l.take m)))).add o.dst x) a w hv → wpAny P .any l.toArray (Post U T w0 Q) fuel (listed.setIfInBounds i true) a w := fun a w hv ok => by
            refine ih _ a w hs' hu' ⟨hcl', .inl ⟨fun k hk => ?_, hv, ok.equiv (by rw [(SD_nt _ _ _ _).1, (add_nt _ _ _).1, (SD_nt _ _ _ _).1]) (by rw [(SD_nt _ _ _ _).2, (add_nt _ _ _).2, (SD_nt _ _ _ _).2]) e1 e2⟩⟩
            cases hg : (listed.setIfInBounds i true).getD k false with
            | false => rfl
            | true =>
              rcases (hset k).1 hg with h5 | h5
              · rw [hno k hk] at h5; cases h5
              · omega
          unfold wpOp
          rw [h2]
          simp only
          rcases hob' with ⟨hwant, hev⟩ | ⟨hwant, rfl, hd⟩
          · rw [if_pos (hwant.wanted ok.m)]
            exact .inl (hev U T w0 a w hv ok _ _ fun s' v w' hv' hs ok' _ => next _ _ hv' (hs ▸ ok'))
          · rw [if_neg (by rw [hwant.wanted ok.m]; simp)]
            refine next _ _ hv ?_
            have := ok.next (Fr.refl (fun _ => False) w) (fun _ e => e.elim) (fun _ id _ => Pass.refl _ _ id) (fun id _ => Pass.refl _ _ id) ok.m.hm (fun _ h _ => h) (d := o.dst) (r := .tup []) (v := undef) ⟨[], rfl, .nil⟩ hd
            exact this
        · -- the first of the second part
          have hyes : ∀ k, k < m → listed.getD k false = true := fun k hk => hearl (by omega) k (by omega)
          refine step2 m (Nat.le_refl _) (fun j hj => ⟨fun h => ?_, fun h => hyes j h⟩) (full listed a w hv hno hyes ok)
          rcases Nat.lt_or_ge j m with h5 | h5
          · exact h5
          · rw [hno j h5] at h; cases h
      · exact step2 k hk1 hiff hwp
  refine key _ _ a w (by simp) ?_ ⟨fun k o _ h => ?_, .inl ⟨fun k _ => ?_, hv, ?_⟩⟩
  · unfold unl
    have := List.length_filter_le (fun j => !(Array.replicate l.toArray.size false).getD j false) (List.range l.length)
    simpa using this
  · exfalso; simp [Array.getD] at h
  · simp [Array.getD]
  · have h0 := ok_hide ok (dsts (l.take m))
    refine h0.equiv (SD_nt _ _ _ _).1 (SD_nt _ _ _ _).2 (fun t => SD_get_none 0 _ al _ t fun j o' _ h4 _ _ => ?_) fun id => SD_look_none 0 _ al _ id fun j x' _ h4 _ _ => ?_
    · simp [Array.getD] at h4
    · simp [Array.getD] at h4
/-- A region that draws its order, in which one operation writes variables of the state; whoever stands beside it is told apart by the edges: each operation of the first part where those stand that it waits for; the second part in order. -/
theorem aw_draw_set {id : Nat} (m c : Nat) (dc : List Nat) (al : List Add) (hmix : P.follows .mixedOrders = true) (hst : (staticOk l m && noDefer l) = true) (hdc : (depsOk l c [] dc && Nat.blt c m) = true) (hkeys : nodupB (keysOf al) = true) (hfr : freshC al s c 0 = true) (hob : ObsC P l m c dc al s 0 (l.take m) al)
    (hrest : AOps P l.toArray (l.drop m) (SD (fun _ => true) 0 (l.take m) al s) Q) : AW P (.region id l.toArray true) s Q := fun n r U T w0 a w hv ok mk => by
  rw [Bool.and_eq_true] at hst hdc
  exact wpIn_region_any hmix (any_in (ds := a.defers) (a := bare a) (fun e a' w' h' => post_in ok mk h') post_calm (noDefer_at hst.2) _ _ _ (draw_set hst.1 hdc.1 hdc.2 hkeys (fun i x id hx hic hid => freshC_at hfr hx (by simpa using hic) hid) hob hrest (by
    have := ok.base.next (w' := w.drew) (Fr.drew (fun _ => False) w) (fun _ e => e.elim) (fun _ id _ => Pass.refl _ _ id) (fun id _ => Pass.refl _ _ id) (ok.m.hm.keep (Fr.drew _ w)) (fun _ h _ => h) (d := none) (r := .one .any) (v := undef) trivial rfl
    exact this)))
end
end Abs
end Go.Proofs.YtjpiiejdaiaocaaDoor
