/-
  A reading of Go's memory by values, twentieth part: a region that draws its order, where one operation of the first part may come late. No program of Go's is named here.
-/
import Derived.Test.YtbnjdkpangmneaaAbsN
namespace Go.Proofs.Ytbnjdkpangmneaa
open Go.ChangeShapes Go.WideShapes Go.RowKit
set_option linter.unusedVariables false
set_option linter.unusedSimpArgs false
namespace Abs
theorem SD_congr {D D' : Nat → Bool} : ∀ (i : Nat) (os : List Oper) (xs : List Add) (s : ASt), (∀ j, i ≤ j → j < i + os.length → D j = D' j) → SD D i os xs s = SD D' i os xs s
  | i, [], [], s, h => rfl
  | i, [], _ :: _, s, h => rfl
  | i, _ :: _, [], s, h => rfl
  | i, o :: os, x :: xs, s, h => by
    show SD D (i + 1) os xs (if D i then s.add o.dst x else s) = SD D' (i + 1) os xs (if D' i then s.add o.dst x else s)
    rw [h i (Nat.le_refl _) (by simp)]
    exact SD_congr (i + 1) os xs _ fun j h1 h2 => h j (by omega) (by simp; omega)
def sufLate (l : List Oper) (m e : Nat) : Bool := (List.range l.length).all fun i => Nat.blt i m || match l[i]? with
  | some o => (List.range i).all fun j => (Oper.edges o).contains j || (Nat.beq i m && Nat.beq j e)
  | none => false
def lateOk (l : List Oper) (m e : Nat) : Bool := backOk l && sufLate l m e && Nat.ble m l.length && nodupB (dsts (l.take m))
section
variable {P : Program} {l : List Oper} {m : Nat} {al : List Add} {s : ASt} {Q : Exit → ASt → Prop}
theorem draw_late {e : Nat} {oe om : Oper} (he : e < m) (hoe : l[e]? = some oe) (hom : l[m]? = some om) (hst : lateOk l m e = true) (hkeys : nodupB (keysOf al) = true) (hfr : ∀ id, id ∈ keysOf al → look s.heap id = none) (hob : Obs P l m al s 0 (l.take m) al)
    (hrest : AOps P l.toArray (l.drop m) (SD (fun _ => true) 0 (l.take m) al s) Q)
    (hlate : AOps P l.toArray (om :: oe :: l.drop (m + 1)) (SD (fun j => !Nat.beq j e) 0 (l.take m) al (s.hide (dsts (l.take m)))) Q) {U T : Nat → Prop} {w0 : Base} {a : Act} {w : World} {hv : Nat → Value} (ok : Ok U T w0 s a w hv) :
    wpAny P .any l.toArray (Post U T w0 Q) l.toArray.size (Array.replicate l.toArray.size false) a w := by
  simp only [lateOk, Bool.and_eq_true] at hst
  obtain ⟨⟨⟨hback, hsuf⟩, hm⟩, hdst⟩ := hst
  have hm' := Nat.le_of_ble_eq_true hm
  have ap : Apart l m al s := by
    refine ⟨Obs.length hob, fun i j o o' t h1 h2 h3 h4 => nodup_filterMap (nodupB_nodup hdst) i j o o' t h1 h2 h3 h4, fun i j x y id h1 h2 h3 h4 => nodup_flatMap (nodupB_nodup hkeys) i j x y id h1 h2 h3 h4, fun i x id h1 h2 => hfr id (List.mem_flatMap.2 ⟨x, List.mem_of_getElem? h1, h2⟩)⟩
  have hbk : ∀ i o, l[i]? = some o → ∀ j, j ∈ Oper.edges o → j < i := fun i o ho j hj => by
    have h1 := List.all_eq_true.1 hback i (List.mem_range.2 (List.getElem?_eq_some_iff.1 ho).1)
    rw [ho] at h1
    have h2 := List.all_eq_true.1 h1 j hj
    simpa [Nat.blt_eq] using h2
  have hml : m < l.length := (List.getElem?_eq_some_iff.1 hom).1
  have hsf : ∀ i o, m ≤ i → l[i]? = some o → ∀ j, j < i → (m < i ∨ j ≠ e) → j ∈ Oper.edges o := fun i o hi ho j hj hne => by
    have h1 := List.all_eq_true.1 hsuf i (List.mem_range.2 (List.getElem?_eq_some_iff.1 ho).1)
    rw [Bool.or_eq_true] at h1
    rcases h1 with h1 | h1
    · have : i < m := by simpa [Nat.blt_eq] using h1
      omega
    · rw [ho] at h1
      have h2 := List.all_eq_true.1 h1 j (List.mem_range.2 hj)
      rw [Bool.or_eq_true] at h2
      rcases h2 with h2 | h2
      · exact List.contains_iff_mem.1 h2
      · rw [Bool.and_eq_true] at h2
        have h3 := Nat.eq_of_beq_eq_true h2.1
        have h4 := Nat.eq_of_beq_eq_true h2.2
        omega
  -- where the run may stand
  let Inv : Array Bool → Act → World → Prop := fun listed a w =>
    (∀ k o, l[k]? = some o → listed.getD k false = true → ∀ j, j ∈ Oper.edges o → listed.getD j false = true) ∧
    (((∀ k, m ≤ k → listed.getD k false = false) ∧ ∃ hv, Ok U T w0 (SD (fun j => listed.getD j false) 0 (l.take m) al (s.hide (dsts (l.take m)))) a w hv) ∨
     (∃ k, m ≤ k ∧ k ≤ l.length ∧ (∀ j, j < l.length → (listed.getD j false = true ↔ j < k)) ∧ wpList P l.toArray (Post U T w0 Q) (l.drop k) a w) ∨
     ((∀ j, j < l.length → (listed.getD j false = true ↔ (j ≤ m ∧ j ≠ e))) ∧ wpList P l.toArray (Post U T w0 Q) (oe :: l.drop (m + 1)) a w))
  -- all of the first part is done
  have full : ∀ (listed : Array Bool) a w hv, (∀ k, m ≤ k → listed.getD k false = false) → (∀ k, k < m → listed.getD k false = true) → Ok U T w0 (SD (fun j => listed.getD j false) 0 (l.take m) al (s.hide (dsts (l.take m)))) a w hv → wpList P l.toArray (Post U T w0 Q) (l.drop m) a w := by
    intro listed a w hv hno hyes ok
    refine hrest U T w0 a w hv (ok.equiv (by rw [(SD_nt _ _ _ _).1, (SD_nt _ _ _ _).1]; rfl) (by rw [(SD_nt _ _ _ _).2, (SD_nt _ _ _ _).2]; rfl) (fun t => ?_) (fun id => ?_))
    · by_cases hex : ∃ (j : Nat) (o : Oper), (l.take m)[j]? = some o ∧ o.dst = some t
      · obtain ⟨j, o, h1, h2⟩ := hex
        have hjl : j < al.length := by rw [← ap.len]; exact (List.getElem?_eq_some_iff.1 h1).1
        have hjm : j < m := by have := (List.getElem?_eq_some_iff.1 h1).1; rw [List.length_take] at this; omega
        have hx : al[j]? = some al[j] := List.getElem?_eq_getElem hjl
        have hu : ∀ (j' : Nat) (o' : Oper), (l.take m)[j']? = some o' → j' < al.length → o'.dst = some t → j' = j := fun j' o' h3 _ h4 => ap.dst j' j o' o t h3 h1 h4 h2
        rw [SD_get_some 0 _ al _ t j o _ h1 hx h2 (by simp) hu, SD_get_some 0 _ al _ t j o _ h1 hx h2 (by simpa using hyes j hjm) hu]
      · have hn : ∀ (D : Nat → Bool) (j : Nat) (o : Oper), (l.take m)[j]? = some o → D (0 + j) = true → j < al.length → o.dst ≠ some t := fun D j o h1 _ _ h2 => hex ⟨j, o, h1, h2⟩
        rw [SD_get_none 0 _ al _ t (hn _), SD_get_none 0 _ al _ t (hn _), hide_get, if_neg]
        intro ht
        obtain ⟨o, h1, h2⟩ := List.mem_filterMap.1 ht
        obtain ⟨j, h3⟩ := List.mem_iff_getElem?.1 h1
        exact hex ⟨j, o, h3, h2⟩
    · by_cases hex : ∃ (j : Nat) (x : Add), al[j]? = some x ∧ id ∈ x.blks.map (·.1)
      · obtain ⟨j, x, h1, h2⟩ := hex
        have hjl : j < (l.take m).length := by rw [ap.len]; exact (List.getElem?_eq_some_iff.1 h1).1
        have hjm : j < m := by rw [List.length_take] at hjl; omega
        have hu : ∀ (j' : Nat) (x' : Add), al[j']? = some x' → id ∈ x'.blks.map (·.1) → j' = j := fun j' x' h3 h4 => ap.key j' j x' x id h3 h1 h4 h2
        rw [SD_look_some 0 _ al _ id j x hjl h1 h2 (by simp) hu, SD_look_some 0 _ al _ id j x hjl h1 h2 (by simpa using hyes j hjm) hu]
      · have hn : ∀ (D : Nat → Bool) (j : Nat) (x : Add), al[j]? = some x → D (0 + j) = true → j < (l.take m).length → id ∉ x.blks.map (·.1) := fun D j x h1 _ _ h2 => hex ⟨j, x, h1, h2⟩
        rw [SD_look_none 0 _ al _ id (hn _), SD_look_none 0 _ al _ id (hn _)]
        rfl
  have key : ∀ fuel (listed : Array Bool) a w, listed.size = l.length → unl l.length listed ≤ fuel → Inv listed a w → wpAny P .any l.toArray (Post U T w0 Q) fuel listed a w := by
    intro fuel
    -- nothing is ready: all is done
    have done : ∀ (listed : Array Bool) a w, listed.size = l.length → Inv listed a w → Region.ready .any l.toArray listed = [] → Post U T w0 Q .normal a w := by
      intro listed a w hs hinv hr
      have hall : ∀ n, n ≤ l.length → ∀ j, j < n → listed.getD j false = true := by
        intro n
        induction n with
        | zero => intro _ j hj; omega
        | succ n ih =>
          intro hn j hj
          by_cases hjn : j < n
          · exact ih (by omega) j hjn
          · have hj2 : j = n := by omega
            subst hj2
            cases hg : listed.getD j false with
            | true => rfl
            | false =>
              exfalso
              have hjl : j < l.length := by omega
              have ho : l[j]? = some l[j] := List.getElem?_eq_getElem hjl
              have : j ∈ Region.ready .any l.toArray listed := mem_ready.2 ⟨by simpa [Array.getD, hs, hjl] using hg, l[j], by simp [hjl], fun e he hb => ih (by omega) _ (hbk j _ ho _ (edges_mem he hb))⟩
              rw [hr] at this
              cases this
      have hall' := hall l.length (Nat.le_refl _)
      obtain ⟨_, ⟨hno, hv, ok⟩ | ⟨k, h1, h2, h3, h4⟩ | ⟨h3, h4⟩⟩ := hinv
      · have hml : m = l.length := by
          rcases Nat.lt_or_ge m l.length with h | h
          · have := hno m (Nat.le_refl _); rw [hall' m h] at this; cases this
          · omega
        omega
      · have hk : k = l.length := by
          rcases Nat.lt_or_ge k l.length with h | h
          · have := (h3 k h).1 (hall' k h); omega
          · omega
        rw [hk, List.drop_length] at h4
        exact h4
      · have := (h3 e (by omega)).1 (hall' e (by omega))
        exact absurd rfl this.2
    induction fuel with
    | zero =>
      intro listed a w hs hu hinv
      have hr : Region.ready .any l.toArray listed = [] := by
        cases hr : Region.ready .any l.toArray listed with
        | nil => rfl
        | cons i r =>
          exfalso
          have hi : i ∈ Region.ready .any l.toArray listed := by rw [hr]; simp
          obtain ⟨h1, o, h2, h3⟩ := mem_ready.1 hi
          obtain ⟨h4, h5⟩ := listed_get hs h1
          have hmem : i ∈ (List.range l.length).filter fun j => !listed.getD j false := List.mem_filter.2 ⟨List.mem_range.2 h4, by rw [h5]; rfl⟩
          have hpos := List.length_pos_of_mem hmem
          unfold unl at hu
          omega
      exact ⟨hr, done listed a w hs hinv hr⟩
    | succ fuel ih =>
      intro listed a w hs hu hinv
      refine ⟨done listed a w hs hinv, fun i hi => ?_⟩
      obtain ⟨h1, o, h2, h3⟩ := mem_ready.1 hi
      obtain ⟨hil, hi0⟩ := listed_get hs h1
      have ho : l[i]? = some o := by simpa using h2
      have hs' : (listed.setIfInBounds i true).size = l.length := by simpa using hs
      have hu' : unl l.length (listed.setIfInBounds i true) ≤ fuel := by have := unl_set hs hil hi0; omega
      have hset : ∀ j, (listed.setIfInBounds i true).getD j false = true ↔ (listed.getD j false = true ∨ j = i) := fun j => by
        by_cases hij : i = j
        · subst hij
          have : (listed.setIfInBounds i true).getD i false = true := by simp [Array.getD, hs, hil]
          exact ⟨fun _ => .inr rfl, fun _ => this⟩
        · rw [getD_set_ne false hij]
          exact ⟨.inl, fun h => h.resolve_right (Ne.symm hij)⟩
      obtain ⟨hcl, hcase⟩ := hinv
      have hedge : ∀ j, j ∈ Oper.edges o → listed.getD j false = true := fun j hj => by
        obtain ⟨e, he, hb, hon⟩ := mem_edges hj
        rw [← hon]
        exact h3 e he hb
      have hcl' : ∀ k o', l[k]? = some o' → (listed.setIfInBounds i true).getD k false = true → ∀ j, j ∈ Oper.edges o' → (listed.setIfInBounds i true).getD j false = true := fun k o' hk hl j hj => by
        rw [hset] at hl ⊢
        rcases hl with hl | hl
        · exact .inl (hcl k o' hk hl j hj)
        · subst hl; rw [ho] at hk; injection hk with hk; subst hk; exact .inl (hedge j hj)
      -- one step of the second part
      have step2 : ∀ k, m ≤ k → (∀ j, j < l.length → (listed.getD j false = true ↔ j < k)) → wpList P l.toArray (Post U T w0 Q) (l.drop k) a w → wpOp P l.toArray (Post U T w0 Q) i (wpAny P .any l.toArray (Post U T w0 Q) fuel (listed.setIfInBounds i true)) a w := by
        intro k hk hiff hwp
        have hik : i = k := by
          have h4 : ¬ i < k := fun h => by have := (hiff i hil).2 h; rw [hi0] at this; cases this
          rcases Nat.lt_or_ge k i with h5 | h5
          · have := (hiff k (by omega)).1 (hedge k (hsf i o (by omega) ho k h5 (.inl (by omega)))); omega
          · omega
        subst hik
        have hdrop : l.drop i = o :: l.drop (i + 1) := by
          rw [List.drop_eq_getElem_cons hil]
          congr 1
          have := List.getElem?_eq_getElem hil
          rw [ho] at this
          injection this with this
          exact this.symm
        rw [hdrop] at hwp
        unfold wpOp
        rw [h2]
        simp only
        have next : ∀ a w, wpList P l.toArray (Post U T w0 Q) (l.drop (i + 1)) a w → wpAny P .any l.toArray (Post U T w0 Q) fuel (listed.setIfInBounds i true) a w := fun a w hwp => by
          refine ih _ a w hs' hu' ⟨hcl', .inr (.inl ⟨i + 1, by omega, by omega, fun j hj => ?_, hwp⟩)⟩
          rw [hset, hiff j hj]
          omega
        unfold wpList at hwp
        split
        · rename_i hw
          rw [if_pos hw] at hwp
          exact hwp.imp (Oper.wp_mono next) id
        · rename_i hw
          rw [if_neg hw] at hwp
          exact next _ _ hwp
      rcases hcase with ⟨hno, hv, ok⟩ | ⟨k, hk1, hk2, hiff, hwp⟩ | ⟨hiff, hwp⟩
      · by_cases him : i < m
        · -- one of the first part
          have hot : (l.take m)[i]? = some o := by rw [List.getElem?_take, if_pos him]; exact ho
          obtain ⟨x, hx, deps, hdeps, hobi⟩ := Obs.at hob hot
          simp only [Nat.zero_add] at hdeps
          have hdl := depsOk_sound (D := fun j => listed.getD j false) (fun k o' hk hor j hj => by
            rcases hor with hl | rfl
            · exact hcl k o' hk hl j hj
            · rw [ho] at hk; injection hk with hk; subst hk; exact hedge j hj) [] deps (fun j hj => by cases hj) hdeps
          have hle := SD_le ap (D := memB deps) (D' := fun j => listed.getD j false) fun j hj => hdl j (memB_mem hj)
          have hob' := hobi _ hle (SD_fresh ap hx (by simp [hi0]))
          obtain ⟨e1, e2⟩ := SD_add ap (D := fun j => listed.getD j false) (D' := fun j => (listed.setIfInBounds i true).getD j false) hot hx (by simp [hi0]) hset
          have next : ∀ a w hv, Ok U T w0 ((SD (fun j => listed.getD j false) 0 (l.take m) al (s.hide (dsts (l.take m)))).add o.dst x) a w hv → wpAny P .any l.toArray (Post U T w0 Q) fuel (listed.setIfInBounds i true) a w := fun a w hv ok => by
            refine ih _ a w hs' hu' ⟨hcl', .inl ⟨fun k hk => ?_, hv, ok.equiv (by rw [(SD_nt _ _ _ _).1, (add_nt _ _ _).1, (SD_nt _ _ _ _).1]) (by rw [(SD_nt _ _ _ _).2, (add_nt _ _ _).2, (SD_nt _ _ _ _).2]) e1 e2⟩⟩
            cases hg : (listed.setIfInBounds i true).getD k false with
            | false => rfl
            | true =>
              rcases (hset k).1 hg with h5 | h5
              · rw [hno k hk] at h5; cases h5
              · omega
          unfold wpOp
          rw [h2]
          simp only
          rcases hob' with ⟨hwant, hev⟩ | ⟨hwant, rfl, hd⟩
          · rw [if_pos (hwant.wanted ok.m)]
            exact .inl (hev U T w0 a w hv ok _ _ fun s' v w' hv' hs ok' _ => next _ _ hv' (hs ▸ ok'))
          · rw [if_neg (by rw [hwant.wanted ok.m]; simp)]
            refine next _ _ hv ?_
            have := ok.next (Fr.refl (fun _ => False) w) (fun _ e => e.elim) (fun _ id _ => Pass.refl _ _ id) (fun id _ => Pass.refl _ _ id) ok.m.hm (fun _ h _ => h) (d := o.dst) (r := .tup []) (v := undef) ⟨[], rfl, .nil⟩ hd
            exact this
        · -- the first of the second part
          have him2 : i = m := by
            rcases Nat.lt_or_ge m i with h5 | h5
            · have h6 := hedge m (hsf i o (by omega) ho m h5 (.inl h5))
              rw [hno m (Nat.le_refl _)] at h6; cases h6
            · omega
          have hyes : ∀ k, k < m → k ≠ e → listed.getD k false = true := fun k hk hne => hedge k (hsf i o (by omega) ho k (by omega) (.inr hne))
          cases hle : listed.getD e false with
          | true =>
            have hyes' : ∀ k, k < m → listed.getD k false = true := fun k hk => by
              by_cases h5 : k = e
              · rw [h5]; exact hle
              · exact hyes k hk h5
            refine step2 m (Nat.le_refl _) (fun j hj => ⟨fun h => ?_, fun h => hyes' j h⟩) (full listed a w hv hno hyes' ok)
            rcases Nat.lt_or_ge j m with h5 | h5
            · exact h5
            · rw [hno j h5] at h; cases h
          | false =>
            subst him2
            rw [ho] at hom
            injection hom with hom
            subst hom
            have hD : ∀ j, j < i → listed.getD j false = !Nat.beq j e := fun j hj => by
              by_cases h5 : j = e
              · rw [h5, hle, Nat.beq_refl]; rfl
              · rw [hyes j hj h5]
                cases h6 : Nat.beq j e
                · rfl
                · exact absurd (Nat.eq_of_beq_eq_true h6) h5
            have hSD : SD (fun j => listed.getD j false) 0 (l.take i) al (s.hide (dsts (l.take i))) = SD (fun j => !Nat.beq j e) 0 (l.take i) al (s.hide (dsts (l.take i))) := SD_congr 0 _ _ _ fun j _ hj => hD j (by rw [List.length_take] at hj; omega)
            rw [hSD] at ok
            have hwp := hlate U T w0 a w hv ok
            unfold wpOp
            rw [h2]
            simp only
            have next : ∀ a w, wpList P l.toArray (Post U T w0 Q) (oe :: l.drop (i + 1)) a w → wpAny P .any l.toArray (Post U T w0 Q) fuel (listed.setIfInBounds i true) a w := fun a w hwp => by
              refine ih _ a w hs' hu' ⟨hcl', .inr (.inr ⟨fun j hj => ?_, hwp⟩)⟩
              rw [hset]
              constructor
              · rintro (h5 | h5)
                · refine ⟨?_, fun h6 => by rw [h6, hle] at h5; cases h5⟩
                  rcases Nat.lt_or_ge j i with h6 | h6
                  · omega
                  · rw [hno j h6] at h5; cases h5
                · exact ⟨by omega, by omega⟩
              · rintro ⟨h5, h6⟩
                by_cases h7 : j = i
                · exact .inr h7
                · exact .inl (hyes j (by omega) h6)
            unfold wpList at hwp
            split
            · rename_i hw
              rw [if_pos hw] at hwp
              exact hwp.imp (Oper.wp_mono next) id
            · rename_i hw
              rw [if_neg hw] at hwp
              exact next _ _ hwp
      · exact step2 k hk1 hiff hwp
      · have hie : i = e := by
          by_cases h5 : i = e
          · exact h5
          · have h6 : ¬ i ≤ m := fun h6 => by have := (hiff i hil).2 ⟨h6, h5⟩; rw [hi0] at this; cases this
            have h7 := hedge e (hsf i o (by omega) ho e (by omega) (.inl (by omega)))
            exact absurd rfl ((hiff e (by omega)).1 h7).2
        subst hie
        rw [ho] at hoe
        injection hoe with hoe
        subst hoe
        unfold wpOp
        rw [h2]
        simp only
        have next : ∀ a w, wpList P l.toArray (Post U T w0 Q) (l.drop (m + 1)) a w → wpAny P .any l.toArray (Post U T w0 Q) fuel (listed.setIfInBounds i true) a w := fun a w hwp => by
          refine ih _ a w hs' hu' ⟨hcl', .inr (.inl ⟨m + 1, by omega, by omega, fun j hj => ?_, hwp⟩)⟩
          rw [hset, hiff j hj]
          constructor
          · rintro (h5 | h5) <;> omega
          · intro h5
            by_cases h6 : j = i
            · exact .inr h6
            · exact .inl ⟨by omega, h6⟩
        unfold wpList at hwp
        split
        · rename_i hw
          rw [if_pos hw] at hwp
          exact hwp.imp (Oper.wp_mono next) id
        · rename_i hw
          rw [if_neg hw] at hwp
          exact next _ _ hwp
  refine key _ _ a w (by simp) ?_ ⟨fun k o _ h => ?_, .inl ⟨fun k _ => ?_, hv, ?_⟩⟩
  · unfold unl
    have := List.length_filter_le (fun j => !(Array.replicate l.toArray.size false).getD j false) (List.range l.length)
    simpa using this
  · exfalso; simp [Array.getD] at h
  · simp [Array.getD]
  · have h0 := ok_hide ok (dsts (l.take m))
    refine h0.equiv (SD_nt _ _ _ _).1 (SD_nt _ _ _ _).2 (fun t => SD_get_none 0 _ al _ t fun j o' _ h4 _ _ => ?_) fun id => SD_look_none 0 _ al _ id fun j x' _ h4 _ _ => ?_
    · simp [Array.getD] at h4
    · simp [Array.getD] at h4
theorem aw_late {id : Nat} {oe om : Oper} (m e : Nat) (al : List Add) (hmix : P.follows .mixedOrders = true) (he : e < m) (hoe : l[e]? = some oe) (hom : l[m]? = some om) (hst : lateOk l m e = true) (hkeys : nodupB (keysOf al) = true) (hfr : (keysOf al).all (fun id => (look s.heap id).isNone) = true) (hob : Obs P l m al s 0 (l.take m) al)
    (hrest : AOps P l.toArray (l.drop m) (SD (fun _ => true) 0 (l.take m) al s) Q) (hlate : AOps P l.toArray (om :: oe :: l.drop (m + 1)) (SD (fun j => !Nat.beq j e) 0 (l.take m) al (s.hide (dsts (l.take m)))) Q) : AW P (.region id l.toArray true) s Q := fun U T w0 a w hv ok =>
  wp_region_any hmix (draw_late he hoe hom hst hkeys (fun id hid => by simpa using List.all_eq_true.1 hfr id hid) hob hrest hlate (by
    have := ok.next (w' := w.drew) (Fr.drew (fun _ => False) w) (fun _ e => e.elim) (fun _ id _ => Pass.refl _ _ id) (fun id _ => Pass.refl _ _ id) (ok.m.hm.keep (Fr.drew _ w)) (fun _ h _ => h) (d := none) (r := .one .any) (v := undef) trivial rfl
    exact this))
end
end Abs
end Go.Proofs.Ytbnjdkpangmneaa
