/-
  Layer 28 in plain words: a store whose disks may crash: Put, Checkpoint, New, Recover. Conditions: sizes.
-/
import Derived.Test.YtkcfkcgclljncaaStorR
namespace Go.Proofs.Ytkcfkcgclljncaa
set_option linter.unusedVariables false
set_option linter.unusedSimpArgs false
namespace Md
theorem numU_enc {n : Nat} (h : n ≤ 4000000) (z : List UInt8) : numU (enc n ++ z) = some (n, (enc n).length) := by
  unfold numU
  rw [readU_nat h, if_pos rfl]
  dsimp only
  rw [ofNat_len h, Int.toNat_natCast]
theorem parse_head {n b : Nat} {st : List UInt8} (hn : n ≤ 1000000) (hb : b ≤ 1000000) (hs : st.length ≤ 1000000) : parseH (headB n b st) = some (n, b, st) := by
  have e : headB n b st = enc n ++ (enc b ++ (enc st.length ++ st)) := by unfold headB; simp only [List.append_assoc]
  rw [e]
  unfold parseH
  rw [numU_enc (by omega)]
  dsimp only
  rw [if_neg (by omega), List.drop_left, numU_enc (by omega)]
  dsimp only
  rw [if_neg (by omega), List.drop_left, numU_enc (by omega)]
  dsimp only
  rw [List.drop_left, if_pos rfl]
def ents (es : List (List UInt8)) : List JournalRecord := es.map fun e => ⟨2, e⟩
theorem entries_ents : ∀ (es : List (List UInt8)), entriesC (ents es) = some es
  | [] => rfl
  | e :: es => by
    show (if (2 : Int) = 2 then (entriesC (ents es)).map (e :: ·) else none) = _
    rw [if_pos rfl, entries_ents es]
    rfl
/-- The records of a disk that holds a store. -/
def book (n b : Nat) (st : List UInt8) (es : List (List UInt8)) : List JournalRecord := ⟨1, headB n b st⟩ :: ents es
theorem book_snoc (n b : Nat) (st : List UInt8) (es : List (List UInt8)) (e : List UInt8) : book n b st (es ++ [e]) = book n b st es ++ [⟨2, e⟩] := by simp [book, ents]
/-- The bounds of what a store holds here. -/
structure Bd (n b : Nat) (st : List UInt8) (es : List (List UInt8)) : Prop where
  bn : n ≤ 1000
  bb : b + es.length ≤ 1000
  bs : st.length ≤ 5000
  bl : es.length ≤ 60
  be : ∀ e ∈ es, e.length ≤ 300
theorem Bd.less {n b : Nat} {st : List UInt8} {es : List (List UInt8)} {e : List UInt8} (h : Bd n b st (es ++ [e])) : Bd n b st es := by
  obtain ⟨h1, h2, h3, h4, h5⟩ := h
  rw [List.length_append] at h2 h4
  exact ⟨h1, by omega, h3, by omega, fun x hx => h5 x (by simp [hx])⟩
theorem contents_book {n b : Nat} {st : List UInt8} {es : List (List UInt8)} (h : Bd n b st es) : contentsC (book n b st es) = some (n, ⟨(b : Int), st, es⟩) := by
  have h1 := h.bn
  have h2 := h.bb
  have h3 := h.bs
  unfold book
  rw [contentsC_one rfl]
  dsimp only
  rw [parse_head (by omega) (by omega) (by omega)]
  dsimp only
  rw [entries_ents]
  dsimp only
  rw [if_neg (by omega)]
def okR (r : JournalRecord) : Prop := 1 ≤ r.Kind ∧ r.Kind ≤ 255 ∧ r.Body.length ≤ 6000
theorem okR.good {r : JournalRecord} (h : okR r) : goodR r := ⟨h.1, h.2.1, by have := h.2.2; omega⟩
theorem okR.bad {r : JournalRecord} (h : okR r) : ¬ badR r := by
  obtain ⟨h1, h2, h3⟩ := h
  unfold badR
  omega
theorem okR.len {r : JournalRecord} (h : okR r) : (frameR r).length ≤ r.Body.length + 12 := (frameR_len r (by have := h.2.2; omega)).1
theorem head_ok {n b : Nat} {st : List UInt8} (hn : n ≤ 1001) (hb : b ≤ 1000) (hs : st.length ≤ 5000) : okR ⟨1, headB n b st⟩ := by
  have := headB_len n b st (by omega) (by omega) (by omega)
  exact ⟨by dsimp only; omega, by dsimp only; omega, by dsimp only; omega⟩
theorem ent_ok {e : List UInt8} (h : e.length ≤ 300) : okR ⟨2, e⟩ := ⟨by dsimp only; omega, by dsimp only; omega, by dsimp only; omega⟩
theorem book_ok {n b : Nat} {st : List UInt8} {es : List (List UInt8)} (h : Bd n b st es) : ∀ r ∈ book n b st es, okR r := by
  have h1 := h.bn
  have h2 := h.bb
  intro r hr
  rcases List.mem_cons.1 hr with rfl | hr
  · exact head_ok (by omega) (by omega) h.bs
  · obtain ⟨e, he, rfl⟩ := List.mem_map.1 hr
    exact ent_ok (h.be e he)
theorem ents_bytes : ∀ (es : List (List UInt8)), (∀ e ∈ es, e.length ≤ 300) → (bytesF (ents es)).length ≤ es.length * 312
  | [], _ => by simp [bytesF, ents]
  | e :: es, h => by
    have h1 := ents_bytes es fun r hr => h r (by simp [hr])
    have h2 := (ent_ok (h e (by simp))).len
    have h3 := h e (by simp)
    have : bytesF (ents (e :: es)) = frameR ⟨2, e⟩ ++ bytesF (ents es) := rfl
    rw [this, List.length_append, List.length_cons, Nat.add_mul]
    dsimp only at h2
    omega
theorem book_bytes {n b : Nat} {st : List UInt8} {es : List (List UInt8)} (h : Bd n b st es) : (bytesF (book n b st es)).length ≤ 24000 := by
  have h1 := h.bn
  have h2 := h.bb
  have h3 := ents_bytes es h.be
  have h4 := (head_ok (n := n) (b := b) (st := st) (by omega) (by omega) h.bs).len
  have h5 := headB_len n b st (by omega) (by omega) (by have := h.bs; omega)
  have h6 := h.bs
  have h7 := h.bl
  have : bytesF (book n b st es) = frameR ⟨1, headB n b st⟩ ++ bytesF (ents es) := rfl
  rw [this, List.length_append]
  dsimp only at h4
  omega
theorem recs_all (l : List JournalRecord) (k : Nat) (z : List UInt8) (hg : ∀ r ∈ l, okR r) (hn : l.length ≤ k) (hz : (openF z).2.2.2 ≠ 0) : recs k (bytesF l ++ z) = l ∧ total (frs k (bytesF l ++ z)) = (bytesF l).length := by
  unfold recs
  rw [frs_all l k z (fun r hr => (hg r hr).good) hn hz, map_fst, total_bytes]
  exact ⟨rfl, rfl⟩
theorem recs_whole (l : List JournalRecord) (k : Nat) (hg : ∀ r ∈ l, okR r) (hn : l.length ≤ k) : recs k (bytesF l) = l ∧ total (frs k (bytesF l)) = (bytesF l).length := by
  have := recs_all l k [] hg hn open_nil
  rwa [List.append_nil] at this
theorem tornR (l : List JournalRecord) (r : JournalRecord) (j : Nat) (hr : okR r) : ∃ l0 z, bytesF l ++ (frameR r).take j = bytesF l0 ++ z ∧ (openF z).2.2.2 ≠ 0 ∧ (l0 = l ∨ l0 = l ++ [r]) := by
  by_cases h : j < (frameR r).length
  · refine ⟨l, _, rfl, ?_, .inl rfl⟩
    have hk := kind_of hr.good
    have := open_cutK (.ofInt r.Kind) (by have := hr.1; omega) r.Body (by have := hr.2.2; omega) j h
    unfold frameR
    omega
  · refine ⟨l ++ [r], [], ?_, open_nil, .inr rfl⟩
    rw [bytesF_snoc, List.append_nil, List.take_of_length_le (by omega)]
/-- A disk that is up; q: and not armed. -/
def Live (q : Bool) (d : Disk) (data : List UInt8) : Prop := d = Fresh data ∨ (q = false ∧ ∃ w keep : Nat, w ≤ 1000 ∧ keep ≤ 1000 ∧ d = Armed data w keep)
theorem Live.data {q : Bool} {d : Disk} {data : List UInt8} (h : Live q d data) : d.Data = data := by
  rcases h with rfl | ⟨_, w, keep, _, _, rfl⟩ <;> rfl
theorem Live.any {q : Bool} {d : Disk} {data : List UInt8} (h : Live q d data) : Live false d data := by
  rcases h with h | ⟨_, h⟩
  · exact .inl h
  · exact .inr ⟨rfl, h⟩
theorem Live.valid {q : Bool} {d : Disk} {data : List UInt8} (h : Live q d data) (hl : data.length ≤ 1000000) : valid d = true := by
  rcases h with rfl | ⟨_, w, keep, _, _, rfl⟩
  · exact valid_fresh _ hl
  · exact valid_armed _ _ _ (by omega) hl
theorem Live.ok {q : Bool} {d : Disk} {data : List UInt8} (h : Live q d data) : d.ok := by
  rcases h with rfl | ⟨_, w, keep, _, _, rfl⟩
  · exact ⟨by simp [Fresh, I64], by simp [Fresh, I64], by simp [Fresh, I64]⟩
  · refine ⟨by simp [Armed, I64], ?_, ?_⟩ <;> simp only [Armed, I64] <;> omega
theorem Live.append {q : Bool} {d : Disk} {data : List UInt8} (h : Live q d data) (hl : data.length ≤ 100000) {r : JournalRecord} (hr : okR r) :
    (∃ d', appendR d r = (d', 0) ∧ Live q d' (data ++ frameR r)) ∨ (q = false ∧ ∃ j, appendR d r = (Dead (data ++ (frameR r).take j), 23)) := by
  have h2 := hr.len
  have h3 := hr.2.2
  have hv := h.valid (by omega)
  rcases h with rfl | ⟨hq, w, keep, h4, h5, rfl⟩
  · refine .inl ⟨Fresh (data ++ frameR r), ?_, .inl rfl⟩
    unfold appendR appendD
    rw [hv, if_neg (by simp [hr.bad]), if_neg (by simp)]
    unfold Fresh
    dsimp only
    rw [if_neg (by simp), if_neg (by omega), if_neg (by simp)]
    rfl
  · cases w with
    | zero =>
      refine .inr ⟨hq, min keep (frameR r).length, ?_⟩
      unfold appendR appendD
      rw [hv, if_neg (by simp [hr.bad]), if_neg (by simp)]
      unfold Armed
      dsimp only
      rw [if_neg (by simp), if_neg (by omega), if_pos ⟨rfl, rfl⟩]
      rfl
    | succ w =>
      refine .inl ⟨Armed (data ++ frameR r) w keep, ?_, .inr ⟨hq, w, keep, by omega, h5, rfl⟩⟩
      unfold appendR appendD
      rw [hv, if_neg (by simp [hr.bad]), if_neg (by simp)]
      unfold Armed
      dsimp only
      rw [if_neg (by simp), if_neg (by omega), if_neg (by omega), if_pos rfl]
      congr 2
      omega
theorem Live.trunc {q : Bool} {d : Disk} {data : List UInt8} (h : Live q d data) (hl : data.length ≤ 100000) :
    (∃ d', truncD d 0 = (d', 0) ∧ Live q d' []) ∨ (q = false ∧ ∃ data', (data' = data ∨ data' = []) ∧ truncD d 0 = (Dead data', 23)) := by
  have hv := h.valid (by omega)
  rcases h with rfl | ⟨hq, w, keep, h4, h5, rfl⟩
  · refine .inl ⟨Fresh [], ?_, .inl rfl⟩
    unfold truncD
    rw [hv, if_neg (by simp)]
    unfold Fresh
    dsimp only
    rw [if_neg (by simp), if_neg (by omega), if_neg (by simp)]
    rfl
  · cases w with
    | zero =>
      refine .inr ⟨hq, if 0 < (keep : Int) then [] else data, ?_, ?_⟩
      · split
        · exact .inr rfl
        · exact .inl rfl
      unfold truncD
      rw [hv, if_neg (by simp)]
      unfold Armed
      dsimp only
      rw [if_neg (by simp), if_neg (by omega), if_pos ⟨rfl, rfl⟩]
      rfl
    | succ w =>
      refine .inl ⟨Armed [] w keep, ?_, .inr ⟨hq, w, keep, by omega, h5, rfl⟩⟩
      unfold truncD
      rw [hv, if_neg (by simp)]
      unfold Armed
      dsimp only
      rw [if_neg (by simp), if_neg (by omega), if_neg (by omega), if_pos rfl]
      congr 2
      omega
theorem Live.arm {q : Bool} {d : Disk} {data : List UInt8} (h : Live q d data) (hl : data.length ≤ 100000) {w keep : Nat} (hw : w ≤ 1000) (hk : keep ≤ 1000) : armD d w keep = (Armed data w keep, 0) ∧ Live false (Armed data w keep) data := by
  have hv := h.valid (by omega)
  refine ⟨?_, .inr ⟨rfl, w, keep, hw, hk, rfl⟩⟩
  unfold armD
  rw [hv, if_neg (by simp)]
  rcases h with rfl | ⟨hq, w', keep', h4, h5, rfl⟩
  · rw [if_neg (by simp [Fresh])]; rfl
  · rw [if_neg (by simp [Armed])]; rfl
theorem Live.restart {q : Bool} {d : Disk} {data : List UInt8} (h : Live q d data) (hl : data.length ≤ 100000) : restartD d = (Fresh data, 0) := by
  have hv := h.valid (by omega)
  unfold restartD
  rw [hv, if_neg (by simp)]
  rcases h with rfl | ⟨hq, w', keep', h4, h5, rfl⟩ <;> rfl
/-- A store: which disk is current, that disk, the other. -/
def St (i : Bool) (c o : Disk) (n b m : Nat) : Store := match i with
  | false => ⟨⟨c, o⟩, 0, n, b, m⟩
  | true => ⟨⟨o, c⟩, 1, n, b, m⟩
theorem St_disks (i : Bool) (c o : Disk) (n b m : Nat) : (St i c o n b m).Disks = (match i with | false => ⟨c, o⟩ | true => ⟨o, c⟩) := by cases i <;> rfl
theorem St_ok (i : Bool) {c o : Disk} {n b m : Nat} (hc : c.ok) (ho : o.ok) (hn : n ≤ 1000000) (hb : b ≤ 1000000) (hm : m ≤ 1000000) : (St i c o n b m).ok := by
  cases i
  · refine ⟨⟨hc, ho⟩, ?_, ?_, ?_, ?_⟩ <;> simp only [St, I64] <;> omega
  · refine ⟨⟨ho, hc⟩, ?_, ?_, ?_, ?_⟩ <;> simp only [St, I64] <;> omega
theorem St_cur (i : Bool) (c o : Disk) (n b m : Nat) : cur (St i c o n b m) = c := by
  unfold cur
  cases i
  · rfl
  · exact if_neg (show ¬ (1 : Int) = 0 by decide)
theorem St_set (i : Bool) (c o d : Disk) (n b m : Nat) : setD (St i c o n b m) (St i c o n b m).Current d = St i d o n b m := by
  cases i
  · exact setD0 rfl
  · exact setD1 (show ¬ (1 : Int) = 0 by decide)
theorem St_putR (i : Bool) (c o : Disk) (n b m : Nat) (x : Disk × Int) : putR (St i c o n b m) x = (if x.2 = 0 then St i x.1 o n b (m + 1) else St i x.1 o n b m, x.2) := by
  unfold putR
  rw [St_set]
  cases i <;> rfl
theorem St_other (i : Bool) (c o : Disk) (n b m : Nat) : otherD (St i c o n b m) = o := by
  unfold otherD
  cases i
  · exact if_neg (show ¬ (1 : Int) - 0 = 0 by decide)
  · exact if_pos (show (1 : Int) - 1 = 0 by decide)
theorem St_ckR (i : Bool) (c o : Disk) (n b m : Nat) (x : Disk × Int) (h : x.2 ≠ 0) : ckR (St i c o n b m) x = (St i c x.1 n b m, x.2) := by
  unfold ckR
  rw [if_pos h]
  cases i
  · rw [show setD (St false c o n b m) (1 - (St false c o n b m).Current) x.1 = St false c x.1 n b m from setD1 (show ¬ (1 : Int) - 0 = 0 by decide)]
  · rw [show setD (St true c o n b m) (1 - (St true c o n b m).Current) x.1 = St true c x.1 n b m from setD0 (show (1 : Int) - 1 = 0 by decide)]
theorem St_ckR0 (i : Bool) (c o : Disk) (n b m : Nat) (x : Disk × Int) (h : x.2 = 0) : ckR (St i c o n b m) x = (St (!i) x.1 c (n + 1) (b + m) 0, 0) := by
  unfold ckR
  rw [if_neg (by simp [h])]
  cases i
  · rw [show setD (St false c o n b m) (1 - (St false c o n b m).Current) x.1 = St false c x.1 n b m from setD1 (show ¬ (1 : Int) - 0 = 0 by decide)]; rfl
  · rw [show setD (St true c o n b m) (1 - (St true c o n b m).Current) x.1 = St true c x.1 n b m from setD0 (show (1 : Int) - 1 = 0 by decide)]; rfl
/-- What lies on the other disk is older. -/
def old (k : Nat) (od : List UInt8) (n : Nat) : Prop := ∀ m c, contentsC (recs k od) = some (m, c) → m < n
theorem okS_St {k : Nat} {i q q' : Bool} {c o : Disk} {n b : Nat} {st : List UInt8} {es : List (List UInt8)} {od : List UInt8} (hk : 100 ≤ k) (hb : Bd n b st es) (hc : Live q c (bytesF (book n b st es))) (ho : Live q' o od) (hod : od.length ≤ 100000) : okS k (St i c o n b es.length) = true := by
  have h1 := hb.bn
  have h2 := hb.bb
  have h3 := hb.bl
  have hl := book_bytes hb
  obtain ⟨r1, r2⟩ := recs_whole (book n b st es) k (book_ok hb) (by simp [book, ents]; omega)
  have hr : readOk k (St i c o n b es.length) c = true := by
    unfold readOk
    rw [hc.data, r1, contents_book hb]
    refine decide_eq_true ⟨r2, ?_⟩
    cases i <;> exact ⟨rfl, rfl, rfl⟩
  have hg : rangeOk (St i c o n b es.length) := by
    cases i <;> simp only [rangeOk, St] <;> omega
  unfold okS
  rw [St_cur, hr, decide_eq_true hg]
  cases i
  · show ((valid c && valid o) && true && true) = true
    rw [hc.valid (by omega), ho.valid (by omega)]; rfl
  · show ((valid o && valid c) && true && true) = true
    rw [hc.valid (by omega), ho.valid (by omega)]; rfl
/-- A store that is up. -/
def Up (k : Nat) (q i : Bool) (s : Store) (n b : Nat) (st : List UInt8) (es : List (List UInt8)) : Prop :=
  ∃ c o od, s = St i c o n b es.length ∧ Live q c (bytesF (book n b st es)) ∧ Live q o od ∧ old k od n ∧ od.length ≤ 25000
theorem put_up {k : Nat} {q i : Bool} {s : Store} {n b : Nat} {st : List UInt8} {es : List (List UInt8)} {e : List UInt8} (hk : 30000 ≤ k) (hk2 : k ≤ 100000) (hu : Up k q i s n b st es) (hb : Bd n b st (es ++ [e])) :
    (∃ s', store_Put k s e = some (s', 0) ∧ Up k q i s' n b st (es ++ [e])) ∨ (q = false ∧ ∃ o od j, store_Put k s e = some (St i (Dead (bytesF (book n b st es) ++ (frameR ⟨2, e⟩).take j)) o n b es.length, 23) ∧ Live q o od ∧ old k od n ∧ od.length ≤ 25000) := by
  obtain ⟨c, o, od, rfl, hc, ho, hold, hod⟩ := hu
  have hbl := hb.less
  have hdat := book_bytes hbl
  have h1 := hbl.bn
  have h2 := hbl.bb
  have h3 := hbl.bl
  have he := hb.be e (by simp)
  have hok := okS_St (i := i) (by omega : 100 ≤ k) hbl hc ho (by omega)
  have hs := St_ok i hc.ok ho.ok (by omega : n ≤ 1000000) (by omega : b ≤ 1000000) (by omega : es.length ≤ 1000000)
  have hcd := hc.data
  have hod2 := ho.data
  have hp : store_Put k (St i c o n b es.length) e = some (putS k (St i c o n b es.length) e) := by
    refine put_store k _ e ?_ ?_ ?_ ?_ hk2 (by omega) hs <;> cases i <;> simp only [St, hcd, hod2] <;> omega
  have hp2 : putS k (St i c o n b es.length) e = putR (St i c o n b es.length) (appendR c ⟨2, e⟩) := by
    unfold putS
    rw [hok, St_cur]
    refine if_neg ?_
    cases i <;> simp only [St] <;> simp <;> omega
  rw [hp, hp2, St_putR]
  rcases hc.append (by omega) (ent_ok he) with ⟨d', e1, e2⟩ | ⟨hq, j, e1⟩
  · refine .inl ⟨St i d' o n b (es.length + 1), ?_, d', o, od, ?_, ?_, ho, hold, hod⟩
    · rw [e1]; rfl
    · rw [List.length_append]; rfl
    · rw [book_snoc, bytesF_snoc]; exact e2
  · refine .inr ⟨hq, o, od, j, ?_, ho, hold, hod⟩
    rw [e1]; rfl
theorem old_nil (k n : Nat) : old k [] n := fun m c h => by
  have h1 : recs k [] = [] := (recs_whole [] k (by simp) (by simp)).1
  rw [h1] at h
  cases h
theorem book_one (n b : Nat) (st : List UInt8) : bytesF (book n b st []) = [] ++ frameR ⟨1, headB n b st⟩ := by simp [book, ents, bytesF]
theorem onS_le {α β γ : Type} (x : α) (f : α → Option γ) (g : β → Option γ) : onS (.inl x) f g = f x := rfl
theorem ck_up {k : Nat} {q i : Bool} {s : Store} {n b : Nat} {st x : List UInt8} {es : List (List UInt8)} (hk : 30000 ≤ k) (hk2 : k ≤ 100000) (hu : Up k q i s n b st es) (hb : Bd n b st es) (hx : x.length ≤ 5000) (hn : n ≤ 999) :
    (∃ s', store_Checkpoint k s x = some (s', 0) ∧ Up k q (!i) s' (n + 1) (b + es.length) x []) ∨ (q = false ∧ ∃ c data', store_Checkpoint k s x = some (St i c (Dead data') n b es.length, 23) ∧ Live q c (bytesF (book n b st es)) ∧ ((old k data' n ∧ data'.length ≤ 25000) ∨ ∃ j, data' = (frameR ⟨1, headB (n + 1) (b + es.length) x⟩).take j)) := by
  obtain ⟨c, o, od, rfl, hc, ho, hold, hod⟩ := hu
  have hdat := book_bytes hb
  have h1 := hb.bn
  have h2 := hb.bb
  have h3 := hb.bl
  have hok := okS_St (i := i) (by omega : 100 ≤ k) hb hc ho (by omega)
  have hs := St_ok i hc.ok ho.ok (by omega : n ≤ 1000000) (by omega : b ≤ 1000000) (by omega : es.length ≤ 1000000)
  have hcd := hc.data
  have hod2 := ho.data
  have hp : store_Checkpoint k (St i c o n b es.length) x = some (ckS k (St i c o n b es.length) x) := by
    refine ck_store k _ x ?_ ?_ ?_ ?_ hk2 (by omega) hs <;> cases i <;> simp only [St, hcd, hod2] <;> omega
  have hp2 : ckS k (St i c o n b es.length) x = ckR (St i c o n b es.length) (ckX (St i c o n b es.length) (headB (n + 1) (b + es.length) x)) := by
    unfold ckS
    rw [hok]
    have e1 : ((St i c o n b es.length).Number + 1).toNat = n + 1 := by cases i <;> simp only [St] <;> omega
    have e2 : ((St i c o n b es.length).Base + (St i c o n b es.length).Count).toNat = b + es.length := by cases i <;> simp only [St] <;> omega
    rw [e1, e2]
    refine if_neg ?_
    cases i <;> simp only [St] <;> simp <;> omega
  have hx2 : ckX (St i c o n b es.length) (headB (n + 1) (b + es.length) x) = if (truncD o 0).2 = 0 then appendR (truncD o 0).1 ⟨1, headB (n + 1) (b + es.length) x⟩ else truncD o 0 := by
    unfold ckX
    rw [St_other]
  have hh := head_ok (n := n + 1) (b := b + es.length) (st := x) (by omega) (by omega) hx
  have holder : old k (bytesF (book n b st es)) (n + 1) := fun m c' h => by
    rw [(recs_whole _ k (book_ok hb) (by simp [book, ents]; omega)).1, contents_book hb] at h
    cases h
    omega
  rw [hp, hp2, hx2]
  rcases ho.trunc (by omega) with ⟨d', e1, e2⟩ | ⟨hq, data', hd, e1⟩
  · rw [e1, if_pos rfl]
    rcases e2.append (by simp) hh with ⟨d2, f1, f2⟩ | ⟨hq, j, f1⟩
    · rw [f1, St_ckR0 _ _ _ _ _ _ _ rfl]
      exact .inl ⟨_, rfl, d2, c, _, rfl, by rw [book_one]; exact f2, hc, holder, by omega⟩
    · rw [f1, St_ckR _ _ _ _ _ _ _ (show (23 : Int) ≠ 0 by decide)]
      exact .inr ⟨hq, c, _, rfl, hc, .inr ⟨j, rfl⟩⟩
  · rw [e1, if_neg (by simp), St_ckR _ _ _ _ _ _ _ (show (23 : Int) ≠ 0 by decide)]
    refine .inr ⟨hq, c, data', rfl, hc, .inl ?_⟩
    rcases hd with rfl | rfl
    · exact ⟨hold, hod⟩
    · exact ⟨old_nil k n, by simp⟩
theorem new_up (k : Nat) : (newS 1048576).2 = 0 ∧ Up k true false (newS 1048576).1 0 0 [] [] := by
  have hn : newD 1048576 = (Fresh [], 0) := by decide
  have hh := head_ok (n := 0) (b := 0) (st := []) (by omega) (by omega) (by simp)
  have ho : old k [] 0 := old_nil k 0
  have hl : Live true (Fresh []) [] := .inl rfl
  rcases hl.append (by simp) hh with ⟨d', e1, e2⟩ | ⟨hq, _⟩
  · have e : newS 1048576 = (St false d' (Fresh []) 0 0 0, 0) := by
      unfold newS
      rw [hn]
      dsimp only
      rw [if_neg (by simp), e1, if_neg (by simp)]
      rfl
    rw [e]
    exact ⟨rfl, d', Fresh [], [], rfl, by rw [book_one]; exact e2, .inl rfl, ho, by simp⟩
  · cases hq
theorem recover_up {k : Nat} {q i : Bool} {s : Store} {n b : Nat} {st : List UInt8} {es : List (List UInt8)} (hk : 30000 ≤ k) (hu : Up k q i s n b st es) (hb : Bd n b st es) : ∃ s', store_Recover k s.Disks.x0 s.Disks.x1 = some (s', ⟨(b : Int), st, es⟩, 0) := by
  obtain ⟨c, o, od, rfl, hc, ho, hold, hod⟩ := hu
  have hdat := book_bytes hb
  have hcd := hc.data
  have hod2 := ho.data
  have hl3 := hb.bl
  obtain ⟨r1, r2⟩ := recs_whole (book n b st es) k (book_ok hb) (by simp [book, ents]; omega)
  have hu1 : usable k c = some (n, ⟨(b : Int), st, es⟩) := by
    unfold usable
    rw [hcd, r1, contents_book hb]
  have hf : ∀ a' b' : Disk, ∀ j : Int, (if j = 0 then a' else b') = c → finS k a' b' j n ⟨(b : Int), st, es⟩ = (⟨⟨a', b'⟩, j, (n : Int), (b : Int), (es.length : Int)⟩, ⟨(b : Int), st, es⟩, 0) := fun a' b' j h => by
    unfold finS
    rw [h, hcd, r2, if_neg (by omega)]
  have dn : ∀ {q : Bool} {d : Disk} {data : List UInt8}, Live q d data → d.Down = false := fun h => by
    rcases h with rfl | ⟨_, _, _, _, _, rfl⟩ <;> rfl
  have lc : c.Data.length = (bytesF (book n b st es)).length := by rw [hcd]
  have lo : o.Data.length = od.length := by rw [hod2]
  have w : ∀ {q : Bool} {d : Disk} {data : List UInt8}, Live q d data → d.Writes ≤ 9223372036854775807 := fun h => writes_ok h.ok
  cases i
  · rw [show (St false c o n b es.length).Disks = ⟨c, o⟩ from rfl]
    dsimp only
    rw [recover_store k _ _ (by omega) (by omega) (by omega) (by omega) (w hc) (w ho)]
    unfold recS
    rw [hc.valid (by omega), ho.valid (by omega), if_neg (by simp), dn hc, dn ho, if_neg (by simp), hu1]
    cases h1 : usable k o with
    | none => exact ⟨_, congrArg some (hf c o 0 (if_pos rfl))⟩
    | some p =>
      obtain ⟨m, c'⟩ := p
      have := hold m c' (by rw [← hod2]; exact h1)
      unfold pick2
      dsimp only
      rw [if_neg (by omega)]
      exact ⟨_, congrArg some (hf c o 0 (if_pos rfl))⟩
  · rw [show (St true c o n b es.length).Disks = ⟨o, c⟩ from rfl]
    dsimp only
    rw [recover_store k _ _ (by omega) (by omega) (by omega) (by omega) (w ho) (w hc)]
    unfold recS
    rw [hc.valid (by omega), ho.valid (by omega), if_neg (by simp), dn hc, dn ho, if_neg (by simp), hu1]
    cases h1 : usable k o with
    | none => exact ⟨_, congrArg some (hf o c 1 (if_neg (by decide)))⟩
    | some p =>
      obtain ⟨m, c'⟩ := p
      have := hold m c' (by rw [← hod2]; exact h1)
      unfold pick2
      dsimp only
      rw [if_pos (by omega)]
      exact ⟨_, congrArg some (hf o c 1 (if_neg (by decide)))⟩
theorem take_snoc {α : Type} [Inhabited α] {l : List α} {i : Nat} (h : i < l.length) : l.take i ++ [l.getD i default] = l.take (i + 1) := by
  rw [List.take_add_one, List.getD_eq_getElem?_getD, List.getElem?_eq_getElem h]
  rfl
theorem awake28k : actorgridlaw28_awake 30000 = some true := by decide +kernel
end Md
end Go.Proofs.Ytkcfkcgclljncaa
