/-
  Layer 41 in plain words: what was written is read, what is read is written so; the sanity check. Conditions: sizes.
-/
import Derived.Test.YtjpiiejdaiaocaaDoorConsPe
import Derived.Test.YtjpiiejdaiaocaaDoorConsMM
namespace Go.Proofs.YtjpiiejdaiaocaaDoor
set_option linter.unusedVariables false
set_option linter.unusedSimpArgs false
set_option maxRecDepth 10000
namespace Md
theorem part_trip {p : UInt8} {lo hi : Int} {a c : ConsoleCommand} {rest : List UInt8} (hp : Ltr p) (h0 : 0 ≤ lo) (h1 : hi ≤ 1099511627776) (hok : okP lo hi p a = true) (hr : rest = [] ∨ ∃ q, rest = 32 :: q) : partL p lo hi (textL p a ++ rest) c = (0, (textL p a).length, setP p a c) := by
  unfold partL
  rcases hp with rfl | rfl | rfl | rfl | rfl
  · have hn : nameL a.Topic = true := hok
    rw [if_neg (by decide), if_neg (by decide), show textL 116 a = a.Topic from rfl, wordL_app (nameL_ne hn) hr, if_pos hn]; rfl
  · have hn : nameL a.Actor.fType = true := hok
    rw [if_neg (by decide), if_neg (by decide), show textL 97 a = a.Actor.fType from rfl, wordL_app (nameL_ne hn) hr, if_pos hn]; rfl
  · have hn : a.Actor.Key.length ≤ 32 := of_decide_eq_true hok
    rw [if_pos rfl]
    show partK (quoteL a.Actor.Key ++ rest) c (unquote (quoteL a.Actor.Key ++ rest)) = _
    rw [unquote_quote]
    unfold partK
    rw [if_neg (show ¬ (0 : Int) ≠ 0 by decide), if_neg (show ¬ a.Actor.Key.length > 32 by omega)]
    show ((0 : Int), (((quoteL a.Actor.Key).length : Nat) : Int).toNat, _) = _
    rw [Int.toNat_natCast]; rfl
  · have hn : nameL a.Method = true := hok
    rw [if_neg (by decide), if_neg (by decide), show textL 109 a = a.Method from rfl, wordL_app (nameL_ne hn) hr, if_pos hn]; rfl
  · have hn : (decide (lo ≤ a.Number) && decide (a.Number ≤ hi)) = true := hok
    simp only [Bool.and_eq_true, decide_eq_true_eq] at hn
    rw [if_neg (by decide), if_pos rfl]
    obtain ⟨u, hu⟩ : ∃ u : Nat, a.Number = (u : Int) := ⟨a.Number.toNat, by omega⟩
    have ht : textL 110 a = Lib.decDigits u := by show Lib.itoa a.Number = _; rw [hu, itoa_nat]
    have hne : ∀ c ∈ Lib.decDigits u, c ≠ 32 := fun c hc e => by
      have := dig_all u c hc
      rw [e] at this; cases this
    rw [ht, wordL_app hne hr, decL_itoa (by rw [show (10 : Nat) ^ 15 = 1000000000000000 by decide]; omega)]
    unfold partN
    show (if (u : Int) < lo ∨ (u : Int) > hi then _ else _) = _
    rw [if_neg (by omega), ← hu]; rfl
theorem flat_head (ps : List UInt8) (a : ConsoleCommand) : ps.flatMap (fun p => 32 :: textL p a) = [] ∨ ∃ q, ps.flatMap (fun p => 32 :: textL p a) = 32 :: q := by
  cases ps with
  | nil => exact .inl rfl
  | cons p ps => exact .inr ⟨_, rfl⟩
theorem plL_trip {lo hi : Int} {a : ConsoleCommand} (h0 : 0 ≤ lo) (h1 : hi ≤ 1099511627776) : ∀ (ps : List UInt8) (at' : Nat) (c : ConsoleCommand), (∀ p ∈ ps, Ltr p ∧ okP lo hi p a = true) → plL lo hi ps (ps.flatMap (fun p => 32 :: textL p a)) at' c = (bareL a ps c, ((at' + (ps.flatMap (fun p => 32 :: textL p a)).length : Nat) : Int), 0)
  | [], at', c, _ => rfl
  | p :: ps, at', c, h => by
    obtain ⟨hp, hok⟩ := h p (by simp)
    rw [List.flatMap_cons, List.cons_append, plL, if_neg (by decide), part_trip hp h0 h1 hok (flat_head ps a), if_neg (show ¬ (0 : Int) ≠ 0 by decide)]
    show plL lo hi ps ((textL p a ++ ps.flatMap (fun p => 32 :: textL p a)).drop (textL p a).length) (at' + 1 + (textL p a).length) (setP p a c) = _
    rw [List.drop_left, plL_trip h0 h1 ps _ _ fun q hq => h q (by simp [hq])]
    simp only [List.length_cons, List.length_append]
    rw [show at' + 1 + (textL p a).length + (ps.flatMap (fun p => 32 :: textL p a)).length = at' + ((textL p a).length + (ps.flatMap (fun p => 32 :: textL p a)).length + 1) by omega]
    rfl
theorem parse_line {a : ConsoleCommand} (h : validL a = true) : parseL (lineL a) = (a, ((lineL a).length : Int), 0) := by
  obtain ⟨h1, h2, h3⟩ := validL_parts h
  have F := fmt_ok a.Kind (by omega)
  obtain ⟨k1, k2⟩ := kindOf_word a.Kind h1
  have hw : wordL (lineL a) = (fms.get a.Kind).word := wordL_app k2 (flat_head _ a)
  unfold parseL
  rw [hw, k1, if_neg (by omega)]
  unfold lineL
  rw [List.drop_left, plL_trip F.rng.1 F.rng.2 _ _ _ h2, h3, List.length_append]
/-! ### back -/
def Fld (p : UInt8) (x y : ConsoleCommand) : Prop := textL p x = textL p y ∧ (∀ lo hi, okP lo hi p x = okP lo hi p y) ∧ ∀ z, setP p x z = setP p y z
theorem fld_set {p q : UInt8} (hp : Ltr p) (hq : Ltr q) (h : p ≠ q) (x o : ConsoleCommand) : Fld p (setP q x o) o := by
  rcases hp with rfl | rfl | rfl | rfl | rfl <;> rcases hq with rfl | rfl | rfl | rfl | rfl <;> first | exact absurd rfl h | exact ⟨rfl, fun _ _ => rfl, fun _ => rfl⟩
theorem fld_bare {p : UInt8} (hp : Ltr p) (x : ConsoleCommand) : ∀ (ps : List UInt8) (o : ConsoleCommand), (∀ q ∈ ps, Ltr q) → p ∉ ps → Fld p (bareL x ps o) o
  | [], o, _, _ => ⟨rfl, fun _ _ => rfl, fun _ => rfl⟩
  | q :: ps, o, hq, hn => by
    have h1 := fld_bare hp x ps (setP q x o) (fun r hr => hq r (by simp [hr])) (fun hr => hn (by simp [hr]))
    have h2 := fld_set hp (hq q (by simp)) (fun e => hn (by simp [e])) x o
    exact ⟨h1.1.trans h2.1, fun lo hi => (h1.2.1 lo hi).trans (h2.2.1 lo hi), fun z => (h1.2.2 z).trans (h2.2.2 z)⟩
theorem part_back {p : UInt8} {lo hi : Int} {s : List UInt8} {c : ConsoleCommand} (hp : Ltr p) (h : (partL p lo hi s c).1 = 0) :
    okP lo hi p (partL p lo hi s c).2.2 = true ∧ s = textL p (partL p lo hi s c).2.2 ++ s.drop (partL p lo hi s c).2.1 ∧ (partL p lo hi s c).2.1 = (textL p (partL p lo hi s c).2.2).length ∧ (partL p lo hi s c).2.2 = setP p (partL p lo hi s c).2.2 c := by
  have hw := (wordL_split s).1
  unfold partL at h ⊢
  rcases hp with rfl | rfl | rfl | rfl | rfl
  · rw [if_neg (by decide), if_neg (by decide)] at h ⊢
    cases hn : nameL (wordL s) with
    | false => rw [hn] at h; exact absurd (show (13 : Int) = 0 from h) (by decide)
    | true => exact ⟨hn, hw, rfl, rfl⟩
  · rw [if_neg (by decide), if_neg (by decide)] at h ⊢
    cases hn : nameL (wordL s) with
    | false => rw [hn] at h; exact absurd (show (13 : Int) = 0 from h) (by decide)
    | true => exact ⟨hn, hw, rfl, rfl⟩
  · rw [if_pos rfl] at h ⊢
    have hb := fun t m => unquote_back (s := s) (t := t) (m := m)
    generalize unquote s = u at *
    obtain ⟨t, m, e⟩ := u
    unfold partK at h ⊢
    dsimp only at h ⊢
    split at h
    · rename_i he; exact absurd h he
    · rename_i he
      rw [if_neg he]
      split at h
      · exact absurd (show (5 : Int) = 0 from h) (by decide)
      · rename_i hl
        rw [if_neg hl]
        have : e = 0 := by simpa using he
        subst this
        obtain ⟨rest, e1, e2⟩ := hb t m rfl
        have hm : m.toNat = (quoteL t).length := by omega
        refine ⟨(by show decide (t.length ≤ 32) = true; exact decide_eq_true (by omega)), ?_, hm, rfl⟩
        show s = quoteL t ++ s.drop m.toNat
        rw [hm, e1, List.drop_left]
  · rw [if_neg (by decide), if_neg (by decide)] at h ⊢
    cases hn : nameL (wordL s) with
    | false => rw [hn] at h; exact absurd (show (13 : Int) = 0 from h) (by decide)
    | true => exact ⟨hn, hw, rfl, rfl⟩
  · rw [if_neg (by decide), if_pos rfl] at h ⊢
    cases hd : decL (wordL s) with
    | none => rw [hd] at h; exact absurd (show (13 : Int) = 0 from h) (by decide)
    | some v =>
      rw [hd] at h
      unfold partN at h ⊢
      dsimp only at h ⊢
      split at h
      · exact absurd (show (5 : Int) = 0 from h) (by decide)
      · rename_i hl
        rw [if_neg hl]
        have hb := decL_back hd
        have ht : textL 110 (⟨c.Kind, c.Topic, c.Actor, c.Method, (v : Int)⟩ : ConsoleCommand) = wordL s := by
          show Lib.itoa (v : Int) = _
          rw [itoa_nat, hb]
        refine ⟨?_, by rw [ht]; exact hw, by rw [ht], rfl⟩
        show (decide (lo ≤ (v : Int)) && decide ((v : Int) ≤ hi)) = true
        rw [decide_eq_true (by omega), decide_eq_true (by omega)]; rfl
theorem plL_back {lo hi : Int} : ∀ (ps : List UInt8) (s : List UInt8) (at' : Nat) (c c' : ConsoleCommand) (m : Int), (∀ p ∈ ps, Ltr p) → ps.Nodup → plL lo hi ps s at' c = (c', m, 0) → (∀ p ∈ ps, okP lo hi p c' = true) ∧ s = ps.flatMap (fun p => 32 :: textL p c') ∧ m = ((at' + s.length : Nat) : Int) ∧ bareL c' ps c = c'
  | [], s, at', c, c', m, _, _, h => by
    rw [plL] at h
    split at h
    · rename_i hs
      cases h
      subst hs
      exact ⟨fun p hp => (by cases hp), rfl, rfl, rfl⟩
    · exact absurd (congrArg (·.2.2) h) (show (13 : Int) ≠ 0 by decide)
  | p :: ps, [], at', c, c', m, _, _, h => absurd (congrArg (·.2.2) h) (show (2 : Int) ≠ 0 by decide)
  | p :: ps, x :: r, at', c, c', m, hl, hn, h => by
    rw [plL] at h
    split at h
    · exact absurd (congrArg (·.2.2) h) (show (13 : Int) ≠ 0 by decide)
    rename_i hx
    have hx : x = 32 := by simpa using hx
    subst hx
    split at h
    · rename_i he; exact absurd (congrArg (·.2.2) h) he
    rename_i he
    have he : (partL p lo hi r c).1 = 0 := by simpa using he
    have hp := hl p (by simp)
    obtain ⟨b1, b2, b3, b4⟩ := part_back hp he
    generalize partL p lo hi r c = q at *
    rw [List.nodup_cons] at hn
    obtain ⟨i1, i2, i3, i4⟩ := plL_back ps _ _ _ _ _ (fun p hp => hl p (by simp [hp])) hn.2 h
    have hf : Fld p c' q.2.2 := by
      have := fld_bare hp c' ps q.2.2 (fun p hp => hl p (by simp [hp])) hn.1
      rwa [i4] at this
    refine ⟨fun p' hp' => ?_, ?_, ?_, ?_⟩
    · rcases List.mem_cons.1 hp' with rfl | hp'
      · rw [hf.2.1]; exact b1
      · exact i1 p' hp'
    · rw [List.flatMap_cons, List.cons_append, hf.1, ← i2, ← b2]
    · have := congrArg List.length b2
      rw [List.length_append] at this
      rw [i3, List.length_cons]
      omega
    · show bareL c' ps (setP p c' c) = c'
      rw [hf.2.2, ← b4]
      exact i4
theorem words_nodup (i : Int) (h : 0 ≤ i ∧ i < 8) : (fms.get i).words.Nodup := by
  rcases (by omega : i = 0 ∨ i = 1 ∨ i = 2 ∨ i = 3 ∨ i = 4 ∨ i = 5 ∨ i = 6 ∨ i = 7) with rfl | rfl | rfl | rfl | rfl | rfl | rfl | rfl <;> decide
theorem bare_kind (a : ConsoleCommand) : ∀ (ps : List UInt8) (o : ConsoleCommand), (bareL a ps o).Kind = o.Kind
  | [], o => rfl
  | p :: ps, o => by
    show (bareL a ps (setP p a o)).Kind = _
    rw [bare_kind a ps]
    unfold setP
    split
    · rfl
    · split
      · rfl
      · split
        · rfl
        · split <;> rfl
theorem parse_back {s : List UInt8} {c : ConsoleCommand} {m : Int} (h : parseL s = (c, m, 0)) : validL c = true ∧ formatL c = s ∧ m = (s.length : Int) := by
  unfold parseL at h
  rcases kindOf_ok (wordL s) with h0 | ⟨h1, h2⟩
  · rw [if_pos h0] at h; exact absurd (congrArg (·.2.2) h) (show (13 : Int) ≠ 0 by decide)
  rw [if_neg (by omega)] at h
  have F := fmt_ok (kindOf (wordL s)) (by omega)
  obtain ⟨i1, i2, i3, i4⟩ := plL_back _ _ _ _ _ _ F.ltr (words_nodup _ (by omega)) h
  have hk : c.Kind = kindOf (wordL s) := by rw [← i4, bare_kind]; rfl
  have hv : validL c = true := by
    unfold validL
    rw [hk, decide_eq_true h1.1, decide_eq_true h1.2, i4]
    simp only [Bool.and_self, Bool.true_and, decide_true, Bool.and_true, List.all_eq_true]
    exact i1
  have hw := wordL_le s
  refine ⟨hv, ?_, by rw [i3, List.length_drop]; omega⟩
  unfold formatL lineL
  rw [hv, hk, cond_true, h2, ← i2]
  exact (wordL_split s).1.symm
theorem plL_err {lo hi : Int} : ∀ (ps : List UInt8) (s : List UInt8) (at' : Nat) (c : ConsoleCommand), (plL lo hi ps s at' c).2.2 ≠ 0 → (plL lo hi ps s at' c).1 = zc 0 ∧ (at' : Int) ≤ (plL lo hi ps s at' c).2.1 ∧ (plL lo hi ps s at' c).2.1 ≤ ((at' + s.length : Nat) : Int)
  | [], s, at', c, h => by
    rw [plL] at h ⊢
    split at h
    · exact absurd rfl h
    · rename_i hs
      rw [if_neg hs]
      exact ⟨rfl, Int.le_refl _, by show (at' : Int) ≤ _; omega⟩
  | p :: ps, [], at', c, h => ⟨rfl, Int.le_refl _, by show (at' : Int) ≤ _; omega⟩
  | p :: ps, x :: r, at', c, h => by
    rw [plL] at h ⊢
    split at h
    · rename_i hx
      rw [if_pos hx]
      exact ⟨rfl, Int.le_refl _, by show (at' : Int) ≤ _; omega⟩
    rename_i hx
    rw [if_neg hx]
    split at h
    · rename_i he
      rw [if_pos he]
      exact ⟨rfl, by show (at' : Int) ≤ ((at' + 1 : Nat) : Int); omega, by show ((at' + 1 : Nat) : Int) ≤ _; rw [List.length_cons]; omega⟩
    · rename_i he
      rw [if_neg he]
      have he : (partL p lo hi r c).1 = 0 := by simpa using he
      have hn := partL_n he
      obtain ⟨i1, i2, i3⟩ := plL_err ps _ _ _ h
      rw [List.length_drop] at i3
      refine ⟨i1, by omega, ?_⟩
      rw [List.length_cons]
      omega
theorem parse_err {s : List UInt8} (h : (parseL s).2.2 ≠ 0) : (parseL s).1 = zc 0 ∧ 0 ≤ (parseL s).2.1 ∧ (parseL s).2.1 ≤ (s.length : Int) := by
  unfold parseL at h ⊢
  split
  · exact ⟨rfl, Int.le_refl _, by show (0 : Int) ≤ _; omega⟩
  · rename_i h0
    rw [if_neg h0] at h
    obtain ⟨i1, i2, i3⟩ := plL_err _ _ _ _ h
    have hw := wordL_le s
    rw [List.length_drop] at i3
    exact ⟨i1, by omega, by omega⟩
/-! ### the sanity check -/
def exC : ConsoleCommand := ⟨3, [], ⟨[65, 99, 99, 111, 117, 110, 116], [97, 32, 98]⟩, [], 3⟩
theorem exC_valid : validL exC = true := by decide +kernel
theorem exC_line : lineL exC = [109, 111, 118, 101, 32, 65, 99, 99, 111, 117, 110, 116, 32, 34, 97, 32, 98, 34, 32, 51] := by
  have h : textL 110 exC = [51] := by
    show Lib.itoa ((3 : Nat) : Int) = _
    rw [itoa_nat, decDigits_rec, if_pos (by decide)]; rfl
  show [109, 111, 118, 101] ++ (32 :: textL 97 exC ++ (32 :: textL 107 exC ++ (32 :: textL 110 exC ++ []))) = _
  rw [h]; decide +kernel
theorem awake_eq (k : Nat) (hk : 300 ≤ k) : actorgridlaw41_awake k = some true := by
  unfold actorgridlaw41_awake
  have e1 : console_Format k exC = some (lineL exC) := by rw [format_eq k exC (by omega)]; unfold formatL; rw [exC_valid]; rfl
  have hl : (lineL exC).length = 20 := by rw [exC_line]; rfl
  refine (bind_e e1).trans ?_
  rw [parse_eq k (lineL exC) (by omega) (by omega) (by omega), parse_line exC_valid, bind_e rfl]
  have e2 : parseL [109, 111, 118, 101, 32, 65, 99, 99, 111, 117, 110, 116, 32, 34, 97, 32, 98, 34] = (zc 0, 18, 2) := by decide +kernel
  rw [parse_eq k [109, 111, 118, 101, 32, 65, 99, 99, 111, 117, 110, 116, 32, 34, 97, 32, 98, 34] (by omega) (by simp; omega) (by simp), e2, bind_e rfl, exC_line]
  have e3 := valid_eq k exC (by omega)
  rw [exC_valid] at e3
  have t : ∀ (b : Bool) (x y : Option Bool), b = true → (bif b then x else y) = x := fun b x y h => by rw [h]; rfl
  have e4 : ((console_Valid k (⟨3, ([] : List UInt8), (⟨([65, 99, 99, 111, 117, 110, 116] : List UInt8), ([97, 32, 98] : List UInt8)⟩ : Ref), ([] : List UInt8), 3⟩ : ConsoleCommand)).bind fun x14 => some x14) = some true := bind_e e3
  rw [t _ _ _ (by decide +kernel), e4, bind_e rfl, cond_true, name_eq k _ (by omega), bind_e rfl, show nameL [97, 95, 49] = true by decide, bind_e rfl, cond_true, quote_eq k _ (by simp) (by simp; omega), bind_e rfl]
  decide +kernel
end Md
end Go.Proofs.YtjpiiejdaiaocaaDoor
