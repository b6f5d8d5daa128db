/-
  Layer 41 in plain words: which commands are valid, and their lines. Conditions: sizes.
-/
import Derived.Test.YtjpiiejdaiaocaaDoorConsPc
namespace Go.Proofs.YtjpiiejdaiaocaaDoor
set_option linter.unusedVariables false
set_option linter.unusedSimpArgs false
set_option maxRecDepth 10000
namespace Md
def fms : Arr8Consoleformat := (⟨(⟨([] : List UInt8), ([] : List UInt8), 0, 0⟩ : Consoleformat), (⟨([115, 117, 98, 115, 99, 114, 105, 98, 101] : List UInt8), ([116, 97, 107, 109] : List UInt8), 0, 0⟩ : Consoleformat), (⟨([117, 110, 115, 117, 98, 115, 99, 114, 105, 98, 101] : List UInt8), ([116, 97, 107, 109] : List UInt8), 0, 0⟩ : Consoleformat), (⟨([109, 111, 118, 101] : List UInt8), ([97, 107, 110] : List UInt8), 1, 1000⟩ : Consoleformat), (⟨([117, 112, 103, 114, 97, 100, 101] : List UInt8), ([110] : List UInt8), 1, 1099511627776⟩ : Consoleformat), (⟨([97, 100, 118, 97, 110, 99, 101] : List UInt8), ([110] : List UInt8), 0, 100⟩ : Consoleformat), (⟨([102, 105, 110, 105, 115, 104] : List UInt8), ([] : List UInt8), 0, 0⟩ : Consoleformat), (⟨([99, 97, 110, 99, 101, 108] : List UInt8), ([] : List UInt8), 0, 0⟩ : Consoleformat)⟩ : Arr8Consoleformat)
theorem fms_eq (k : Nat) : console_formats k = some fms := rfl
def rc (p : UInt8) : UInt8 := if p = 97 then 121 else p
def rfm : List Actorgridref41form := [fms.x0, fms.x1, fms.x2, fms.x3, fms.x4, fms.x5, fms.x6, fms.x7].map fun f => ⟨f.word, f.words.map rc, f.min, f.max⟩
theorem rfm_eq (k : Nat) : actorgridref41_forms k = some rfm := rfl
def Ltr (p : UInt8) : Prop := p = 116 ∨ p = 97 ∨ p = 107 ∨ p = 109 ∨ p = 110
instance (p : UInt8) : Decidable (Ltr p) := by unfold Ltr; infer_instance
theorem TT : (((((116 : UInt8).toNat : Nat)) : Int) == 116) = true ∧ (((((116 : UInt8).toNat : Nat)) : Int) == 97) = false ∧ (((((116 : UInt8).toNat : Nat)) : Int) == 107) = false ∧ (((((116 : UInt8).toNat : Nat)) : Int) == 109) = false ∧ (((((116 : UInt8).toNat : Nat)) : Int) == 110) = false ∧ (((((116 : UInt8).toNat : Nat)) : Int) == 121) = false ∧ (((((97 : UInt8).toNat : Nat)) : Int) == 116) = false ∧ (((((97 : UInt8).toNat : Nat)) : Int) == 97) = true ∧ (((((97 : UInt8).toNat : Nat)) : Int) == 107) = false ∧ (((((97 : UInt8).toNat : Nat)) : Int) == 109) = false ∧ (((((97 : UInt8).toNat : Nat)) : Int) == 110) = false ∧ (((((97 : UInt8).toNat : Nat)) : Int) == 121) = false ∧ (((((107 : UInt8).toNat : Nat)) : Int) == 116) = false ∧ (((((107 : UInt8).toNat : Nat)) : Int) == 97) = false ∧ (((((107 : UInt8).toNat : Nat)) : Int) == 107) = true ∧ (((((107 : UInt8).toNat : Nat)) : Int) == 109) = false ∧ (((((107 : UInt8).toNat : Nat)) : Int) == 110) = false ∧ (((((107 : UInt8).toNat : Nat)) : Int) == 121) = false ∧ (((((109 : UInt8).toNat : Nat)) : Int) == 116) = false ∧ (((((109 : UInt8).toNat : Nat)) : Int) == 97) = false ∧ (((((109 : UInt8).toNat : Nat)) : Int) == 107) = false ∧ (((((109 : UInt8).toNat : Nat)) : Int) == 109) = true ∧ (((((109 : UInt8).toNat : Nat)) : Int) == 110) = false ∧ (((((109 : UInt8).toNat : Nat)) : Int) == 121) = false ∧ (((((110 : UInt8).toNat : Nat)) : Int) == 116) = false ∧ (((((110 : UInt8).toNat : Nat)) : Int) == 97) = false ∧ (((((110 : UInt8).toNat : Nat)) : Int) == 107) = false ∧ (((((110 : UInt8).toNat : Nat)) : Int) == 109) = false ∧ (((((110 : UInt8).toNat : Nat)) : Int) == 110) = true ∧ (((((110 : UInt8).toNat : Nat)) : Int) == 121) = false ∧ (((((121 : UInt8).toNat : Nat)) : Int) == 116) = false ∧ (((((121 : UInt8).toNat : Nat)) : Int) == 97) = false ∧ (((((121 : UInt8).toNat : Nat)) : Int) == 107) = false ∧ (((((121 : UInt8).toNat : Nat)) : Int) == 109) = false ∧ (((((121 : UInt8).toNat : Nat)) : Int) == 110) = false ∧ (((((121 : UInt8).toNat : Nat)) : Int) == 121) = true := by decide
structure FmtOk (i : Int) : Prop where
  ref : rfm.getD i.toNat default = ⟨(fms.get i).word, ((fms.get i).words).map rc, (fms.get i).min, (fms.get i).max⟩
  ltr : ∀ p ∈ (fms.get i).words, Ltr p
  len : (fms.get i).words.length ≤ 4
  wlen : (fms.get i).word.length ≤ 11
  rng : 0 ≤ (fms.get i).min ∧ (fms.get i).max ≤ 1099511627776
theorem fmt_ok (i : Int) (h : 0 ≤ i ∧ i < 8) : FmtOk i := by
  rcases (by omega : i = 0 ∨ i = 1 ∨ i = 2 ∨ i = 3 ∨ i = 4 ∨ i = 5 ∨ i = 6 ∨ i = 7) with rfl | rfl | rfl | rfl | rfl | rfl | rfl | rfl <;> exact ⟨by decide, by decide, by decide, by decide, by decide⟩
theorem ltr_lt {p : UInt8} (h : Ltr p) : p.toNat < 128 := by
  rcases h with rfl | rfl | rfl | rfl | rfl <;> decide
theorem getD_mem {l : List UInt8} {j : Nat} (h : j < l.length) : l.getD j 0 ∈ l := by
  simp [List.getD, h]
theorem getD_map {l : List UInt8} {j : Nat} (h : j < l.length) : (l.map rc).getD j 0 = rc (l.getD j 0) := by
  simp [List.getD, h]
/-! ### valid -/
def setP (p : UInt8) (a o : ConsoleCommand) : ConsoleCommand :=
  if p = 116 then ⟨o.Kind, a.Topic, o.Actor, o.Method, o.Number⟩
  else if p = 97 then ⟨o.Kind, o.Topic, ⟨a.Actor.fType, o.Actor.Key⟩, o.Method, o.Number⟩
  else if p = 107 then ⟨o.Kind, o.Topic, ⟨o.Actor.fType, a.Actor.Key⟩, o.Method, o.Number⟩
  else if p = 109 then ⟨o.Kind, o.Topic, o.Actor, a.Method, o.Number⟩
  else ⟨o.Kind, o.Topic, o.Actor, o.Method, a.Number⟩
def okP (lo hi : Int) (p : UInt8) (a : ConsoleCommand) : Bool :=
  if p = 116 then nameL a.Topic
  else if p = 97 then nameL a.Actor.fType
  else if p = 107 then decide (a.Actor.Key.length ≤ 32)
  else if p = 109 then nameL a.Method
  else decide (lo ≤ a.Number) && decide (a.Number ≤ hi)
def zc (i : Int) : ConsoleCommand := ⟨i, [], ⟨[], []⟩, [], 0⟩
def bareL (a : ConsoleCommand) (ws : List UInt8) (o : ConsoleCommand) : ConsoleCommand := ws.foldl (fun o p => setP p a o) o
def validL (a : ConsoleCommand) : Bool := (decide (1 ≤ a.Kind) && decide (a.Kind ≤ 7)) && ((fms.get a.Kind).words.all (fun p => okP (fms.get a.Kind).min (fms.get a.Kind).max p a) && decide (bareL a (fms.get a.Kind).words (zc a.Kind) = a))
theorem bare_loop (k : Nat) (a : ConsoleCommand) (ws : List UInt8) (hw : ∀ p ∈ ws, Ltr p) : ∀ n o j, ws.length - j < n → console_bare_loop1 k a ws n o j = some (bareL a (ws.drop j) o) := by
  intro n
  induction n with
  | zero => intro o j h; omega
  | succ n ih =>
    intro o j h
    rw [console_bare_loop1]
    by_cases hj : j < ws.length
    · have hl := hw _ (getD_mem hj)
      rw [decide_eq_true hj, cond_true, ifp_pos (ltr_lt hl), drop_cons hj]
      have ih' := fun o => ih o (j + 1) (by omega)
      rcases hl with e | e | e | e | e <;> rw [e] <;> simp only [TT, cond_true, cond_false, ih'] <;> rfl
    · rw [decide_eq_false hj, cond_false, drop_none hj]; rfl
def setOk (o : Sum Unit Bool) : Bool := match o with | .inl _ => true | .inr b => b
theorem valid_loop (k : Nat) (a : ConsoleCommand) (hk : 33 ≤ k) (f : Arr8Consoleformat) (hw : ∀ p ∈ (f.get a.Kind).words, Ltr p) : ∀ n j, (f.get a.Kind).words.length - j < n →
    console_Valid_loop1 k a f n j = some (bif ((f.get a.Kind).words.drop j).all (fun p => okP (f.get a.Kind).min (f.get a.Kind).max p a) then .inl () else .inr false) := by
  intro n
  induction n with
  | zero => intro j h; omega
  | succ n ih =>
    intro j h
    rw [console_Valid_loop1]
    by_cases hj : j < (f.get a.Kind).words.length
    · have hl := hw _ (getD_mem hj)
      rw [decide_eq_true hj, cond_true, ifp_pos (ltr_lt hl), drop_cons hj, List.all_cons, ih (j + 1) (by omega)]
      generalize ((f.get a.Kind).words.drop (j + 1)).all _ = R
      rcases hl with e | e | e | e | e <;> rw [e] <;> simp only [TT, cond_true, cond_false, name_eq k _ hk, Option.bind_some, Bool.false_and, Bool.true_and]
      · show _ = some (bif nameL a.Topic && R then _ else _)
        cases nameL a.Topic <;> rfl
      · show _ = some (bif nameL a.Actor.fType && R then _ else _)
        cases nameL a.Actor.fType <;> rfl
      · show _ = some (bif decide (a.Actor.Key.length ≤ 32) && R then _ else _)
        by_cases h1 : a.Actor.Key.length ≤ 32
        · rw [decide_eq_true h1, decide_eq_false (by omega)]; rfl
        · rw [decide_eq_false h1, decide_eq_true (by omega)]; rfl
      · show _ = some (bif nameL a.Method && R then _ else _)
        cases nameL a.Method <;> rfl
      · show _ = some (bif (decide ((f.get a.Kind).min ≤ a.Number) && decide (a.Number ≤ (f.get a.Kind).max)) && R then _ else _)
        by_cases h1 : (f.get a.Kind).min ≤ a.Number
        · by_cases h2 : a.Number ≤ (f.get a.Kind).max
          · rw [decide_eq_true h1, decide_eq_true h2, decide_eq_false (by omega), decide_eq_false (by omega)]; rfl
          · rw [decide_eq_true h1, decide_eq_false h2, decide_eq_false (by omega), decide_eq_true (by omega)]; rfl
        · rw [decide_eq_false h1, decide_eq_true (by omega)]; rfl
    · rw [decide_eq_false hj, cond_false, drop_none hj]; rfl
theorem valid_eq (k : Nat) (a : ConsoleCommand) (hk : 33 ≤ k) : console_Valid k a = some (validL a) := by
  unfold console_Valid validL
  by_cases h1 : a.Kind < 1
  · rw [decide_eq_true h1, decide_eq_false (by omega : ¬ 1 ≤ a.Kind)]; rfl
  by_cases h2 : a.Kind > 7
  · rw [decide_eq_true h2, decide_eq_false (by omega : ¬ a.Kind ≤ 7), Bool.or_true, Bool.and_false]; rfl
  have F := fmt_ok a.Kind (by omega)
  have hlen := F.len
  rw [decide_eq_false h1, decide_eq_false h2, decide_eq_true (by omega : 1 ≤ a.Kind), decide_eq_true (by omega : a.Kind ≤ 7), Bool.or_self, cond_false, fms_eq, bind_e rfl, ifp_pos (by omega), valid_loop k a hk fms F.ltr k 0 (by omega), List.drop_zero, Bool.and_self, Bool.true_and, bind_e rfl]
  cases (fms.get a.Kind).words.all (fun p => okP (fms.get a.Kind).min (fms.get a.Kind).max p a) with
  | false => rfl
  | true =>
    show (console_bare k a (fms.get a.Kind).words).bind _ = _
    unfold console_bare
    rw [bare_loop k a _ F.ltr k _ 0 (by omega), List.drop_zero]
    rfl
theorem validR_loop (k : Nat) (a : ConsoleCommand) (hl1 : a.Topic.length < k ∧ a.Topic.length ≤ 9223372036854775807) (hl2 : a.Actor.fType.length < k ∧ a.Actor.fType.length ≤ 9223372036854775807) (hl3 : a.Method.length < k ∧ a.Method.length ≤ 9223372036854775807) (ws : List UInt8) (lo hi : Int) (rl : List Actorgridref41form) (wd : List UInt8) (hr : rl.getD a.Kind.toNat default = ⟨wd, ws.map rc, lo, hi⟩) (hw : ∀ p ∈ ws, Ltr p) (hws : ws.length ≤ 100) : ∀ n j o, ws.length - j < n →
    actorgridref41_Valid_loop1 k a rl n j o = some (bif (ws.drop j).all (fun p => okP lo hi p a) then .inl (bareL a (ws.drop j) o) else .inr false) := by
  intro n
  induction n with
  | zero => intro j o h; omega
  | succ n ih =>
    intro j o h
    rw [actorgridref41_Valid_loop1, hr]
    simp only [List.length_map]
    by_cases hj : j < ws.length
    · have hl := hw _ (getD_mem hj)
      rw [decide_eq_true (by omega), cond_true, ifp_pos hj, drop_cons hj, List.all_cons, getD_map hj]
      have ih' := fun o => ih (j + 1) o (by omega)
      rcases hl with e | e | e | e | e <;> rw [e]
      · rw [show rc 116 = 116 from rfl]
        simp only [TT, cond_true, cond_false, nameR_eq k _ hl1.2 hl1.1, Option.bind_some]
        show _ = some (bif nameL a.Topic && _ then _ else _)
        cases nameL a.Topic with
        | false => rfl
        | true => show Md.ifp _ _ = _; rw [ifp_pos (by omega), ih', Bool.true_and]; rfl
      · rw [show rc 97 = 121 from rfl]
        simp only [TT, cond_true, cond_false, nameR_eq k _ hl2.2 hl2.1, Option.bind_some]
        show _ = some (bif nameL a.Actor.fType && _ then _ else _)
        cases nameL a.Actor.fType with
        | false => rfl
        | true => show Md.ifp _ _ = _; rw [ifp_pos (by omega), ih', Bool.true_and]; rfl
      · rw [show rc 107 = 107 from rfl]
        simp only [TT, cond_true, cond_false, Option.bind_some]
        show _ = some (bif decide (a.Actor.Key.length ≤ 32) && _ then _ else _)
        by_cases h1 : a.Actor.Key.length ≤ 32
        · rw [decide_eq_true h1, decide_eq_true (by omega), Bool.true_and]
          show Md.ifp _ _ = _
          rw [ifp_pos (by omega), ih']; rfl
        · rw [decide_eq_false h1, decide_eq_false (by omega)]; rfl
      · rw [show rc 109 = 109 from rfl]
        simp only [TT, cond_true, cond_false, nameR_eq k _ hl3.2 hl3.1, Option.bind_some]
        show _ = some (bif nameL a.Method && _ then _ else _)
        cases nameL a.Method with
        | false => rfl
        | true => show Md.ifp _ _ = _; rw [ifp_pos (by omega), ih', Bool.true_and]; rfl
      · rw [show rc 110 = 110 from rfl]
        simp only [TT, cond_true, cond_false, Option.bind_some]
        show _ = some (bif (decide (lo ≤ a.Number) && decide (a.Number ≤ hi)) && _ then _ else _)
        by_cases h1 : lo ≤ a.Number
        · by_cases h2 : a.Number ≤ hi
          · rw [decide_eq_true h1, decide_eq_true h2, Bool.and_self, Bool.true_and]
            show Md.ifp _ _ = _
            rw [ifp_pos (by omega), ih']; rfl
          · rw [decide_eq_true h1, decide_eq_false h2]; rfl
        · rw [decide_eq_false h1]; rfl
    · rw [decide_eq_false (by omega), cond_false, drop_none hj]; rfl
def cLen (a : ConsoleCommand) : Nat := a.Topic.length + a.Actor.fType.length + a.Actor.Key.length + a.Method.length
theorem validR_eq (k : Nat) (a : ConsoleCommand) (hk : 33 ≤ k) (hl1 : a.Topic.length < k ∧ a.Topic.length ≤ 9223372036854775807) (hl2 : a.Actor.fType.length < k ∧ a.Actor.fType.length ≤ 9223372036854775807) (hl3 : a.Method.length < k ∧ a.Method.length ≤ 9223372036854775807) : actorgridref41_Valid k a = some (validL a) := by
  unfold actorgridref41_Valid validL
  by_cases h1 : a.Kind < 1
  · rw [decide_eq_true h1, decide_eq_false (by omega : ¬ 1 ≤ a.Kind)]; rfl
  by_cases h2 : a.Kind > 7
  · rw [decide_eq_true h2, decide_eq_false (by omega : ¬ a.Kind ≤ 7), Bool.or_true, Bool.and_false]; rfl
  have F := fmt_ok a.Kind (by omega)
  have hlen := F.len
  have h8 : ((rfm.length : Nat) : Int) = 8 := rfl
  rw [decide_eq_false h1, decide_eq_false h2, decide_eq_true (by omega : 1 ≤ a.Kind), decide_eq_true (by omega : a.Kind ≤ 7), Bool.or_self, cond_false, rfm_eq, bind_e rfl, ifp_pos (by omega), validR_loop k a hl1 hl2 hl3 _ _ _ rfm _ F.ref F.ltr (by omega) k 0 _ (by omega), List.drop_zero, Bool.and_self, Bool.true_and, bind_e rfl]
  cases (fms.get a.Kind).words.all (fun p => okP (fms.get a.Kind).min (fms.get a.Kind).max p a) with
  | false => rfl
  | true => rfl
/-! ### lines -/
def textL (p : UInt8) (a : ConsoleCommand) : List UInt8 :=
  if p = 116 then a.Topic else if p = 97 then a.Actor.fType else if p = 107 then quoteL a.Actor.Key else if p = 109 then a.Method else Lib.itoa a.Number
def lineL (a : ConsoleCommand) : List UInt8 := (fms.get a.Kind).word ++ (fms.get a.Kind).words.flatMap (fun p => 32 :: textL p a)
def formatL (a : ConsoleCommand) : List UInt8 := bif validL a then lineL a else []
theorem okP_text {lo hi : Int} {p : UInt8} {a : ConsoleCommand} (hp : Ltr p) (h0 : 0 ≤ lo) (h1 : hi ≤ 1099511627776) (h : okP lo hi p a = true) : (textL p a).length ≤ 200 ∧ 1 ≤ (textL p a).length := by
  unfold okP at h
  unfold textL
  rcases hp with rfl | rfl | rfl | rfl | rfl
  · have := nameL_len h; exact ⟨by show a.Topic.length ≤ _; omega, this.1⟩
  · have := nameL_len h; exact ⟨by show a.Actor.fType.length ≤ _; omega, this.1⟩
  · have h2 : a.Actor.Key.length ≤ 32 := of_decide_eq_true h
    have := flat_len a.Actor.Key
    show (quoteL a.Actor.Key).length ≤ _ ∧ 1 ≤ (quoteL a.Actor.Key).length
    unfold quoteL
    rw [List.length_cons, List.length_append]
    simp only [List.length_cons, List.length_nil]
    omega
  · have := nameL_len h; exact ⟨by show a.Method.length ≤ _; omega, this.1⟩
  · have h2 : (decide (lo ≤ a.Number) && decide (a.Number ≤ hi)) = true := h
    simp only [Bool.and_eq_true, decide_eq_true_eq] at h2
    show (Lib.itoa a.Number).length ≤ _ ∧ 1 ≤ (Lib.itoa a.Number).length
    obtain ⟨u, hu⟩ : ∃ u : Nat, a.Number = (u : Int) := ⟨a.Number.toNat, by omega⟩
    rw [hu, itoa_nat]
    have := dig_len 15 u (by rw [show (10 : Nat) ^ (15 + 1) = 10000000000000000 by decide]; omega)
    omega
theorem fmt_loop (k : Nat) (a : ConsoleCommand) (hk : 200 ≤ k) (f : Arr8Consoleformat) (hw : ∀ p ∈ (f.get a.Kind).words, Ltr p ∧ okP (f.get a.Kind).min (f.get a.Kind).max p a = true) (h0 : 0 ≤ (f.get a.Kind).min) (h1 : (f.get a.Kind).max ≤ 1099511627776) : ∀ n j o, (f.get a.Kind).words.length - j < n → o.length + 201 * ((f.get a.Kind).words.length - j) ≤ 3000000 →
    console_Format_loop1 k a f n o j = some (o ++ ((f.get a.Kind).words.drop j).flatMap (fun p => 32 :: textL p a)) := by
  intro n
  induction n with
  | zero => intro j o h; omega
  | succ n ih =>
    intro j o h ho
    rw [console_Format_loop1]
    by_cases hj : j < (f.get a.Kind).words.length
    · obtain ⟨hl, hok⟩ := hw _ (getD_mem hj)
      have htx := okP_text hl h0 h1 hok
      have h32 : (o ++ ([32] : List UInt8)).length = o.length + 1 := by simp
      rw [decide_eq_true hj, cond_true, ifp_pos (ltr_lt hl), ifp_pos (by simp; omega), drop_cons hj, List.flatMap_cons]
      have key : ∀ w : List UInt8, w = textL ((f.get a.Kind).words.getD j 0) a → (Md.ifp ((o ++ ([32] : List UInt8)).length + w.length ≤ 4000000) <| console_Format_loop1 k a f n ((o ++ ([32] : List UInt8)) ++ w) (j + 1)) = some (o ++ ((32 :: textL ((f.get a.Kind).words.getD j 0) a) ++ ((f.get a.Kind).words.drop (j + 1)).flatMap (fun p => 32 :: textL p a))) := by
        rintro w rfl
        rw [ifp_pos (by omega), ih (j + 1) _ (by omega) (by rw [List.length_append]; omega)]
        simp
      rcases hl with e | e | e | e | e <;> rw [e] at key hok ⊢ <;> simp only [TT, cond_true, cond_false]
      · exact key _ rfl
      · exact key _ rfl
      · have h2 : a.Actor.Key.length ≤ 32 := of_decide_eq_true hok
        rw [quote_eq k _ (by omega) (by omega), bind_e rfl]
        exact key _ rfl
      · exact key _ rfl
      · have h2 : (decide ((f.get a.Kind).min ≤ a.Number) && decide (a.Number ≤ (f.get a.Kind).max)) = true := hok
        simp only [Bool.and_eq_true, decide_eq_true_eq] at h2
        unfold strconv_Itoa
        rw [ifp_pos (by omega), bind_e rfl]
        exact key _ rfl
    · rw [decide_eq_false hj, cond_false, drop_none hj]; simp
theorem validL_parts {a : ConsoleCommand} (h : validL a = true) : (1 ≤ a.Kind ∧ a.Kind ≤ 7) ∧ (∀ p ∈ (fms.get a.Kind).words, Ltr p ∧ okP (fms.get a.Kind).min (fms.get a.Kind).max p a = true) ∧ bareL a (fms.get a.Kind).words (zc a.Kind) = a := by
  unfold validL at h
  simp only [Bool.and_eq_true, decide_eq_true_eq, List.all_eq_true] at h
  exact ⟨h.1, fun p hp => ⟨(fmt_ok a.Kind (by omega)).ltr p hp, h.2.1 p hp⟩, h.2.2⟩
theorem format_eq (k : Nat) (a : ConsoleCommand) (hk : 200 ≤ k) : console_Format k a = some (formatL a) := by
  unfold console_Format formatL
  rw [valid_eq k a (by omega), bind_e rfl]
  cases hv : validL a with
  | false => rfl
  | true =>
    obtain ⟨h1, h2, _⟩ := validL_parts hv
    have F := fmt_ok a.Kind (by omega)
    have := F.len; have := F.wlen
    rw [Bool.not_true, cond_false, fms_eq, bind_e rfl, ifp_pos (by omega), fmt_loop k a hk fms h2 F.rng.1 F.rng.2 k 0 _ (by omega) (by omega)]
    rfl
theorem fmtR_loop (k : Nat) (a : ConsoleCommand) (hk : 200 ≤ k) (ws : List UInt8) (lo hi : Int) (rl : List Actorgridref41form) (wd : List UInt8) (hr : rl.getD a.Kind.toNat default = ⟨wd, ws.map rc, lo, hi⟩) (hw : ∀ p ∈ ws, Ltr p ∧ okP lo hi p a = true) (h0 : 0 ≤ lo) (h1 : hi ≤ 1099511627776) (hws : ws.length ≤ 100) : ∀ n j o, ws.length - j < n → o.length + 201 * (ws.length - j) ≤ 3000000 →
    actorgridref41_Format_loop1 k a rl n o j = some (o ++ (ws.drop j).flatMap (fun p => 32 :: textL p a)) := by
  intro n
  induction n with
  | zero => intro j o h; omega
  | succ n ih =>
    intro j o h ho
    rw [actorgridref41_Format_loop1, hr]
    simp only [List.length_map]
    by_cases hj : j < ws.length
    · obtain ⟨hl, hok⟩ := hw _ (getD_mem hj)
      have htx := okP_text hl h0 h1 hok
      have h32 : (o ++ ([32] : List UInt8)).length = o.length + 1 := by simp
      rw [decide_eq_true (by omega), cond_true, ifp_pos (by simp; omega), ifp_pos hj, drop_cons hj, List.flatMap_cons, getD_map hj]
      have key : ∀ w : List UInt8, w = textL (ws.getD j 0) a → ((Md.ifp ((o ++ ([32] : List UInt8)).length + w.length ≤ 4000000) <| some ((o ++ ([32] : List UInt8)) ++ w)).bind fun x7_0 => Md.ifp (j + 1 ≤ 9223372036854775807) <| actorgridref41_Format_loop1 k a rl n x7_0 (j + 1)) = some (o ++ ((32 :: textL (ws.getD j 0) a) ++ (ws.drop (j + 1)).flatMap (fun p => 32 :: textL p a))) := by
        rintro w rfl
        rw [ifp_pos (by omega), bind_e rfl, ifp_pos (by omega), ih (j + 1) _ (by omega) (by rw [List.length_append]; omega)]
        simp
      rcases hl with e | e | e | e | e <;> rw [e] at key hok ⊢
      · rw [show rc 116 = 116 from rfl]; simp only [TT, cond_true, cond_false]; exact key _ rfl
      · rw [show rc 97 = 121 from rfl]; simp only [TT, cond_true, cond_false]; exact key _ rfl
      · rw [show rc 107 = 107 from rfl]; simp only [TT, cond_true, cond_false]
        have h2 : a.Actor.Key.length ≤ 32 := of_decide_eq_true hok
        rw [quoteR_eq k _ (by omega) (by omega), bind_e rfl]
        exact key _ rfl
      · rw [show rc 109 = 109 from rfl]; simp only [TT, cond_true, cond_false]; exact key _ rfl
      · rw [show rc 110 = 110 from rfl]; simp only [TT, cond_true, cond_false]
        have h2 : (decide (lo ≤ a.Number) && decide (a.Number ≤ hi)) = true := hok
        simp only [Bool.and_eq_true, decide_eq_true_eq] at h2
        obtain ⟨u, hu⟩ : ∃ u : Nat, a.Number = (u : Int) := ⟨a.Number.toNat, by omega⟩
        rw [hu, decimal_eq k u (by rw [show (10 : Nat) ^ 15 = 1000000000000000 by decide]; omega) (by omega), bind_e rfl]
        exact key _ (by show _ = Lib.itoa a.Number; rw [hu, itoa_nat])
    · rw [decide_eq_false (by omega), cond_false, drop_none hj]; simp
theorem formatR_eq (k : Nat) (a : ConsoleCommand) (hk : 200 ≤ k) (hl1 : a.Topic.length < k ∧ a.Topic.length ≤ 9223372036854775807) (hl2 : a.Actor.fType.length < k ∧ a.Actor.fType.length ≤ 9223372036854775807) (hl3 : a.Method.length < k ∧ a.Method.length ≤ 9223372036854775807) : actorgridref41_Format k a = some (formatL a) := by
  unfold actorgridref41_Format formatL
  rw [validR_eq k a (by omega) hl1 hl2 hl3, bind_e rfl]
  cases hv : validL a with
  | false => rfl
  | true =>
    obtain ⟨h1, h2, _⟩ := validL_parts hv
    have F := fmt_ok a.Kind (by omega)
    have := F.len; have := F.wlen
    have h8 : ((rfm.length : Nat) : Int) = 8 := rfl
    rw [Bool.not_true, cond_false, rfm_eq, bind_e rfl, ifp_pos (by omega), F.ref]
    rw [fmtR_loop k a hk _ _ _ rfm _ F.ref h2 F.rng.1 F.rng.2 (by omega) k 0 _ (by omega) (by show (fms.get a.Kind).word.length + _ ≤ _; omega)]
    rfl
end Md
end Go.Proofs.YtjpiiejdaiaocaaDoor
