/-
  Layer 41 in plain words: lines are read, and written back. Conditions: sizes.
-/
import Derived.Test.YtjpiiejdaiaocaaDoorConsPd
namespace Go.Proofs.YtjpiiejdaiaocaaDoor
set_option linter.unusedVariables false
set_option linter.unusedSimpArgs false
set_option maxRecDepth 10000
namespace Md
def setW (p : UInt8) (w : List UInt8) (o : ConsoleCommand) : ConsoleCommand :=
  if p = 116 then ⟨o.Kind, w, o.Actor, o.Method, o.Number⟩
  else if p = 97 then ⟨o.Kind, o.Topic, ⟨w, o.Actor.Key⟩, o.Method, o.Number⟩
  else ⟨o.Kind, o.Topic, o.Actor, w, o.Number⟩
def partK (s : List UInt8) (c : ConsoleCommand) (u : URes) : Int × Nat × ConsoleCommand :=
  if u.2.2 ≠ 0 then (u.2.2, 0, c) else if u.1.length > 32 then (5, 0, c) else (0, u.2.1.toNat, ⟨c.Kind, c.Topic, ⟨c.Actor.fType, u.1⟩, c.Method, c.Number⟩)
def partN (lo hi : Int) (w : List UInt8) (c : ConsoleCommand) (d : Option Nat) : Int × Nat × ConsoleCommand :=
  match d with
  | none => (13, 0, c)
  | some v => if (v : Int) < lo ∨ (v : Int) > hi then (5, 0, c) else (0, w.length, ⟨c.Kind, c.Topic, c.Actor, c.Method, v⟩)
def partL (p : UInt8) (lo hi : Int) (s : List UInt8) (c : ConsoleCommand) : Int × Nat × ConsoleCommand :=
  if p = 107 then partK s c (unquote s)
  else if p = 110 then partN lo hi (wordL s) c (decL (wordL s))
  else if nameL (wordL s) = true then (0, (wordL s).length, setW p (wordL s) c) else (13, 0, c)
theorem unquote_n {s t : List UInt8} {m : Int} (h : unquote s = (t, m, 0)) : (m.toNat : Int) = m ∧ m.toNat ≤ s.length := by
  obtain ⟨rest, h1, h2⟩ := unquote_back h
  have := congrArg List.length h1
  rw [List.length_append] at this
  omega
def Agrees (y : Int × Int × ConsoleCommand) (q : Int × Nat × ConsoleCommand) : Prop := y.2.1 = q.1 ∧ (q.1 = 0 → y.1 = (q.2.1 : Int) ∧ y.2.2 = q.2.2)
theorem read_eq (k : Nat) (p : UInt8) (hp : Ltr p) (f : Consoleformat) (s : List UInt8) (c : ConsoleCommand) (hk : 33 ≤ k) (hs : s.length < k) (hl : s.length ≤ 2000000) : ∃ y, console_read k c f (((p.toNat : Nat)) : Int) s = some y ∧ Agrees y (partL p f.min f.max s c) := by
  unfold console_read
  rw [word_eq k s (by omega), bind_e rfl]
  rcases hp with rfl | rfl | rfl | rfl | rfl
  · simp only [TT, cond_true, cond_false, name_eq k _ hk, Option.bind_some]
    unfold partL
    rw [if_neg (by decide), if_neg (by decide)]
    cases nameL (wordL s) with
    | true => exact ⟨_, rfl, rfl, fun _ => ⟨rfl, rfl⟩⟩
    | false => exact ⟨_, rfl, rfl, fun h => absurd (show (13 : Int) = 0 from h) (by decide)⟩
  · simp only [TT, cond_true, cond_false, name_eq k _ hk, Option.bind_some]
    unfold partL
    rw [if_neg (by decide), if_neg (by decide)]
    cases nameL (wordL s) with
    | true => exact ⟨_, rfl, rfl, fun _ => ⟨rfl, rfl⟩⟩
    | false => exact ⟨_, rfl, rfl, fun h => absurd (show (13 : Int) = 0 from h) (by decide)⟩
  · simp only [TT, cond_true, cond_false, unquote_eq k s (by omega) hs hl, Option.bind_some]
    unfold partL
    rw [if_pos rfl]
    have hn := fun t m => unquote_n (s := s) (t := t) (m := m)
    generalize unquote s = u at *
    obtain ⟨t, m, e⟩ := u
    unfold partK
    dsimp only
    by_cases he : e = 0
    · subst he
      rw [if_neg (by decide)]
      by_cases h1 : t.length > 32
      · rw [if_pos h1, decide_eq_true (by omega)]
        exact ⟨_, rfl, rfl, fun h => absurd (show (5 : Int) = 0 from h) (by decide)⟩
      · rw [if_neg h1, decide_eq_false (by omega)]
        exact ⟨_, rfl, rfl, fun _ => ⟨((hn t m rfl).1).symm, rfl⟩⟩
    · rw [if_pos he, show (e == 0) = false from beq_false_of_ne he]
      exact ⟨_, rfl, rfl, fun h => absurd h he⟩
  · simp only [TT, cond_true, cond_false, name_eq k _ hk, Option.bind_some]
    unfold partL
    rw [if_neg (by decide), if_neg (by decide)]
    cases nameL (wordL s) with
    | true => exact ⟨_, rfl, rfl, fun _ => ⟨rfl, rfl⟩⟩
    | false => exact ⟨_, rfl, rfl, fun h => absurd (show (13 : Int) = 0 from h) (by decide)⟩
  · simp only [TT, cond_true, cond_false, number_eq k _ (by omega : 16 ≤ k), Option.bind_some]
    unfold partL
    rw [if_neg (by decide), if_pos rfl]
    cases decL (wordL s) with
    | none => exact ⟨_, rfl, rfl, fun h => absurd (show (13 : Int) = 0 from h) (by decide)⟩
    | some v =>
      unfold partN decR
      dsimp only
      rw [Bool.not_true, cond_false]
      by_cases h1 : (v : Int) < f.min
      · rw [if_pos (.inl h1), decide_eq_true h1]
        exact ⟨_, rfl, rfl, fun h => absurd (show (5 : Int) = 0 from h) (by decide)⟩
      · by_cases h2 : (v : Int) > f.max
        · rw [if_pos (.inr h2), decide_eq_false h1, decide_eq_true h2]
          exact ⟨_, rfl, rfl, fun h => absurd (show (5 : Int) = 0 from h) (by decide)⟩
        · rw [if_neg (by omega), decide_eq_false h1, decide_eq_false h2]
          exact ⟨_, rfl, rfl, fun _ => ⟨rfl, rfl⟩⟩
theorem part_eq (k : Nat) (p : UInt8) (hp : Ltr p) (f : Actorgridref41form) (s : List UInt8) (c : ConsoleCommand) (hk : 33 ≤ k) (hs : s.length < k) (hl : s.length ≤ 2000000) : ∃ y, actorgridref41_part k c f (rc p) s = some y ∧ Agrees y (partL p f.low f.high s c) := by
  unfold actorgridref41_part
  have hw := wordL_le s
  rcases hp with rfl | rfl | rfl | rfl | rfl
  · rw [show rc 116 = 116 from rfl]
    simp only [TT, cond_true, cond_false, wordR_eq k s (by omega) hs, nameR_eq k (wordL s) (by omega) (by omega), Option.bind_some]
    unfold partL
    rw [if_neg (by decide), if_neg (by decide)]
    cases nameL (wordL s) with
    | true => exact ⟨_, rfl, rfl, fun _ => ⟨rfl, rfl⟩⟩
    | false => exact ⟨_, rfl, rfl, fun h => absurd (show (13 : Int) = 0 from h) (by decide)⟩
  · rw [show rc 97 = 121 from rfl]
    simp only [TT, cond_true, cond_false, wordR_eq k s (by omega) hs, nameR_eq k (wordL s) (by omega) (by omega), Option.bind_some]
    unfold partL
    rw [if_neg (by decide), if_neg (by decide)]
    cases nameL (wordL s) with
    | true => exact ⟨_, rfl, rfl, fun _ => ⟨rfl, rfl⟩⟩
    | false => exact ⟨_, rfl, rfl, fun h => absurd (show (13 : Int) = 0 from h) (by decide)⟩
  · rw [show rc 107 = 107 from rfl]
    simp only [TT, cond_true, cond_false, unquoteR_eq k s (by omega) hs hl, Option.bind_some]
    unfold partL
    rw [if_pos rfl]
    have hn := fun t m => unquote_n (s := s) (t := t) (m := m)
    generalize unquote s = u at *
    obtain ⟨t, m, e⟩ := u
    unfold partK
    dsimp only
    by_cases he : e = 0
    · subst he
      rw [if_neg (by decide), show ((0 : Int) != 0) = false from rfl, cond_false]
      by_cases h1 : t.length > 32
      · rw [if_pos h1, decide_eq_true (by omega)]
        exact ⟨_, rfl, rfl, fun h => absurd (show (5 : Int) = 0 from h) (by decide)⟩
      · rw [if_neg h1, decide_eq_false (by omega)]
        exact ⟨_, rfl, rfl, fun _ => ⟨((hn t m rfl).1).symm, rfl⟩⟩
    · rw [if_pos he, show (e != 0) = true from by simpa using he]
      exact ⟨_, rfl, rfl, fun h => absurd h he⟩
  · rw [show rc 109 = 109 from rfl]
    simp only [TT, cond_true, cond_false, wordR_eq k s (by omega) hs, nameR_eq k (wordL s) (by omega) (by omega), Option.bind_some]
    unfold partL
    rw [if_neg (by decide), if_neg (by decide)]
    cases nameL (wordL s) with
    | true => exact ⟨_, rfl, rfl, fun _ => ⟨rfl, rfl⟩⟩
    | false => exact ⟨_, rfl, rfl, fun h => absurd (show (13 : Int) = 0 from h) (by decide)⟩
  · rw [show rc 110 = 110 from rfl]
    simp only [TT, cond_true, cond_false, wordR_eq k s (by omega) hs, numberR_eq k _ (by omega : 16 ≤ k), Option.bind_some]
    unfold partL
    rw [if_neg (by decide), if_pos rfl]
    cases decL (wordL s) with
    | none => exact ⟨_, rfl, rfl, fun h => absurd (show (13 : Int) = 0 from h) (by decide)⟩
    | some v =>
      unfold partN decR
      dsimp only
      rw [Bool.not_true, cond_false]
      by_cases h1 : (v : Int) < f.low ∨ (v : Int) > f.high
      · rw [if_pos h1, show ((decide ((v : Int) < f.low)) || (decide ((v : Int) > f.high))) = true by simp; omega]
        exact ⟨_, rfl, rfl, fun h => absurd (show (5 : Int) = 0 from h) (by decide)⟩
      · rw [if_neg h1, show ((decide ((v : Int) < f.low)) || (decide ((v : Int) > f.high))) = false by simp; omega]
        exact ⟨_, rfl, rfl, fun _ => ⟨rfl, rfl⟩⟩
abbrev PRes := ConsoleCommand × Int × Int
def plL (lo hi : Int) : List UInt8 → List UInt8 → Nat → ConsoleCommand → PRes
  | [], s, a, c => if s = [] then (c, (a : Int), 0) else (zc 0, (a : Int), 13)
  | p :: ps, [], a, c => (zc 0, (a : Int), 2)
  | p :: ps, h :: r, a, c => if h ≠ 32 then (zc 0, (a : Int), 13) else if (partL p lo hi r c).1 ≠ 0 then (zc 0, ((a + 1 : Nat) : Int), (partL p lo hi r c).1) else plL lo hi ps (r.drop (partL p lo hi r c).2.1) (a + 1 + (partL p lo hi r c).2.1) (partL p lo hi r c).2.2
theorem partL_n {p : UInt8} {lo hi : Int} {s : List UInt8} {c : ConsoleCommand} (h : (partL p lo hi s c).1 = 0) : (partL p lo hi s c).2.1 ≤ s.length := by
  unfold partL at h ⊢
  have hw := wordL_le s
  split
  · rename_i hp
    rw [if_pos hp] at h
    have hn := fun t m => unquote_n (s := s) (t := t) (m := m)
    generalize unquote s = u at *
    obtain ⟨t, m, e⟩ := u
    unfold partK at h ⊢
    dsimp only at h ⊢
    split
    · exact Nat.zero_le _
    · rename_i he
      split
      · exact Nat.zero_le _
      · have : e = 0 := by simpa using he
        subst this
        exact (hn t m rfl).2
  · split
    · unfold partN
      split
      · exact Nat.zero_le _
      · split
        · exact Nat.zero_le _
        · exact hw
    · split
      · exact hw
      · exact Nat.zero_le _
def prsE (len : Nat) (o : Sum (Int × ConsoleCommand) PRes) : Option PRes := Md.onS o (fun x => bif (decide (x.1 < (len : Int))) then (some (zc 0, x.1, 13)) else (some (x.2, x.1, 0))) (fun r => some r)
theorem prs_loop (k : Nat) (a0 : List UInt8) (hk : 33 ≤ k) (hk2 : a0.length < k) (hl : a0.length ≤ 2000000) (x3 : ConsoleCommand) (f : Arr8Consoleformat) (hw : ∀ p ∈ (f.get x3.Kind).words, Ltr p) : ∀ n j (at' : Nat) c, (f.get x3.Kind).words.length - j < n → at' ≤ a0.length →
    (console_Parse_loop2 k a0 x3 f n (at' : Int) c j).bind (prsE a0.length) = some (plL (f.get x3.Kind).min (f.get x3.Kind).max ((f.get x3.Kind).words.drop j) (a0.drop at') at' c) := by
  intro n
  induction n with
  | zero => intro j a c h; omega
  | succ n ih =>
    intro j a c h ha
    rw [console_Parse_loop2]
    by_cases hj : j < (f.get x3.Kind).words.length
    · have hp := hw _ (getD_mem hj)
      rw [decide_eq_true hj, cond_true, ifp_pos (ltr_lt hp), drop_cons hj]
      by_cases h1 : a = a0.length
      · rw [ib_t (n := a) (z := ((a0.length : Nat) : Int)) (by omega), cond_true, drop_none (by omega : ¬ a < a0.length)]; rfl
      rw [ib_f (n := a) (z := ((a0.length : Nat) : Int)) (by omega), cond_false, ifp_pos (by omega), Int.toNat_natCast, drop_cons (by omega : a < a0.length), plL]
      by_cases h2 : a0.getD a 0 = 32
      · rw [if_neg (by simpa using h2), h2, nb_f (n := (32 : UInt8).toNat) (z := 32) rfl, cond_false]
        have hW : W ((a : Int) + 1) = ((a + 1 : Nat) : Int) := (W_id (by omega) (by omega)).trans (by omega)
        rw [hW, ifp_pos (by omega), Int.toNat_natCast, ifp_pos (by omega)]
        have hdl : (a0.drop (a + 1)).length = a0.length - (a + 1) := List.length_drop
        obtain ⟨y, e1, e2, e3⟩ := read_eq k _ hp (f.get x3.Kind) (a0.drop (a + 1)) c hk (by omega) (by omega)
        have hn := partL_n (p := (f.get x3.Kind).words.getD j 0) (lo := (f.get x3.Kind).min) (hi := (f.get x3.Kind).max) (s := a0.drop (a + 1)) (c := c)
        generalize partL ((f.get x3.Kind).words.getD j 0) (f.get x3.Kind).min (f.get x3.Kind).max (a0.drop (a + 1)) c = q at *
        refine (congrArg (fun o => Option.bind o (prsE a0.length)) (bind_e e1)).trans ?_
        rw [e2]
        by_cases h3 : q.1 = 0
        · obtain ⟨e4, e5⟩ := e3 h3
          have hn' := hn h3
          have hW1 : W (1 + (q.2.1 : Int)) = 1 + (q.2.1 : Int) := W_id (by omega) (by omega)
          have hW2 : W ((a : Int) + (1 + (q.2.1 : Int))) = ((a + 1 + q.2.1 : Nat) : Int) := (W_id (by omega) (by omega)).trans (by omega)
          rw [if_neg (by simpa using h3), h3, show ((0 : Int) != 0) = false from rfl, cond_false, e4, e5, hW1, hW2]
          refine (ih (j + 1) (a + 1 + q.2.1) q.2.2 (by omega) (by omega)).trans ?_
          rw [at_drop]
        · rw [if_pos h3, show (q.1 != 0) = true from by simpa using h3]; rfl
      · have h2' : (a0.getD a 0).toNat ≠ 32 := fun e => h2 (UInt8.toNat_inj.1 e)
        rw [if_pos h2, nb_t (n := (a0.getD a 0).toNat) (z := 32) (by omega)]; rfl
    · rw [decide_eq_false hj, cond_false, drop_none hj, plL]
      show (bif (decide ((a : Int) < (a0.length : Int))) then _ else _) = _
      by_cases h1 : a < a0.length
      · rw [decide_eq_true (by omega), if_neg (by rw [drop_cons h1]; simp)]; rfl
      · rw [decide_eq_false (by omega), if_pos (drop_none h1)]; rfl
theorem prsR_loop (k : Nat) (a0 : List UInt8) (hk : 33 ≤ k) (hk2 : a0.length < k) (hl : a0.length ≤ 2000000) (x3 : ConsoleCommand) (rl : List Actorgridref41form) (wd ws : List UInt8) (lo hi : Int) (hr : rl.getD x3.Kind.toNat default = ⟨wd, ws.map rc, lo, hi⟩) (hw : ∀ p ∈ ws, Ltr p) (hws : ws.length ≤ 100) : ∀ n j (at' : Nat) c, ws.length - j < n → at' ≤ a0.length →
    (actorgridref41_Parse_loop2 k a0 rl x3 n (at' : Int) j c).bind (prsE a0.length) = some (plL lo hi (ws.drop j) (a0.drop at') at' c) := by
  intro n
  induction n with
  | zero => intro j a c h; omega
  | succ n ih =>
    intro j a c h ha
    rw [actorgridref41_Parse_loop2, hr]
    simp only [List.length_map]
    by_cases hj : j < ws.length
    · have hp := hw _ (getD_mem hj)
      rw [decide_eq_true (by omega), cond_true, drop_cons hj]
      by_cases h1 : a = a0.length
      · rw [ib_t (n := a) (z := ((a0.length : Nat) : Int)) (by omega), cond_true, drop_none (by omega : ¬ a < a0.length)]; rfl
      rw [ib_f (n := a) (z := ((a0.length : Nat) : Int)) (by omega), cond_false, ifp_pos (by omega), Int.toNat_natCast, drop_cons (by omega : a < a0.length), plL]
      by_cases h2 : a0.getD a 0 = 32
      · rw [if_neg (by simpa using h2), h2, nb_f (n := (32 : UInt8).toNat) (z := 32) rfl, cond_false, ifp_pos hj]
        have hW : W ((a : Int) + 1) = ((a + 1 : Nat) : Int) := (W_id (by omega) (by omega)).trans (by omega)
        rw [hW, ifp_pos (by omega), Int.toNat_natCast, ifp_pos (by omega), getD_map hj]
        have hdl : (a0.drop (a + 1)).length = a0.length - (a + 1) := List.length_drop
        obtain ⟨y, e1, e2, e3⟩ := part_eq k _ hp ⟨wd, ws.map rc, lo, hi⟩ (a0.drop (a + 1)) c hk (by omega) (by omega)
        have hn := partL_n (p := ws.getD j 0) (lo := lo) (hi := hi) (s := a0.drop (a + 1)) (c := c)
        generalize partL (ws.getD j 0) lo hi (a0.drop (a + 1)) c = q at *
        refine (congrArg (fun o => Option.bind o (prsE a0.length)) (bind_e e1)).trans ?_
        rw [show y.2.1 = q.1 from e2]
        by_cases h3 : q.1 = 0
        · obtain ⟨e4, e5⟩ := e3 h3
          have hn' := hn h3
          have hW2 : W (((a + 1 : Nat) : Int) + (q.2.1 : Int)) = ((a + 1 + q.2.1 : Nat) : Int) := (W_id (by omega) (by omega)).trans (by omega)
          rw [if_neg (by simpa using h3), h3, show ((0 : Int) != 0) = false from rfl, cond_false, e4, e5, hW2, ifp_pos (by omega)]
          refine (ih (j + 1) (a + 1 + q.2.1) q.2.2 (by omega) (by omega)).trans ?_
          rw [at_drop]
        · rw [if_pos h3, show (q.1 != 0) = true from by simpa using h3]; rfl
      · have h2' : (a0.getD a 0).toNat ≠ 32 := fun e => h2 (UInt8.toNat_inj.1 e)
        rw [if_pos h2, nb_t (n := (a0.getD a 0).toNat) (z := 32) (by omega)]; rfl
    · rw [decide_eq_false (by omega), cond_false, drop_none hj, plL]
      show (bif (decide ((a : Int) < (a0.length : Int))) then _ else _) = _
      by_cases h1 : a < a0.length
      · rw [decide_eq_true (by omega), if_neg (by rw [drop_cons h1]; simp)]; rfl
      · rw [decide_eq_false (by omega), if_pos (drop_none h1)]; rfl
/-! ### which kind -/
def kst (w : List UInt8) (j i : Int) : Int := if (fms.get j).word = w then j else i
def kindOf (w : List UInt8) : Int := kst w 7 (kst w 6 (kst w 5 (kst w 4 (kst w 3 (kst w 2 (kst w 1 0))))))
theorem kst_zc (w : List UInt8) (j : Nat) (i : Int) : (bif (decide ((fms.get (j : Int)).word = w)) then (some (⟨((j : Nat) : Int), (zc i).Topic, (zc i).Actor, (zc i).Method, (zc i).Number⟩ : ConsoleCommand)) else (some (zc i))) = some (zc (kst w j i)) := by
  unfold kst
  by_cases h : (fms.get (j : Int)).word = w
  · rw [decide_eq_true h, if_pos h]; rfl
  · rw [decide_eq_false h, if_neg h]; rfl
theorem k_step (k : Nat) (w : List UInt8) (n j : Nat) (i : Int) (h0 : 0 < j) (hj : j < 8) : console_Parse_loop1 k w fms (n + 1) j (zc i) = console_Parse_loop1 k w fms n (j + 1) (zc (kst w j i)) := by
  rw [console_Parse_loop1, decide_eq_true (by omega), cond_true, ifp_pos hj, decide_eq_true (by omega), Bool.true_and, kst_zc, bind_e rfl, ifp_pos (by omega)]
theorem k_all (k : Nat) (w : List UInt8) (n : Nat) : console_Parse_loop1 k w fms (n + 9) 0 (zc 0) = some (zc (kindOf w)) := by
  have h0 : console_Parse_loop1 k w fms (n + 9) 0 (zc 0) = console_Parse_loop1 k w fms (n + 8) 1 (zc 0) := by
    rw [console_Parse_loop1, decide_eq_true (by omega), cond_true, ifp_pos (by omega), decide_eq_false (by omega), Bool.false_and, cond_false, bind_e rfl, ifp_pos (by omega)]
  rw [h0, k_step k w (n + 7) 1 0 (by omega) (by omega), k_step k w (n + 6) 2 _ (by omega) (by omega), k_step k w (n + 5) 3 _ (by omega) (by omega), k_step k w (n + 4) 4 _ (by omega) (by omega), k_step k w (n + 3) 5 _ (by omega) (by omega), k_step k w (n + 2) 6 _ (by omega) (by omega), k_step k w (n + 1) 7 _ (by omega) (by omega), console_Parse_loop1, decide_eq_false (by omega), cond_false]
  rfl
theorem rfm_word (j : Nat) (h : j < 8) : (rfm.getD j default).word = (fms.get (j : Int)).word := by
  have := (fmt_ok (j : Int) (by omega)).ref
  rw [Int.toNat_natCast] at this
  rw [this]
theorem kR_step (k : Nat) (w : List UInt8) (n j : Nat) (i : Int) (hj : j < 8) : actorgridref41_Parse_loop1 k w rfm (n + 1) j (zc i) = actorgridref41_Parse_loop1 k w rfm n (j + 1) (zc (kst w j i)) := by
  have h8 : rfm.length = 8 := rfl
  rw [actorgridref41_Parse_loop1, decide_eq_true (by omega), cond_true, ifp_pos (by omega), rfm_word j hj, kst_zc, bind_e rfl, ifp_pos (by omega)]
theorem kR_all (k : Nat) (w : List UInt8) (n : Nat) : actorgridref41_Parse_loop1 k w rfm (n + 8) 1 (zc 0) = some (zc (kindOf w)) := by
  rw [kR_step k w (n + 7) 1 0 (by omega), kR_step k w (n + 6) 2 _ (by omega), kR_step k w (n + 5) 3 _ (by omega), kR_step k w (n + 4) 4 _ (by omega), kR_step k w (n + 3) 5 _ (by omega), kR_step k w (n + 2) 6 _ (by omega), kR_step k w (n + 1) 7 _ (by omega), actorgridref41_Parse_loop1, decide_eq_false (by omega), cond_false]
  rfl
theorem kst_cases (w : List UInt8) (j i : Int) : (kst w j i = j ∧ (fms.get j).word = w) ∨ kst w j i = i := by
  unfold kst
  split
  · exact .inl ⟨rfl, by assumption⟩
  · exact .inr rfl
theorem kindOf_ok (w : List UInt8) : kindOf w = 0 ∨ ((1 ≤ kindOf w ∧ kindOf w ≤ 7) ∧ (fms.get (kindOf w)).word = w) := by
  unfold kindOf
  rcases kst_cases w 7 (kst w 6 (kst w 5 (kst w 4 (kst w 3 (kst w 2 (kst w 1 0)))))) with ⟨h, e⟩ | h
  · rw [h]; exact .inr ⟨by decide, e⟩
  rw [h]
  rcases kst_cases w 6 (kst w 5 (kst w 4 (kst w 3 (kst w 2 (kst w 1 0))))) with ⟨h, e⟩ | h
  · rw [h]; exact .inr ⟨by decide, e⟩
  rw [h]
  rcases kst_cases w 5 (kst w 4 (kst w 3 (kst w 2 (kst w 1 0)))) with ⟨h, e⟩ | h
  · rw [h]; exact .inr ⟨by decide, e⟩
  rw [h]
  rcases kst_cases w 4 (kst w 3 (kst w 2 (kst w 1 0))) with ⟨h, e⟩ | h
  · rw [h]; exact .inr ⟨by decide, e⟩
  rw [h]
  rcases kst_cases w 3 (kst w 2 (kst w 1 0)) with ⟨h, e⟩ | h
  · rw [h]; exact .inr ⟨by decide, e⟩
  rw [h]
  rcases kst_cases w 2 (kst w 1 0) with ⟨h, e⟩ | h
  · rw [h]; exact .inr ⟨by decide, e⟩
  rw [h]
  rcases kst_cases w 1 0 with ⟨h, e⟩ | h
  · rw [h]; exact .inr ⟨by decide, e⟩
  rw [h]; exact .inl rfl
theorem kindOf_word (i : Int) (h : 1 ≤ i ∧ i ≤ 7) : kindOf (fms.get i).word = i ∧ ∀ c ∈ (fms.get i).word, c ≠ 32 := by
  rcases (by omega : i = 1 ∨ i = 2 ∨ i = 3 ∨ i = 4 ∨ i = 5 ∨ i = 6 ∨ i = 7) with rfl | rfl | rfl | rfl | rfl | rfl | rfl <;> decide
def parseL (s : List UInt8) : PRes :=
  if kindOf (wordL s) = 0 then (zc 0, 0, 13) else plL (fms.get (kindOf (wordL s))).min (fms.get (kindOf (wordL s))).max (fms.get (kindOf (wordL s))).words (s.drop (wordL s).length) (wordL s).length (zc (kindOf (wordL s)))
theorem parse_eq (k : Nat) (s : List UInt8) (hk : 33 ≤ k) (hk2 : s.length < k) (hl : s.length ≤ 2000000) : console_Parse k s = some (parseL s) := by
  unfold console_Parse parseL
  have hw := wordL_le s
  obtain ⟨q, hq⟩ : ∃ q, k = q + 9 := ⟨k - 9, by omega⟩
  have hka : console_Parse_loop1 k (wordL s) fms k 0 (zc 0) = some (zc (kindOf (wordL s))) := by
    have := k_all k (wordL s) q
    rwa [← hq] at this
  rw [word_eq k s (by omega), bind_e rfl, fms_eq, bind_e rfl]
  refine (bind_e hka).trans ?_
  rcases kindOf_ok (wordL s) with h0 | ⟨h1, h2⟩
  · rw [h0, if_pos rfl]; rfl
  · have F := fmt_ok (kindOf (wordL s)) (by omega)
    have := F.len
    rw [if_neg (by omega), show ((zc (kindOf (wordL s))).Kind == 0) = false from beq_false_of_ne (by show kindOf (wordL s) ≠ 0; omega), cond_false, bind_e rfl, ifp_pos (by show 0 ≤ kindOf (wordL s) ∧ kindOf (wordL s) < 8; omega)]
    exact prs_loop k s hk hk2 hl (zc (kindOf (wordL s))) fms F.ltr k 0 _ _ (by show (fms.get (kindOf (wordL s))).words.length - 0 < k; omega) hw
theorem parseR_eq (k : Nat) (s : List UInt8) (hk : 33 ≤ k) (hk2 : s.length < k) (hl : s.length ≤ 2000000) : actorgridref41_Parse k s = some (parseL s) := by
  unfold actorgridref41_Parse parseL
  have hw := wordL_le s
  obtain ⟨q, hq⟩ : ∃ q, k = q + 8 := ⟨k - 8, by omega⟩
  have hka : actorgridref41_Parse_loop1 k (wordL s) rfm k 1 (zc 0) = some (zc (kindOf (wordL s))) := by
    have := kR_all k (wordL s) q
    rwa [← hq] at this
  rw [wordR_eq k s (by omega) hk2, bind_e rfl, rfm_eq, bind_e rfl]
  refine (bind_e hka).trans ?_
  rcases kindOf_ok (wordL s) with h0 | ⟨h1, h2⟩
  · rw [h0, if_pos rfl]; rfl
  · have F := fmt_ok (kindOf (wordL s)) (by omega)
    have := F.len
    have h8 : ((rfm.length : Nat) : Int) = 8 := rfl
    rw [if_neg (by omega), show ((zc (kindOf (wordL s))).Kind == 0) = false from beq_false_of_ne (by show kindOf (wordL s) ≠ 0; omega), cond_false, ifp_pos (by show 0 ≤ kindOf (wordL s) ∧ kindOf (wordL s) < _; omega)]
    exact prsR_loop k s hk hk2 hl (zc (kindOf (wordL s))) rfm _ _ _ _ F.ref F.ltr (by omega) k 0 _ _ (by omega) hw
end Md
end Go.Proofs.YtjpiiejdaiaocaaDoor
