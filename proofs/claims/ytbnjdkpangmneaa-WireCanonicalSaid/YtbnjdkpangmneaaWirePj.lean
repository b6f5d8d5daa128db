/-
  Layer 1 in plain words: what is read is written so and not otherwise. Conditions: sizes.
-/
import Derived.Test.YtbnjdkpangmneaaWirePi
namespace Go.Proofs.Ytbnjdkpangmneaa
set_option linter.unusedVariables false
set_option linter.unusedSimpArgs false
namespace Md
theorem pow7_lt {i : Nat} (h : i ≤ 8) : 2 ^ (7 * i) * 128 ≤ 2 ^ 63 := by
  rw [← pow7]
  exact Nat.pow_le_pow_right (by decide) (by omega)
theorem lay_fit (a : UInt64) (c : UInt8) (i : Nat) (hi : i ≤ 9) (h9 : i = 9 → c.toNat ≤ 1) (ha : a.toNat < 2 ^ (7 * i)) : (lay a c i).toNat = a.toNat + c.toNat % 128 * 2 ^ (7 * i) ∧ a.toNat + c.toNat % 128 * 2 ^ (7 * i) < 2 ^ (7 * i) * 128 := by
  have h1 : c.toNat % 128 * 2 ^ (7 * i) ≤ 127 * 2 ^ (7 * i) := Nat.mul_le_mul_right _ (by omega)
  refine ⟨lay_nat a c i ha (by omega) ?_, by omega⟩
  by_cases h : i = 9
  · subst h
    have h2 : c.toNat % 128 * 2 ^ (7 * 9) ≤ 1 * 2 ^ (7 * 9) := Nat.mul_le_mul_right _ (by have := h9 rfl; omega)
    have : (2 : Nat) ^ (7 * 9) = 2 ^ 63 := rfl
    omega
  · have := pow7_lt (i := i) (by omega)
    omega
theorem go_can : ∀ (b : List UInt8) (i : Nat) (a : UInt64), i ≤ 9 → a.toNat < 2 ^ (7 * i) → (go b i a).2.2 = 0 →
    ∃ u p : Nat, (0 < i → 0 < u) ∧ (go b i a).2.1 = ((i + p : Nat) : Int) ∧ 0 < p ∧ p ≤ b.length ∧ b.take p = enc u ∧ (go b i a).1.toNat = a.toNat + u * 2 ^ (7 * i)
  | [], i, a, _, _, h => absurd h (show ¬ (2 : Int) = 0 by decide)
  | c :: r, i, a, hi, ha, h => by
    have hc := c.toNat_lt
    unfold go at h ⊢
    by_cases h1 : (i = 9 ∧ 1 < c.toNat) ∨ (0 < i ∧ c.toNat = 0)
    · rw [if_pos h1] at h
      exact absurd h (show ¬ (3 : Int) = 0 by decide)
    rw [if_neg h1] at h ⊢
    obtain ⟨l1, l2⟩ := lay_fit a c i hi (by omega) ha
    by_cases h2 : c.toNat < 128
    · rw [if_pos h2]
      refine ⟨c.toNat, 1, by omega, rfl, by omega, by simp, ?_, ?_⟩
      · rw [enc_lt h2]
        show [c] = _
        rw [UInt8.ofNat_toNat]
      · show (lay a c i).toNat = _
        rw [l1, Nat.mod_eq_of_lt h2]
    · rw [if_neg h2] at h ⊢
      obtain ⟨u, p, q1, q2, q3, q4, q5, q6⟩ := go_can r (i + 1) (lay a c i) (by omega) (by rw [l1, pow7]; exact l2) h
      have hu := q1 (by omega)
      have hm : (c.toNat % 128 + 128 * u) % 128 = c.toNat % 128 := by omega
      have hd : (c.toNat % 128 + 128 * u) / 128 = u := by omega
      refine ⟨c.toNat % 128 + 128 * u, p + 1, by omega, by rw [q2]; congr 1; omega, by omega, by rw [List.length_cons]; omega, ?_, ?_⟩
      · rw [enc_ge (by omega), hm, hd, List.take_succ_cons, q5]
        congr 1
        apply UInt8.toNat_inj.1
        rw [UInt8.toNat_ofNat']
        omega
      · rw [q6, l1, pow7]
        have := parts (c.toNat % 128 + 128 * u) (2 ^ (7 * i))
        rw [hm, hd] at this
        omega
def Can {α : Type} (rd : List UInt8 → α × Int × Int) (f : α → List UInt8) (ok : α → Prop) : Prop :=
  ∀ b, (rd b).2.2 = 0 → ∃ n : Nat, (rd b).2.1 = (n : Int) ∧ 0 < n ∧ n ≤ b.length ∧ b.take n = f (rd b).1 ∧ ok (rd b).1
theorem can_U : Can readU (fun u => enc u.toNat) (fun _ => True) := fun b h => by
  obtain ⟨u, p, _, q2, q3, q4, q5, q6⟩ := go_can b 0 0 (by omega) (by decide) h
  refine ⟨p, ?_, q3, q4, ?_, trivial⟩
  · show (go b 0 0).2.1 = _
    rw [q2, Nat.zero_add]
  · show _ = enc (go b 0 0).1.toNat
    rw [q5, q6]
    simp
theorem zz_uz (u : UInt64) : zz (uz u) = u := by
  have hu := u.toNat_lt
  apply UInt64.toNat_inj.1
  unfold uz zz
  by_cases h : u.toNat % 2 = 1
  · rw [if_pos h, if_pos (by omega), UInt64.toNat_ofNat']; omega
  · rw [if_neg h, if_neg (by omega), UInt64.toNat_ofNat']; omega
theorem uz_I64 (u : UInt64) : I64 (uz u) := by
  have hu := u.toNat_lt
  unfold I64 uz
  split <;> omega
theorem can_I : Can readI encI I64 := fun b h => by
  obtain ⟨n, h1, h2, h3, h4, _⟩ := can_U b h
  refine ⟨n, h1, h2, h3, ?_, uz_I64 _⟩
  show _ = enc (zz (uz (readU b).1)).toNat
  rw [zz_uz]
  exact h4
theorem can_len (b : List UInt8) (max : Int) (h : (readLen b max).2.2 = 0) : ∃ u n : Nat, readLen b max = ((u : Int), (n : Int), 0) ∧ 0 < n ∧ n ≤ b.length ∧ (u : Int) ≤ max ∧ b.take n = enc u := by
  rcases readLen_ok b max with ⟨h1, _⟩ | ⟨_, u, n, h2, h3, h4, h5, h6⟩
  · exact absurd h h1
  · refine ⟨u, n, h2, h3, h4, h5, ?_⟩
    have hz : (readU b).2.2 = 0 := by
      unfold readLen at h
      split at h
      · exact absurd h (by decide)
      · split at h
        · exact h
        · rename_i h7 h8; exact Decidable.not_not.1 h8
    have hn : (readU b).2.1 = (n : Int) := by
      unfold readLen at h2
      rw [if_neg (by omega), if_neg (by simp [hz])] at h2
      split at h2
      · have := congrArg (fun x : Int × Int × Int => x.2.2) h2
        exact absurd this (show ¬ (5 : Int) = 0 by decide)
      · exact congrArg (fun x : Int × Int × Int => x.2.1) h2
    obtain ⟨m, g1, g2, g3, g4, _⟩ := can_U b hz
    have : m = n := by omega
    subst this
    rw [g4, h6]
theorem can_S (max : Int) : Can (fun b => readS b max) encS (fun s => (s.length : Int) ≤ max) := fun b h => by
  have h : (readS b max).2.2 = 0 := h
  show ∃ n : Nat, (readS b max).2.1 = (n : Int) ∧ _
  have hz : (readLen b max).2.2 = 0 := by
    unfold readS at h
    split at h
    · exact h
    · rename_i h1; exact Decidable.not_not.1 h1
  obtain ⟨u, n, h1, h2, h3, h4, h5⟩ := can_len b max hz
  have hr : readS b max = ((b.drop n).take u, ((n + u : Nat) : Int), 0) ∧ n + u ≤ b.length := by
    unfold readS at h ⊢
    rw [h1] at h ⊢
    dsimp only at h ⊢
    rw [if_neg (by decide)] at h ⊢
    by_cases h6 : (b.length : Int) - n < u
    · rw [if_pos h6] at h
      exact absurd h (show ¬ (2 : Int) = 0 by decide)
    · rw [if_neg h6, Int.toNat_natCast, Int.toNat_natCast]
      exact ⟨rfl, by omega⟩
  obtain ⟨hr, hl⟩ := hr
  have hlen : ((b.drop n).take u).length = u := by rw [List.length_take, List.length_drop]; omega
  refine ⟨n + u, by rw [hr], by omega, hl, ?_, ?_⟩
  · show _ = encS (readS b max).1
    rw [hr, List.take_add, h5]
    unfold encS
    rw [hlen]
  · show ((readS b max).1.length : Int) ≤ max
    rw [hr]
    show (((b.drop n).take u).length : Int) ≤ max
    rw [hlen]
    exact h4
theorem can_N {α : Type} (rd : List UInt8 → α × Int × Int) (f : α → List UInt8) (ok : α → Prop) (hc : Can rd f ok) (b : List UInt8) : ∀ (c p : Nat) (acc : List α), p ≤ b.length → (readN rd b c p acc).2.2 = 0 →
    ∃ (l : List α) (n : Nat), readN rd b c p acc = (acc ++ l, (n : Int), 0) ∧ l.length = c ∧ p ≤ n ∧ n ≤ b.length ∧ b.take n = b.take p ++ l.flatMap f ∧ ∀ y ∈ l, ok y := by
  intro c
  induction c with
  | zero =>
    intro p acc hp h
    exact ⟨[], p, by simp [readN], rfl, Nat.le_refl _, hp, by simp, by simp⟩
  | succ c ih =>
    intro p acc hp h
    unfold readN at h ⊢
    by_cases h1 : (rd (b.drop p)).2.2 = 0
    · obtain ⟨m, g1, g2, g3, g4, g5⟩ := hc _ h1
      rw [List.length_drop] at g3
      rw [if_neg (by simp [h1])] at h ⊢
      rw [g1, Int.toNat_natCast] at h ⊢
      obtain ⟨l, n, k1, k2, k3, k4, k5, k6⟩ := ih (p + m) _ (by omega) h
      refine ⟨(rd (b.drop p)).1 :: l, n, by rw [k1, List.append_assoc]; rfl, by rw [List.length_cons, k2], by omega, k4, ?_, ?_⟩
      · rw [k5, List.take_add, g4, List.flatMap_cons, List.append_assoc]
      · intro y hy
        rcases List.mem_cons.1 hy with rfl | hy
        · exact g5
        · exact k6 y hy
    · rw [if_pos h1] at h
      exact absurd h h1
theorem can_L {α : Type} (rd : List UInt8 → α × Int × Int) (f : α → List UInt8) (ok : α → Prop) (hc : Can rd f ok) (max : Int) : Can (fun b => readL rd b max) (encL f) (fun l => (l.length : Int) ≤ max ∧ ∀ y ∈ l, ok y) := fun b h => by
  have h : (readL rd b max).2.2 = 0 := h
  show ∃ n : Nat, (readL rd b max).2.1 = (n : Int) ∧ 0 < n ∧ n ≤ b.length ∧ b.take n = encL f (readL rd b max).1 ∧ (((readL rd b max).1.length : Int) ≤ max ∧ ∀ y ∈ (readL rd b max).1, ok y)
  have hz : (readLen b max).2.2 = 0 := by
    unfold readL at h
    split at h
    · exact h
    · rename_i h1; exact Decidable.not_not.1 h1
  obtain ⟨u, n, h1, h2, h3, h4, h5⟩ := can_len b max hz
  unfold readL at h ⊢
  rw [h1] at h ⊢
  dsimp only at h ⊢
  rw [if_neg (by decide), Int.toNat_natCast, Int.toNat_natCast] at h ⊢
  obtain ⟨l, m, k1, k2, k3, k4, k5, k6⟩ := can_N rd f ok hc b u n [] h3 h
  rw [k1, List.nil_append]
  refine ⟨m, rfl, by omega, k4, ?_, by show ((l.length : Nat) : Int) ≤ max; omega, k6⟩
  rw [k5, h5]
  unfold encL
  rw [k2]
theorem rdV_zero {e n : Int} {v : Value} (h : (rdV e n v).2.2 = 0) : e = 0 ∧ rdV e n v = (v, W (n + 1), 0) := by
  unfold rdV at h ⊢
  by_cases h1 : e = 0
  · rw [if_pos h1]; exact ⟨h1, rfl⟩
  · rw [if_neg h1] at h; exact absurd h h1
theorem val_step {α : Type} (rd : List UInt8 → α × Int × Int) (f : α → List UInt8) (ok : α → Prop) (hc : Can rd f ok) (mk : α → Value) (b : List UInt8) (hb : b.length ≤ 4000000) (hb0 : b.length ≠ 0) (t : Nat) (ht : (b.getD 0 default).toNat = t)
    (hm : ∀ x, ok x → okV (mk x) ∧ (mk x).ok ∧ encV (mk x) = .ofNat t :: f x) (h : (rdV (rd (b.drop 1)).2.2 (rd (b.drop 1)).2.1 (mk (rd (b.drop 1)).1)).2.2 = 0) :
    ∃ n : Nat, (rdV (rd (b.drop 1)).2.2 (rd (b.drop 1)).2.1 (mk (rd (b.drop 1)).1)).2.1 = (n : Int) ∧ 0 < n ∧ n ≤ b.length ∧ b.take n = encV (rdV (rd (b.drop 1)).2.2 (rd (b.drop 1)).2.1 (mk (rd (b.drop 1)).1)).1 ∧ okV (rdV (rd (b.drop 1)).2.2 (rd (b.drop 1)).2.1 (mk (rd (b.drop 1)).1)).1 ∧ (rdV (rd (b.drop 1)).2.2 (rd (b.drop 1)).2.1 (mk (rd (b.drop 1)).1)).1.ok := by
  obtain ⟨h1, h2⟩ := rdV_zero h
  obtain ⟨n, g1, g2, g3, g4, g5⟩ := hc _ h1
  obtain ⟨m1, m2, m3⟩ := hm _ g5
  rw [List.length_drop] at g3
  rw [h2]
  refine ⟨n + 1, ?_, by omega, by omega, ?_, m1, m2⟩
  · show W ((rd (b.drop 1)).2.1 + 1) = _
    rw [g1, W_id (by omega) (by omega)]
    omega
  · show _ = encV (mk _)
    rw [m3, ← g4, ← ht, UInt8.ofNat_toNat]
    cases b with
    | nil => exact absurd rfl hb0
    | cons x l => rfl
theorem can_B : Can readB (fun n => [UInt8.ofInt n]) (fun n => n = 0 ∨ n = 1) := fun b h => by
  unfold readB at h ⊢
  by_cases h1 : b.length = 0
  · rw [if_pos h1] at h; exact absurd h (show ¬ (2 : Int) = 0 by decide)
  rw [if_neg h1] at h ⊢
  by_cases h2 : 1 < (b.getD 0 default).toNat
  · rw [if_pos h2] at h; exact absurd h (show ¬ (3 : Int) = 0 by decide)
  rw [if_neg h2] at h ⊢
  cases b with
  | nil => exact absurd rfl h1
  | cons x l =>
    have h3 : ¬ 1 < x.toNat := h2
    refine ⟨1, rfl, by omega, by simp, ?_, ?_⟩
    · show [x] = [UInt8.ofInt ((x.toNat : Nat) : Int)]
      congr 1
      apply UInt8.toNat_inj.1
      show x.toNat = (UInt8.ofNat (((x.toNat : Nat) : Int) % 2 ^ 8).toNat).toNat
      rw [UInt8.toNat_ofNat']
      omega
    · show ((x.toNat : Nat) : Int) = 0 ∨ ((x.toNat : Nat) : Int) = 1
      omega
theorem can_V (b : List UInt8) (hb : b.length ≤ 4000000) (h : (readV b).2.2 = 0) : ∃ n : Nat, (readV b).2.1 = (n : Int) ∧ 0 < n ∧ n ≤ b.length ∧ b.take n = encV (readV b).1 ∧ okV (readV b).1 ∧ (readV b).1.ok := by
  unfold readV at h ⊢
  by_cases h0 : b.length = 0
  · rw [if_pos h0] at h; exact absurd h (show ¬ (2 : Int) = 0 by decide)
  rw [if_neg h0] at h ⊢
  generalize ht : (b.getD 0 default).toNat = t at h ⊢
  by_cases t0 : t = 0
  · rw [if_pos t0] at h ⊢
    refine ⟨1, rfl, by omega, by omega, ?_, by decide, ?_⟩
    · cases b with
      | nil => exact absurd rfl h0
      | cons x l =>
        have : x.toNat = 0 := ht.trans t0
        have : x = 0 := UInt8.toNat_inj.1 this
        subst this
        rfl
    · exact ⟨⟨by decide, by decide⟩, ⟨by decide, by decide⟩, fun y hy => by cases hy⟩
  rw [if_neg t0] at h ⊢
  by_cases t1 : t = 1
  · rw [if_pos t1] at h ⊢
    refine val_step readI encI I64 can_I (fun x => ⟨1, x, [], [], []⟩) b hb h0 1 (ht.trans t1) (fun x hx => ⟨?_, ?_, rfl⟩) h
    · exact ⟨by show (0 : Int) ≤ 1; decide, by show (1 : Int) ≤ 5; decide, .inr (.inl rfl), .inl rfl, .inl rfl, .inl rfl, by simp, by simp, by simp, fun y hy => by cases hy⟩
    · exact ⟨⟨by show (_ : Int) ≤ 1; decide, by show (1 : Int) ≤ _; decide⟩, hx, fun y hy => by cases hy⟩
  rw [if_neg t1] at h ⊢
  by_cases t2 : t = 2
  · rw [if_pos t2] at h ⊢
    refine val_step readB _ _ can_B (fun x => ⟨2, x, [], [], []⟩) b hb h0 2 (ht.trans t2) (fun x hx => ⟨?_, ?_, rfl⟩) h
    · rcases hx with rfl | rfl <;> decide
    · exact ⟨⟨by show (_ : Int) ≤ 2; decide, by show (2 : Int) ≤ _; decide⟩, by rcases hx with rfl | rfl <;> exact ⟨by decide, by decide⟩, fun y hy => by cases hy⟩
  rw [if_neg t2] at h ⊢
  by_cases t3 : t = 3
  · rw [if_pos t3] at h ⊢
    refine val_step (fun b => readS b 64) encS _ (can_S 64) (fun x => ⟨3, 0, x, [], []⟩) b hb h0 3 (ht.trans t3) (fun x hx => ⟨?_, ?_, rfl⟩) h
    · exact ⟨by show (0 : Int) ≤ 3; decide, by show (3 : Int) ≤ 5; decide, .inl rfl, .inr rfl, .inl rfl, .inl rfl, by show x.length ≤ 64; omega, by simp, by simp, fun y hy => by cases hy⟩
    · exact ⟨⟨by show (_ : Int) ≤ 3; decide, by show (3 : Int) ≤ _; decide⟩, ⟨by show (_ : Int) ≤ 0; decide, by show (0 : Int) ≤ _; decide⟩, fun y hy => by cases hy⟩
  rw [if_neg t3] at h ⊢
  by_cases t4 : t = 4
  · rw [if_pos t4] at h ⊢
    refine val_step (fun b => readL readI b 16) (encL encI) _ (can_L readI encI I64 can_I 16) (fun x => ⟨4, 0, [], x, []⟩) b hb h0 4 (ht.trans t4) (fun x hx => ⟨?_, ?_, rfl⟩) h
    · exact ⟨by show (0 : Int) ≤ 4; decide, by show (4 : Int) ≤ 5; decide, .inl rfl, .inl rfl, .inr rfl, .inl rfl, by simp, by show x.length ≤ 16; have := hx.1; omega, by simp, fun y hy => by cases hy⟩
    · exact ⟨⟨by show (_ : Int) ≤ 4; decide, by show (4 : Int) ≤ _; decide⟩, ⟨by show (_ : Int) ≤ 0; decide, by show (0 : Int) ≤ _; decide⟩, hx.2⟩
  rw [if_neg t4] at h ⊢
  by_cases t5 : t = 5
  · rw [if_pos t5] at h ⊢
    refine val_step (fun b => readL (fun b => readS b 64) b 16) (encL encS) _ (can_L (fun b => readS b 64) encS _ (can_S 64) 16) (fun x => ⟨5, 0, [], [], x⟩) b hb h0 5 (ht.trans t5) (fun x hx => ⟨?_, ?_, rfl⟩) h
    · exact ⟨by show (0 : Int) ≤ 5; decide, by show (5 : Int) ≤ 5; decide, .inl rfl, .inl rfl, .inl rfl, .inr rfl, by simp, by simp, by show x.length ≤ 16; have := hx.1; omega, fun y hy => by have := hx.2 y hy; omega⟩
    · exact ⟨⟨by show (_ : Int) ≤ 5; decide, by show (5 : Int) ≤ _; decide⟩, ⟨by show (_ : Int) ≤ 0; decide, by show (0 : Int) ≤ _; decide⟩, fun y hy => by cases hy⟩
  rw [if_neg t5] at h
  exact absurd h (show ¬ (3 : Int) = 0 by decide)
theorem can_open (b : List UInt8) (hb : b.length ≤ 4000000) (h : (openF b).2.2.2 = 0) : ∃ n : Nat, (openF b).2.2.1 = (n : Int) ∧ n ≤ b.length ∧ sealF (openF b).1 (openF b).2.1 = (b.take n, 0) ∧ (openF b).2.1.length ≤ b.length := by
  unfold openF at h ⊢
  by_cases h0 : b.length < 3
  · rw [if_pos h0] at h; exact absurd h (show ¬ (2 : Int) = 0 by decide)
  rw [if_neg h0] at h ⊢
  by_cases h1 : (b.getD 0 default).toNat ≠ 65 ∨ (b.getD 1 default).toNat ≠ 71 ∨ (b.getD 2 default).toNat = 0
  · rw [if_pos h1] at h; exact absurd h (show ¬ (3 : Int) = 0 by decide)
  rw [if_neg h1] at h ⊢
  by_cases h2 : (readU (b.drop 3)).2.2 = 0
  · obtain ⟨n, g1, g2, g3, g4, _⟩ := can_U _ h2
    rw [List.length_drop] at g3
    rw [if_neg (by simp [h2])] at h ⊢
    have g4 : (b.drop 3).take n = enc (readU (b.drop 3)).1.toNat := g4
    generalize (readU (b.drop 3)).1.toNat = u at h g4 ⊢
    by_cases h3 : 16777216 < u
    · rw [if_pos h3] at h; exact absurd h (show ¬ (5 : Int) = 0 by decide)
    rw [if_neg h3, g1, Int.toNat_natCast] at h ⊢
    unfold openAt at h ⊢
    by_cases h4 : b.length < 3 + n + u + 4
    · rw [if_pos h4] at h; exact absurd h (show ¬ (2 : Int) = 0 by decide)
    rw [if_neg h4] at h ⊢
    by_cases h5 : low (crc (b.take (3 + n + u))) = (b.drop (3 + n + u)).take 4
    · rw [if_pos h5] at h ⊢
      have hl : ((b.drop (3 + n)).take u).length = u := by rw [List.length_take, List.length_drop]; omega
      have ht : b.take (3 + n + u) = [65, 71, b.getD 2 default] ++ enc u ++ (b.drop (3 + n)).take u := by
        rw [List.take_add, List.take_add, g4]
        congr 2
        rcases b with _ | ⟨x, _ | ⟨y, _ | ⟨z, r⟩⟩⟩
        · exact absurd (by simp) h0
        · exact absurd (by simp) h0
        · exact absurd (by simp) h0
        · have hx : x.toNat = 65 := Decidable.not_not.1 fun q => h1 (.inl q)
          have hy : y.toNat = 71 := Decidable.not_not.1 fun q => h1 (.inr (.inl q))
          have : x = 65 := UInt8.toNat_inj.1 hx
          have : y = 71 := UInt8.toNat_inj.1 hy
          subst x y
          rfl
      refine ⟨3 + n + u + 4, rfl, by omega, ?_, by show ((b.drop (3 + n)).take u).length ≤ _; omega⟩
      have hk := (b.getD 2 default).toNat_lt
      have hk0 : (b.getD 2 default).toNat ≠ 0 := fun q => h1 (.inr (.inr q))
      unfold sealF
      rw [if_neg (by rw [hl]; omega)]
      have hko : UInt8.ofInt (((b.getD 2 default).toNat : Nat) : Int) = b.getD 2 default := by
        apply UInt8.toNat_inj.1
        show (UInt8.ofNat ((((b.getD 2 default).toNat : Nat) : Int) % 2 ^ 8).toNat).toNat = _
        rw [UInt8.toNat_ofNat']
        omega
      rw [hko, List.take_add, ← h5, ht]
      unfold frame
      rw [hl]
    · rw [if_neg h5] at h; exact absurd h (show ¬ (4 : Int) = 0 by decide)
  · rw [if_pos h2] at h; exact absurd h h2
end Md
end Go.Proofs.Ytbnjdkpangmneaa
