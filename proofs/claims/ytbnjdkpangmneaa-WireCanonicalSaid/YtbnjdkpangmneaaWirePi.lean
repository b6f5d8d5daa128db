/-
  Layer 1 in plain words: what was written is read, and what was cut short is seen. Conditions: sizes.
-/
import Derived.Test.YtbnjdkpangmneaaWirePh
namespace Go.Proofs.Ytbnjdkpangmneaa
set_option linter.unusedVariables false
set_option linter.unusedSimpArgs false
namespace Md
theorem lay_nat (a : UInt64) (c : UInt8) (i : Nat) (h1 : a.toNat < 2 ^ (7 * i)) (h2 : 7 * i ≤ 64) (h3 : a.toNat + c.toNat % 128 * 2 ^ (7 * i) < 2 ^ 64) : (lay a c i).toNat = a.toNat + c.toNat % 128 * 2 ^ (7 * i) := by
  unfold lay
  have e : (c &&& 127).toUInt64.toNat = c.toNat % 128 := by rw [and_mod', UInt8.toNat_toUInt64, UInt8.toNat_mod]; rfl
  rw [UInt64.toNat_or, shl64_nat, e, Nat.min_eq_left h2, Nat.mod_eq_of_lt (by omega), Nat.mul_comm, Nat.or_comm, ← Nat.two_pow_add_eq_or_of_lt h1, Nat.add_comm]
theorem parts (u P : Nat) : u % 128 * P + u / 128 * (P * 128) = u * P := by
  have h := Nat.div_add_mod u 128
  calc u % 128 * P + u / 128 * (P * 128) = (128 * (u / 128) + u % 128) * P := by rw [Nat.add_mul, Nat.add_comm, Nat.mul_comm P 128, ← Nat.mul_assoc, Nat.mul_comm (u / 128) 128]
    _ = u * P := by rw [h]
theorem pow7 (i : Nat) : 2 ^ (7 * (i + 1)) = 2 ^ (7 * i) * 128 := by rw [Nat.mul_add, Nat.pow_add]
theorem pow7_le {i u a : Nat} (h : a + u * 2 ^ (7 * i) < 2 ^ 64) (hu : 0 < i → 0 < u) : i ≤ 9 ∧ (i = 9 → u ≤ 1) := by
  by_cases h0 : i = 0
  · subst h0; omega
  have hu := hu (by omega)
  have h2 : 1 * 2 ^ (7 * i) ≤ u * 2 ^ (7 * i) := Nat.mul_le_mul_right _ hu
  constructor
  · by_cases h9 : i ≤ 9
    · exact h9
    · have : (2 : Nat) ^ (7 * 10) ≤ 2 ^ (7 * i) := Nat.pow_le_pow_right (by decide) (by omega)
      have : (2 : Nat) ^ 64 ≤ 2 ^ (7 * 10) := by decide
      omega
  · intro h9
    subst h9
    have : (2 : Nat) ^ (7 * 9) * 2 = 2 ^ 64 := by decide
    by_cases h1 : u ≤ 1
    · exact h1
    · have : 2 * 2 ^ (7 * 9) ≤ u * 2 ^ (7 * 9) := Nat.mul_le_mul_right _ (by omega)
      omega
theorem go_enc (z : List UInt8) : ∀ (n u : Nat), u ≤ n → ∀ (i : Nat) (a : UInt64), a.toNat < 2 ^ (7 * i) → a.toNat + u * 2 ^ (7 * i) < 2 ^ 64 → (0 < i → 0 < u) →
    go (enc u ++ z) i a = (UInt64.ofNat (a.toNat + u * 2 ^ (7 * i)), ((i + (enc u).length : Nat) : Int), 0) := by
  intro n
  induction n with
  | zero =>
    intro u hu i a h1 h2 h3
    have : u = 0 := by omega
    subst this
    have : i = 0 := by omega
    subst this
    have h0 : a = 0 := UInt64.toNat_inj.1 (by simp at h1; simp [h1])
    subst h0
    rw [enc_lt (by omega)]
    rfl
  | succ n ih =>
    intro u hu i a h1 h2 h3
    obtain ⟨h4, h5⟩ := pow7_le h2 h3
    by_cases h : u < 128
    · have hc : (UInt8.ofNat u).toNat = u := by rw [UInt8.toNat_ofNat']; omega
      rw [enc_lt h, List.singleton_append]
      unfold go
      rw [if_neg (by rw [hc]; omega), if_pos (by rw [hc]; omega)]
      refine Prod.ext (UInt64.toNat_inj.1 ?_) rfl
      show (lay a _ i).toNat = _
      rw [lay_nat a _ i h1 (by omega) (by rw [hc, Nat.mod_eq_of_lt (by omega)]; exact h2), hc, Nat.mod_eq_of_lt (by omega), UInt64.toNat_ofNat', Nat.mod_eq_of_lt h2]
    · have hc : (UInt8.ofNat (u % 128 + 128)).toNat = u % 128 + 128 := by rw [UInt8.toNat_ofNat']; omega
      have hp := parts u (2 ^ (7 * i))
      have hl := lay_nat a (UInt8.ofNat (u % 128 + 128)) i h1 (by omega) (by rw [hc, show (u % 128 + 128) % 128 = u % 128 by omega]; omega)
      rw [hc, show (u % 128 + 128) % 128 = u % 128 by omega] at hl
      rw [enc_ge (by omega), List.cons_append]
      unfold go
      rw [if_neg (by rw [hc]; omega), if_neg (by rw [hc]; omega)]
      have hlt : a.toNat + u % 128 * 2 ^ (7 * i) < 2 ^ (7 * i) * 128 := by
        have : u % 128 * 2 ^ (7 * i) ≤ 127 * 2 ^ (7 * i) := Nat.mul_le_mul_right _ (by omega)
        omega
      rw [ih (u / 128) (by omega) (i + 1) _ (by rw [hl, pow7]; exact hlt) (by rw [hl, pow7]; omega) (by omega), hl, pow7, Nat.add_assoc, hp]
      congr 2
      rw [List.length_cons]
      omega
theorem go_cut : ∀ (n u : Nat), u ≤ n → ∀ (i : Nat) (a : UInt64) (j : Nat), i + (enc u).length ≤ 10 → j < (enc u).length → go ((enc u).take j) i a = (0, 0, 2) := by
  intro n
  induction n with
  | zero =>
    intro u hu i a j h1 h2
    rw [enc_lt (by omega)] at h2
    simp at h2
    subst h2
    rfl
  | succ n ih =>
    intro u hu i a j h1 h2
    by_cases h : u < 128
    · rw [enc_lt h] at h2
      simp at h2
      subst h2
      rfl
    · have hc : (UInt8.ofNat (u % 128 + 128)).toNat = u % 128 + 128 := by rw [UInt8.toNat_ofNat']; omega
      rw [enc_ge (by omega)] at h1 h2 ⊢
      rw [List.length_cons] at h1 h2
      have := enc_pos (u / 128)
      cases j with
      | zero => rfl
      | succ j =>
        rw [List.take_succ_cons]
        unfold go
        rw [if_neg (by rw [hc]; omega), if_neg (by rw [hc]; omega)]
        exact ih (u / 128) (by omega) (i + 1) _ j (by omega) (by omega)
theorem readU_enc (v : UInt64) (z : List UInt8) : readU (enc v.toNat ++ z) = (v, ((enc v.toNat).length : Int), 0) := by
  have hv := v.toNat_lt
  unfold readU
  rw [go_enc z v.toNat v.toNat (Nat.le_refl _) 0 0 (by decide) (by simp; omega) (by omega)]
  simp
theorem readU_nat {n : Nat} (h : n ≤ 4000000) (z : List UInt8) : readU (enc n ++ z) = (UInt64.ofNat n, ((enc n).length : Int), 0) := by
  have := readU_enc (UInt64.ofNat n) z
  rwa [ofNat_len h] at this
theorem readU_cut (v : UInt64) (j : Nat) (h : j < (enc v.toNat).length) : readU ((enc v.toNat).take j) = (0, 0, 2) :=
  go_cut v.toNat v.toNat (Nat.le_refl _) 0 0 j (by have := enc_len10 v; omega) h
theorem readU_cutn {n : Nat} (hn : n ≤ 4000000) (j : Nat) (h : j < (enc n).length) : readU ((enc n).take j) = (0, 0, 2) := by
  have := readU_cut (UInt64.ofNat n) j
  rw [ofNat_len hn] at this
  exact this h
theorem uz_zz (v : Int) (h : I64 v) : uz (zz v) = v := by
  obtain ⟨h1, h2⟩ := h
  unfold uz zz
  by_cases h : v < 0
  · rw [if_pos h, UInt64.toNat_ofNat']
    split <;> omega
  · rw [if_neg h, UInt64.toNat_ofNat']
    split <;> omega
def Inv {α : Type} (rd : List UInt8 → α × Int × Int) (f : α → List UInt8) (y : α) : Prop := ∀ z, rd (f y ++ z) = (y, ((f y).length : Int), 0)
def Cut {α : Type} (rd : List UInt8 → α × Int × Int) (f : α → List UInt8) (y : α) : Prop := ∀ j, j < (f y).length → (rd ((f y).take j)).2 = (0, 2)
theorem inv_I (v : Int) (h : I64 v) : Inv readI encI v := fun z => by
  unfold readI encI
  rw [readU_enc]
  show (uz (zz v), _, _) = _
  rw [uz_zz v h]
theorem cut_I (v : Int) : Cut readI encI v := fun j h => by
  unfold readI encI
  rw [readU_cut _ j h]
theorem readLen_enc {n : Nat} (h : n ≤ 4000000) (max : Int) (hm : (n : Int) ≤ max) (z : List UInt8) : readLen (enc n ++ z) max = ((n : Int), ((enc n).length : Int), 0) := by
  unfold readLen
  rw [if_neg (by omega), readU_nat h]
  dsimp only
  rw [if_neg (by decide), ofNat_len h, if_neg (by omega)]
theorem readLen_cut {n : Nat} (hn : n ≤ 4000000) (max : Int) (hm : (n : Int) ≤ max) (j : Nat) (h : j < (enc n).length) : readLen ((enc n).take j) max = (0, 0, 2) := by
  unfold readLen
  rw [if_neg (by omega), readU_cutn hn j h]
  rfl
theorem inv_S (s : List UInt8) (max : Int) (hs : s.length ≤ 4000000) (hm : (s.length : Int) ≤ max) : Inv (fun b => readS b max) encS s := fun z => by
  show readS _ _ = _
  unfold readS encS
  rw [List.append_assoc, readLen_enc hs max hm]
  dsimp only
  rw [if_neg (by decide), if_neg (by simp; omega), Int.toNat_natCast, Int.toNat_natCast, List.drop_left, List.take_left, List.length_append]
  simp
theorem cut_S (s : List UInt8) (max : Int) (hs : s.length ≤ 4000000) (hm : (s.length : Int) ≤ max) : Cut (fun b => readS b max) encS s := fun j h => by
  show (readS _ _).2 = _
  unfold encS at h ⊢
  rw [List.length_append] at h
  by_cases h2 : j < (enc s.length).length
  · rw [List.take_append_of_le_length (by omega)]
    unfold readS
    rw [readLen_cut hs max hm j h2]
    rfl
  · rw [List.take_append, List.take_of_length_le (by omega)]
    unfold readS
    rw [readLen_enc hs max hm]
    dsimp only
    rw [if_neg (by decide), if_pos (by rw [List.length_append, List.length_take]; omega)]
theorem readN_inv {α : Type} (rd : List UInt8 → α × Int × Int) (f : α → List UInt8) (b z : List UInt8) : ∀ (l : List α), (∀ y ∈ l, Inv rd f y) → ∀ (p : Nat) (acc : List α), b.drop p = l.flatMap f ++ z → readN rd b l.length p acc = (acc ++ l, ((p + (l.flatMap f).length : Nat) : Int), 0) := by
  intro l
  induction l with
  | nil => intro _ p acc h; simp [readN]
  | cons y l ih =>
    intro hl p acc h
    have hy := hl y (by simp)
    rw [List.flatMap_cons, List.append_assoc] at h
    rw [List.length_cons, readN, h, hy]
    dsimp only
    rw [if_neg (by decide), Int.toNat_natCast, ih (fun x hx => hl x (by simp [hx])) _ _ (by rw [← List.drop_drop, h, List.drop_left]), List.flatMap_cons, List.length_append, List.append_assoc, Nat.add_assoc]
    rfl
theorem readN_cut {α : Type} (rd : List UInt8 → α × Int × Int) (f : α → List UInt8) (b : List UInt8) : ∀ (l : List α), (∀ y ∈ l, Inv rd f y ∧ Cut rd f y) → ∀ (p j : Nat) (acc : List α), b.drop p = (l.flatMap f).take j → j < (l.flatMap f).length → readN rd b l.length p acc = ([], 0, 2) := by
  intro l
  induction l with
  | nil => intro _ p j acc h h2; simp at h2
  | cons y l ih =>
    intro hl p j acc h h2
    obtain ⟨hy, hc⟩ := hl y (by simp)
    rw [List.flatMap_cons] at h h2
    rw [List.length_append] at h2
    by_cases h3 : j < (f y).length
    · rw [List.take_append_of_le_length (by omega)] at h
      rw [List.length_cons, readN, h, hc j h3]
      rfl
    · rw [List.take_append, List.take_of_length_le (by omega)] at h
      rw [List.length_cons, readN, h, hy]
      dsimp only
      rw [if_neg (by decide), Int.toNat_natCast]
      exact ih (fun x hx => hl x (by simp [hx])) _ (j - (f y).length) _ (by rw [← List.drop_drop, h, List.drop_left]) (by omega)
theorem inv_L {α : Type} (rd : List UInt8 → α × Int × Int) (f : α → List UInt8) (max : Int) (l : List α) (hs : l.length ≤ 4000000) (hm : (l.length : Int) ≤ max) (hl : ∀ y ∈ l, Inv rd f y) : Inv (fun b => readL rd b max) (encL f) l := fun z => by
  show readL _ _ _ = _
  unfold readL encL
  rw [List.append_assoc, readLen_enc hs max hm]
  dsimp only
  rw [if_neg (by decide), Int.toNat_natCast, Int.toNat_natCast, readN_inv rd f _ z l hl _ _ (by rw [List.drop_left]), List.length_append]
  rfl
theorem cut_L {α : Type} (rd : List UInt8 → α × Int × Int) (f : α → List UInt8) (max : Int) (l : List α) (hs : l.length ≤ 4000000) (hm : (l.length : Int) ≤ max) (hl : ∀ y ∈ l, Inv rd f y ∧ Cut rd f y) : Cut (fun b => readL rd b max) (encL f) l := fun j h => by
  show (readL _ _ _).2 = _
  unfold encL at h ⊢
  rw [List.length_append] at h
  by_cases h2 : j < (enc l.length).length
  · rw [List.take_append_of_le_length (by omega)]
    unfold readL
    rw [readLen_cut hs max hm j h2]
    rfl
  · rw [List.take_append, List.take_of_length_le (by omega)]
    unfold readL
    rw [readLen_enc hs max hm]
    dsimp only
    rw [if_neg (by decide), Int.toNat_natCast, Int.toNat_natCast, readN_cut rd f _ l hl _ (j - (enc l.length).length) _ (by rw [List.drop_left]) (by omega)]
/-! ### values -/
theorem okV_cases {v : Value} (h : okV v) : v = noV ∨ (v = ⟨1, v.N, [], [], []⟩) ∨ (v = ⟨2, v.N, [], [], []⟩ ∧ (v.N = 0 ∨ v.N = 1)) ∨ (v = ⟨3, 0, v.S, [], []⟩ ∧ v.S.length ≤ 64) ∨ (v = ⟨4, 0, [], v.I, []⟩ ∧ v.I.length ≤ 16) ∨ (v = ⟨5, 0, [], [], v.L⟩ ∧ v.L.length ≤ 16 ∧ ∀ y ∈ v.L, y.length ≤ 64) := by
  obtain ⟨K, N, S, I, L⟩ := v
  obtain ⟨o1, o2, o3, o4, o5, o6, o7, o8, o9, o10⟩ := h
  dsimp only at *
  rw [List.length_eq_zero_iff] at o5 o6
  have hK : K = 0 ∨ K = 1 ∨ K = 2 ∨ K = 3 ∨ K = 4 ∨ K = 5 := by omega
  rcases hK with rfl | rfl | rfl | rfl | rfl | rfl
  · have h3 : N = 0 := by omega
    have h4 := o4.resolve_right (by decide)
    have h5 := o5.resolve_right (by decide)
    have h6 := o6.resolve_right (by decide)
    subst h3 h4 h5 h6
    exact .inl rfl
  · have h4 := o4.resolve_right (by decide)
    have h5 := o5.resolve_right (by decide)
    have h6 := o6.resolve_right (by decide)
    subst h4 h5 h6
    exact .inr (.inl rfl)
  · have h3 : N = 0 ∨ N = 1 := by omega
    have h4 := o4.resolve_right (by decide)
    have h5 := o5.resolve_right (by decide)
    have h6 := o6.resolve_right (by decide)
    subst h4 h5 h6
    exact .inr (.inr (.inl ⟨rfl, h3⟩))
  · have h3 : N = 0 := by omega
    have h5 := o5.resolve_right (by decide)
    have h6 := o6.resolve_right (by decide)
    subst h3 h5 h6
    exact .inr (.inr (.inr (.inl ⟨rfl, o7⟩)))
  · have h3 : N = 0 := by omega
    have h4 := o4.resolve_right (by decide)
    have h6 := o6.resolve_right (by decide)
    subst h3 h4 h6
    exact .inr (.inr (.inr (.inr (.inl ⟨rfl, o8⟩))))
  · have h3 : N = 0 := by omega
    have h4 := o4.resolve_right (by decide)
    have h5 := o5.resolve_right (by decide)
    subst h3 h4 h5
    exact .inr (.inr (.inr (.inr (.inr ⟨rfl, o9, o10⟩))))
theorem rdV_ok {n : Nat} (h : n ≤ 4000000) (v : Value) : rdV 0 (n : Int) v = (v, ((1 + n : Nat) : Int), 0) := by
  unfold rdV
  rw [if_pos rfl, W_id (by omega) (by omega), Nat.add_comm]
  rfl
theorem encL_lenI {l : List Int} (h : l.length ≤ 16) : (encL encI l).length ≤ 165 := by
  have h1 := enc_len5 (n := l.length) (by omega)
  have h2 : ∀ (l : List Int), (l.flatMap encI).length ≤ 10 * l.length := fun l => by
    induction l with
    | nil => simp
    | cons x l ih => rw [List.flatMap_cons, List.length_append, List.length_cons]; have := encI_len x; omega
  have := h2 l
  unfold encL
  rw [List.length_append]
  omega
theorem encL_lenS {l : List (List UInt8)} (h : l.length ≤ 16) (hy : ∀ y ∈ l, y.length ≤ 64) : (encL encS l).length ≤ 1200 := by
  have h1 := enc_len5 (n := l.length) (by omega)
  have h2 : ∀ (l : List (List UInt8)), (∀ y ∈ l, y.length ≤ 64) → (l.flatMap encS).length ≤ 69 * l.length := fun l => by
    induction l with
    | nil => simp
    | cons x l ih =>
      intro hy
      rw [List.flatMap_cons, List.length_append, List.length_cons]
      have h3 := hy x (by simp)
      have := encS_len (s := x) (by omega)
      have := ih fun y h => hy y (by simp [h])
      omega
  have := h2 l hy
  unfold encL
  rw [List.length_append]
  omega
theorem inv_V (v : Value) (hv : okV v) (ho : v.ok) : Inv readV encV v := fun z => by
  obtain ⟨q1, q2, q3⟩ := ho
  rcases okV_cases hv with h | h | ⟨h, h1⟩ | ⟨h, h1⟩ | ⟨h, h1⟩ | ⟨h, h1, h2⟩
  · rw [h]; rfl
  · generalize v.N = N at *
    subst h
    show readV ((1 : UInt8) :: (encI N ++ z)) = _
    have hl := encI_len N
    unfold readV
    rw [if_neg (by simp), show ∀ c, ((1 : UInt8) :: c).getD 0 default = (1 : UInt8) from fun _ => rfl, if_neg (by decide), if_pos (by decide), List.drop_succ_cons, List.drop_zero, inv_I N q2]
    exact (rdV_ok (by omega) _).trans (by rw [Nat.add_comm]; rfl)
  · generalize v.N = N at *
    subst h
    rcases h1 with rfl | rfl <;> rfl
  · generalize v.S = S at *
    subst h
    show readV ((3 : UInt8) :: (encS S ++ z)) = _
    have hl := encS_len (s := S) (by omega)
    unfold readV
    rw [if_neg (by simp), show ∀ c, ((3 : UInt8) :: c).getD 0 default = (3 : UInt8) from fun _ => rfl, if_neg (by decide), if_neg (by decide), if_neg (by decide), if_pos (by decide), List.drop_succ_cons, List.drop_zero, show readS (encS S ++ z) 64 = _ from inv_S S 64 (by omega) (by omega) z]
    exact (rdV_ok (by omega) _).trans (by rw [Nat.add_comm]; rfl)
  · generalize v.I = I at *
    subst h
    show readV ((4 : UInt8) :: (encL encI I ++ z)) = _
    have hl := encL_lenI h1
    unfold readV
    rw [if_neg (by simp), show ∀ c, ((4 : UInt8) :: c).getD 0 default = (4 : UInt8) from fun _ => rfl, if_neg (by decide), if_neg (by decide), if_neg (by decide), if_neg (by decide), if_pos (by decide), List.drop_succ_cons, List.drop_zero, show readL readI (encL encI I ++ z) 16 = _ from inv_L readI encI 16 I (by omega) (by omega) (fun y hy => inv_I y (q3 y hy)) z]
    exact (rdV_ok (by omega) _).trans (by rw [Nat.add_comm]; rfl)
  · generalize v.L = L at *
    subst h
    show readV ((5 : UInt8) :: (encL encS L ++ z)) = _
    have hl := encL_lenS h1 h2
    unfold readV
    rw [if_neg (by simp), show ∀ c, ((5 : UInt8) :: c).getD 0 default = (5 : UInt8) from fun _ => rfl, if_neg (by decide), if_neg (by decide), if_neg (by decide), if_neg (by decide), if_neg (by decide), if_pos (by decide), List.drop_succ_cons, List.drop_zero, show readL (fun b => readS b 64) (encL encS L ++ z) 16 = _ from inv_L _ encS 16 L (by omega) (by omega) (fun y hy => inv_S y 64 (by have := h2 y hy; omega) (by have := h2 y hy; omega)) z]
    exact (rdV_ok (by omega) _).trans (by rw [Nat.add_comm]; rfl)
theorem rdV_cut {x : Int × Int} (h : x = (0, 2)) (v : Value) : (rdV x.2 x.1 v).2 = (0, 2) := by subst h; rfl
theorem cut_V (v : Value) (hv : okV v) (ho : v.ok) : Cut readV encV v := fun j hj => by
  obtain ⟨q1, q2, q3⟩ := ho
  cases j with
  | zero => rfl
  | succ j =>
  rcases okV_cases hv with h | h | ⟨h, h1⟩ | ⟨h, h1⟩ | ⟨h, h1⟩ | ⟨h, h1, h2⟩
  · rw [h] at hj
    exact absurd hj (by show ¬ (j + 1 < 1); omega)
  · generalize v.N = N at *
    subst h
    show (readV ((1 : UInt8) :: (encI N).take j)).2 = _
    have hj : j + 1 < (encI N).length + 1 := hj
    unfold readV
    rw [if_neg (by simp), show ∀ c, ((1 : UInt8) :: c).getD 0 default = (1 : UInt8) from fun _ => rfl, if_neg (by decide), if_pos (by decide), List.drop_succ_cons, List.drop_zero]
    exact rdV_cut (cut_I N j (by omega)) _
  · generalize v.N = N at *
    subst h
    have hj : j + 1 < 2 := hj
    have : j = 0 := by omega
    subst this
    rfl
  · generalize v.S = S at *
    subst h
    show (readV ((3 : UInt8) :: (encS S).take j)).2 = _
    have hj : j + 1 < (encS S).length + 1 := hj
    unfold readV
    rw [if_neg (by simp), show ∀ c, ((3 : UInt8) :: c).getD 0 default = (3 : UInt8) from fun _ => rfl, if_neg (by decide), if_neg (by decide), if_neg (by decide), if_pos (by decide), List.drop_succ_cons, List.drop_zero]
    exact rdV_cut (cut_S S 64 (by omega) (by omega) j (by omega)) _
  · generalize v.I = I at *
    subst h
    show (readV ((4 : UInt8) :: (encL encI I).take j)).2 = _
    have hj : j + 1 < (encL encI I).length + 1 := hj
    unfold readV
    rw [if_neg (by simp), show ∀ c, ((4 : UInt8) :: c).getD 0 default = (4 : UInt8) from fun _ => rfl, if_neg (by decide), if_neg (by decide), if_neg (by decide), if_neg (by decide), if_pos (by decide), List.drop_succ_cons, List.drop_zero]
    exact rdV_cut (cut_L readI encI 16 I (by omega) (by omega) (fun y hy => ⟨inv_I y (q3 y hy), cut_I y⟩) j (by omega)) _
  · generalize v.L = L at *
    subst h
    show (readV ((5 : UInt8) :: (encL encS L).take j)).2 = _
    have hj : j + 1 < (encL encS L).length + 1 := hj
    unfold readV
    rw [if_neg (by simp), show ∀ c, ((5 : UInt8) :: c).getD 0 default = (5 : UInt8) from fun _ => rfl, if_neg (by decide), if_neg (by decide), if_neg (by decide), if_neg (by decide), if_neg (by decide), if_pos (by decide), List.drop_succ_cons, List.drop_zero]
    exact rdV_cut (cut_L (fun b => readS b 64) encS 16 L (by omega) (by omega) (fun y hy => ⟨inv_S y 64 (by have := h2 y hy; omega) (by have := h2 y hy; omega), cut_S y 64 (by have := h2 y hy; omega) (by have := h2 y hy; omega)⟩) j (by omega)) _
end Md
end Go.Proofs.Ytbnjdkpangmneaa
