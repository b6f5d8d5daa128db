/-
  Layer 1 in plain words: values. Conditions: sizes.
-/
import Derived.Test.YtbnjdkpangmneaaWirePf
namespace Go.Proofs.Ytbnjdkpangmneaa
set_option linter.unusedVariables false
set_option linter.unusedSimpArgs false
namespace Md
def okV (v : Value) : Prop :=
  0 ≤ v.Kind ∧ v.Kind ≤ 5 ∧ (v.N = 0 ∨ v.Kind = 1 ∨ (v.Kind = 2 ∧ v.N = 1)) ∧ (v.S = [] ∨ v.Kind = 3) ∧ (v.I.length = 0 ∨ v.Kind = 4) ∧ (v.L.length = 0 ∨ v.Kind = 5) ∧ v.S.length ≤ 64 ∧ v.I.length ≤ 16 ∧ v.L.length ≤ 16 ∧ ∀ y ∈ v.L, y.length ≤ 64
instance (v : Value) : Decidable (okV v) := by unfold okV; exact inferInstance
theorem valid_loopW (k : Nat) (v : Value) (hl : v.L.length ≤ 4000000) : ∀ (n i : Nat), i ≤ v.L.length → v.L.length - i < n →
    ((wire_ValidValue_loop1 k v n i).bind fun o16 => onS o16 (fun x16_0 => some true) (fun r16 => some r16)) = some (decide (∀ y ∈ v.L.drop i, y.length ≤ 64)) := by
  intro n
  induction n with
  | zero => intro i h1 h2; omega
  | succ n ih =>
    intro i h1 h2
    rw [wire_ValidValue_loop1]
    by_cases h : i < v.L.length
    · have he : v.L.getD i default = v.L[i] := by simp [List.getD, h]
      rw [decide_eq_true (by omega), cond_true, ifp_pos h, List.drop_eq_getElem_cons h, he]
      by_cases h3 : ((v.L[i].length : Nat) : Int) > 64
      · rw [decide_eq_true h3]
        show some false = _
        rw [decide_eq_false (by intro q; have := q _ (List.mem_cons_self ..); omega)]
      · rw [decide_eq_false h3, cond_false, ifp_pos (by omega), ih (i + 1) (by omega) (by omega)]
        congr 1
        rw [decide_eq_decide]
        exact ⟨fun q y hy => (List.mem_cons.1 hy).elim (fun e => by rw [e]; omega) (q y), fun q y hy => q y (List.mem_cons_of_mem _ hy)⟩
    · rw [decide_eq_false (by omega), cond_false, List.drop_of_length_le (by omega)]
      simp
      rfl
theorem valid_loopR (k : Nat) (v : Value) (hl : v.L.length ≤ 4000000) : ∀ (n i : Nat), i ≤ v.L.length → v.L.length - i < n →
    ((actorgridref1_ValidValue_loop1 k v n i).bind fun o16 => onS o16 (fun x16_0 => some true) (fun r16 => some r16)) = some (decide (∀ y ∈ v.L.drop i, y.length ≤ 64)) := by
  intro n
  induction n with
  | zero => intro i h1 h2; omega
  | succ n ih =>
    intro i h1 h2
    rw [actorgridref1_ValidValue_loop1]
    by_cases h : i < v.L.length
    · have he : v.L.getD i default = v.L[i] := by simp [List.getD, h]
      rw [decide_eq_true (by omega), cond_true, ifp_pos h, List.drop_eq_getElem_cons h, he]
      by_cases h3 : ((v.L[i].length : Nat) : Int) > 64
      · rw [decide_eq_true h3]
        show some false = _
        rw [decide_eq_false (by intro q; have := q _ (List.mem_cons_self ..); omega)]
      · rw [decide_eq_false h3, cond_false, ifp_pos (by omega), ih (i + 1) (by omega) (by omega)]
        congr 1
        rw [decide_eq_decide]
        exact ⟨fun q y hy => (List.mem_cons.1 hy).elim (fun e => by rw [e]; omega) (q y), fun q y hy => q y (List.mem_cons_of_mem _ hy)⟩
    · rw [decide_eq_false (by omega), cond_false, List.drop_of_length_le (by omega)]
      simp
      rfl
theorem no_step {p : Prop} [Decidable p] {A : Bool} {X : Option Bool} (h1 : A = true → ¬ p) (h2 : A = false → X = some (decide p)) : (bif A then some false else X) = some (decide p) := by
  cases A with
  | true => rw [cond_true, decide_eq_false (h1 rfl)]
  | false => exact h2 rfl
theorem bne_nil {l : List UInt8} {b : Bool} (h : (!decide (l = [])) = b) : b = decide (0 < l.length) := by
  rw [← h]; cases l <;> simp
theorem okV_i (v : Value) (h1 : 0 ≤ v.Kind) (h2 : v.Kind ≤ 5) (h3 : v.N = 0 ∨ v.Kind = 1 ∨ (v.Kind = 2 ∧ v.N = 1)) (h4 : v.S = [] ∨ v.Kind = 3) (h5 : v.I.length = 0 ∨ v.Kind = 4) (h6 : v.L.length = 0 ∨ v.Kind = 5) (h7 : v.S.length ≤ 64) (h8 : v.I.length ≤ 16) (h9 : v.L.length ≤ 16) : (∀ y ∈ v.L, y.length ≤ 64) ↔ okV v :=
  ⟨fun q => ⟨h1, h2, h3, h4, h5, h6, h7, h8, h9, q⟩, fun q => q.2.2.2.2.2.2.2.2.2⟩
theorem valid_w (k : Nat) (v : Value) (hl : v.L.length ≤ 4000000) (hk : v.L.length < k) : wire_ValidValue k v = some (decide (okV v)) := by
  unfold wire_ValidValue
  refine no_step (fun h ho => ?_) fun h1 => no_step (fun h ho => ?_) fun h2 => no_step (fun h ho => ?_) fun h3 => no_step (fun h ho => ?_) fun h4 => no_step (fun h ho => ?_) fun h5 => no_step (fun h ho => ?_) fun h6 => ?_
  · obtain ⟨o1, o2, _⟩ := ho; simp at h; omega
  · obtain ⟨o1, o2, o3, _⟩ := ho; simp at h; omega
  · obtain ⟨o1, o2, o3, o4, _⟩ := ho; simp at h; rcases o4 with o4 | o4; exact h.1 o4; exact h.2 o4
  · obtain ⟨o1, o2, o3, o4, o5, _⟩ := ho; rcases o5 with o5 | o5 <;> simp [o5] at h
  · obtain ⟨o1, o2, o3, o4, o5, o6, _⟩ := ho; rcases o6 with o6 | o6 <;> simp [o6] at h
  · obtain ⟨o1, o2, o3, o4, o5, o6, o7, o8, o9, _⟩ := ho; simp at h; omega
  · rw [valid_loopW k v hl k 0 (by omega) (by omega), List.drop_zero]
    congr 1
    rw [decide_eq_decide]
    refine okV_i v ?_ ?_ ?_ ?_ ?_ ?_ ?_ ?_ ?_
    · simp at h1; omega
    · simp at h1; omega
    · simp at h2; omega
    · by_cases q : v.S = []
      · exact .inl q
      · right; simp [q] at h3; exact h3
    · by_cases q : v.I.length = 0
      · exact .inl q
      · right; simp at h4; exact h4 (by omega)
    · by_cases q : v.L.length = 0
      · exact .inl q
      · right; simp at h5; exact h5 (by omega)
    · simp at h6; omega
    · simp at h6; omega
    · simp at h6; omega
theorem nil_d (s : List UInt8) : decide (s = []) = decide (s.length = 0) := by rw [decide_eq_decide, List.length_eq_zero_iff]
theorem valid_r (k : Nat) (v : Value) (hl : v.L.length ≤ 4000000) (hk : v.L.length < k) : actorgridref1_ValidValue k v = some (decide (okV v)) := by
  unfold actorgridref1_ValidValue
  refine no_step (fun h ho => ?_) fun h1 => no_step (fun h ho => ?_) fun h2 => ?_
  · obtain ⟨o1, o2, o3, o4, o5, o6, _⟩ := ho
    rw [nil_d] at h
    rw [← List.length_eq_zero_iff] at o4
    simp only [Bool.or_eq_true, Bool.and_eq_true, bne_iff_ne, ne_eq, decide_eq_true_eq, Bool.not_eq_true', decide_eq_false_iff_not] at h
    omega
  · obtain ⟨o1, o2, o3, o4, o5, o6, o7, o8, o9, _⟩ := ho; simp at h; omega
  · rw [valid_loopR k v hl k 0 (by omega) (by omega), List.drop_zero]
    congr 1
    rw [decide_eq_decide]
    rw [nil_d, Bool.eq_false_iff] at h1
    rw [Bool.eq_false_iff] at h2
    simp only [Bool.or_eq_true, Bool.and_eq_true, bne_iff_ne, beq_iff_eq, ne_eq, decide_eq_true_eq, Bool.not_eq_true', decide_eq_false_iff_not] at h1 h2
    refine okV_i v ?_ ?_ ?_ ?_ ?_ ?_ ?_ ?_ ?_
    · omega
    · omega
    · omega
    · rw [← List.length_eq_zero_iff]; omega
    · omega
    · omega
    · omega
    · omega
    · omega
/-! ### the same -/
theorem drop_eq {α : Type} {a b : List α} {i : Nat} (ha : i < a.length) (hb : i < b.length) : a.drop i = b.drop i ↔ a[i] = b[i] ∧ a.drop (i + 1) = b.drop (i + 1) := by
  rw [List.drop_eq_getElem_cons ha, List.drop_eq_getElem_cons hb, List.cons.injEq]
theorem sameI_w (k : Nat) (a b : List Int) (hl : a.length ≤ 4000000) (hk : a.length < k) : wire_same_int k a b = some (decide (a = b)) := by
  have key : a.length = b.length → ∀ (n i : Nat), i ≤ a.length → a.length - i < n → ((wire_same_int_loop1 k a b n i).bind fun o2 => onS o2 (fun x2_0 => some true) (fun r2 => some r2)) = some (decide (a.drop i = b.drop i)) := by
    intro he n
    induction n with
    | zero => intro i h1 h2; omega
    | succ n ih =>
      intro i h1 h2
      rw [wire_same_int_loop1]
      by_cases h : i < a.length
      · have e1 : a.getD i default = a[i] := by simp [List.getD, h]
        have e2 : b.getD i default = b[i]'(by omega) := by simp [List.getD, show i < b.length by omega]
        rw [decide_eq_true (by omega), cond_true, ifp_pos h, ifp_pos (by omega), e1, e2]
        by_cases h3 : a[i] = b[i]'(by omega)
        · rw [show (a[i] != b[i]'(by omega)) = false from by simp [h3], cond_false, ifp_pos (by omega), ih (i + 1) (by omega) (by omega)]
          congr 1
          rw [decide_eq_decide, drop_eq h (by omega)]
          exact ⟨fun q => ⟨h3, q⟩, fun q => q.2⟩
        · rw [show (a[i] != b[i]'(by omega)) = true from by simp [h3], cond_true]
          show some false = _
          rw [decide_eq_false (by rw [drop_eq h (by omega)]; exact fun q => h3 q.1)]
      · rw [decide_eq_false (by omega), cond_false, List.drop_of_length_le (by omega), List.drop_of_length_le (by omega)]
        rfl
  unfold wire_same_int
  by_cases he : a.length = b.length
  · rw [show (((a.length : Nat) : Int) != ((b.length : Nat) : Int)) = false from by simp [he], cond_false, key he k 0 (by omega) (by omega)]
    rfl
  · rw [show (((a.length : Nat) : Int) != ((b.length : Nat) : Int)) = true from by simp; omega, cond_true, decide_eq_false (fun q => he (by rw [q]))]
theorem sameI_r (k : Nat) (a b : List Int) (hl : a.length ≤ 4000000) (hk : a.length < k) : actorgridref1_SameInts k a b = some (decide (a = b)) := by
  have key : a.length = b.length → ∀ (n i : Nat), i ≤ a.length → a.length - i < n → ((actorgridref1_SameInts_loop1 k a b n i).bind fun o2 => onS o2 (fun x2_0 => some true) (fun r2 => some r2)) = some (decide (a.drop i = b.drop i)) := by
    intro he n
    induction n with
    | zero => intro i h1 h2; omega
    | succ n ih =>
      intro i h1 h2
      rw [actorgridref1_SameInts_loop1]
      by_cases h : i < a.length
      · have e1 : a.getD i default = a[i] := by simp [List.getD, h]
        have e2 : b.getD i default = b[i]'(by omega) := by simp [List.getD, show i < b.length by omega]
        rw [decide_eq_true (by omega), cond_true, ifp_pos h, ifp_pos (by omega), e1, e2]
        by_cases h3 : a[i] = b[i]'(by omega)
        · rw [show (a[i] != b[i]'(by omega)) = false from by simp [h3], cond_false, ifp_pos (by omega), ih (i + 1) (by omega) (by omega)]
          congr 1
          rw [decide_eq_decide, drop_eq h (by omega)]
          exact ⟨fun q => ⟨h3, q⟩, fun q => q.2⟩
        · rw [show (a[i] != b[i]'(by omega)) = true from by simp [h3], cond_true]
          show some false = _
          rw [decide_eq_false (by rw [drop_eq h (by omega)]; exact fun q => h3 q.1)]
      · rw [decide_eq_false (by omega), cond_false, List.drop_of_length_le (by omega), List.drop_of_length_le (by omega)]
        rfl
  unfold actorgridref1_SameInts
  by_cases he : a.length = b.length
  · rw [show (((a.length : Nat) : Int) != ((b.length : Nat) : Int)) = false from by simp [he], cond_false, key he k 0 (by omega) (by omega)]
    rfl
  · rw [show (((a.length : Nat) : Int) != ((b.length : Nat) : Int)) = true from by simp; omega, cond_true, decide_eq_false (fun q => he (by rw [q]))]
theorem sameS_w (k : Nat) (a b : List (List UInt8)) (hl : a.length ≤ 4000000) (hk : a.length < k) : wire_same_string k a b = some (decide (a = b)) := by
  have key : a.length = b.length → ∀ (n i : Nat), i ≤ a.length → a.length - i < n → ((wire_same_string_loop1 k a b n i).bind fun o2 => onS o2 (fun x2_0 => some true) (fun r2 => some r2)) = some (decide (a.drop i = b.drop i)) := by
    intro he n
    induction n with
    | zero => intro i h1 h2; omega
    | succ n ih =>
      intro i h1 h2
      rw [wire_same_string_loop1]
      by_cases h : i < a.length
      · have e1 : a.getD i default = a[i] := by simp [List.getD, h]
        have e2 : b.getD i default = b[i]'(by omega) := by simp [List.getD, show i < b.length by omega]
        rw [decide_eq_true (by omega), cond_true, ifp_pos h, ifp_pos (by omega), e1, e2]
        by_cases h3 : a[i] = b[i]'(by omega)
        · rw [decide_eq_true h3, Bool.not_true, cond_false, ifp_pos (by omega), ih (i + 1) (by omega) (by omega)]
          congr 1
          rw [decide_eq_decide, drop_eq h (by omega)]
          exact ⟨fun q => ⟨h3, q⟩, fun q => q.2⟩
        · rw [decide_eq_false h3, Bool.not_false, cond_true]
          show some false = _
          rw [decide_eq_false (by rw [drop_eq h (by omega)]; exact fun q => h3 q.1)]
      · rw [decide_eq_false (by omega), cond_false, List.drop_of_length_le (by omega), List.drop_of_length_le (by omega)]
        rfl
  unfold wire_same_string
  by_cases he : a.length = b.length
  · rw [show (((a.length : Nat) : Int) != ((b.length : Nat) : Int)) = false from by simp [he], cond_false, key he k 0 (by omega) (by omega)]
    rfl
  · rw [show (((a.length : Nat) : Int) != ((b.length : Nat) : Int)) = true from by simp; omega, cond_true, decide_eq_false (fun q => he (by rw [q]))]
theorem sameS_r (k : Nat) (a b : List (List UInt8)) (hl : a.length ≤ 4000000) (hk : a.length < k) : actorgridref1_SameStrings k a b = some (decide (a = b)) := by
  have key : a.length = b.length → ∀ (n i : Nat), i ≤ a.length → a.length - i < n → ((actorgridref1_SameStrings_loop1 k a b n i).bind fun o2 => onS o2 (fun x2_0 => some true) (fun r2 => some r2)) = some (decide (a.drop i = b.drop i)) := by
    intro he n
    induction n with
    | zero => intro i h1 h2; omega
    | succ n ih =>
      intro i h1 h2
      rw [actorgridref1_SameStrings_loop1]
      by_cases h : i < a.length
      · have e1 : a.getD i default = a[i] := by simp [List.getD, h]
        have e2 : b.getD i default = b[i]'(by omega) := by simp [List.getD, show i < b.length by omega]
        rw [decide_eq_true (by omega), cond_true, ifp_pos h, ifp_pos (by omega), e1, e2]
        by_cases h3 : a[i] = b[i]'(by omega)
        · rw [decide_eq_true h3, Bool.not_true, cond_false, ifp_pos (by omega), ih (i + 1) (by omega) (by omega)]
          congr 1
          rw [decide_eq_decide, drop_eq h (by omega)]
          exact ⟨fun q => ⟨h3, q⟩, fun q => q.2⟩
        · rw [decide_eq_false h3, Bool.not_false, cond_true]
          show some false = _
          rw [decide_eq_false (by rw [drop_eq h (by omega)]; exact fun q => h3 q.1)]
      · rw [decide_eq_false (by omega), cond_false, List.drop_of_length_le (by omega), List.drop_of_length_le (by omega)]
        rfl
  unfold actorgridref1_SameStrings
  by_cases he : a.length = b.length
  · rw [show (((a.length : Nat) : Int) != ((b.length : Nat) : Int)) = false from by simp [he], cond_false, key he k 0 (by omega) (by omega)]
    rfl
  · rw [show (((a.length : Nat) : Int) != ((b.length : Nat) : Int)) = true from by simp; omega, cond_true, decide_eq_false (fun q => he (by rw [q]))]
theorem sameV_x (v w : Value) : ((bif (((v.Kind == w.Kind) && (v.N == w.N)) && (decide (v.S = w.S))) then some (decide (v.I = w.I)) else (some false)) : Option Bool).bind (fun x3 => ((bif x3 then some (decide (v.L = w.L)) else (some false)) : Option Bool).bind fun x4 => some x4) = some (decide (v = w)) := by
  obtain ⟨a1, a2, a3, a4, a5⟩ := v
  obtain ⟨b1, b2, b3, b4, b5⟩ := w
  dsimp only
  by_cases h1 : a1 = b1 <;> by_cases h2 : a2 = b2 <;> by_cases h3 : a3 = b3 <;> by_cases h4 : a4 = b4 <;> by_cases h5 : a5 = b5 <;> simp [Bool.beq_eq_decide_eq, h1, h2, h3, h4, h5]
theorem sameV_w (k : Nat) (v w : Value) (h1 : v.I.length ≤ 4000000) (h2 : v.I.length < k) (h3 : v.L.length ≤ 4000000) (h4 : v.L.length < k) : wire_SameValue k v w = some (decide (v = w)) := by
  unfold wire_SameValue
  rw [sameI_w k _ _ h1 h2, bind_e rfl, sameS_w k _ _ h3 h4, bind_e rfl]
  exact sameV_x v w
theorem sameV_r (k : Nat) (v w : Value) (h1 : v.I.length ≤ 4000000) (h2 : v.I.length < k) (h3 : v.L.length ≤ 4000000) (h4 : v.L.length < k) : actorgridref1_SameValue k v w = some (decide (v = w)) := by
  unfold actorgridref1_SameValue
  rw [sameI_r k _ _ h1 h2, bind_e rfl, sameS_r k _ _ h3 h4, bind_e rfl]
  exact sameV_x v w
/-! ### written -/
def encB (v : Value) : List UInt8 := if v.Kind = 1 then encI v.N else if v.Kind = 2 then [.ofInt v.N] else if v.Kind = 3 then encS v.S else if v.Kind = 4 then encL encI v.I else if v.Kind = 5 then encL encS v.L else []
def encV (v : Value) : List UInt8 := .ofInt v.Kind :: encB v
theorem appendV_eq (k : Nat) (hk : 10 ≤ k) (hk2 : k ≤ 100000) (b : List UInt8) (v : Value) (hv : okV v) (ho : v.ok) (hk3 : 20 ≤ k) (hb : b.length ≤ 2000000) : wire_AppendValue k b v = some (b ++ encV v) := by
  have o := hv
  obtain ⟨o1, o2, o3, o4, o5, o6, o7, o8, o9, o10⟩ := o
  obtain ⟨q1, q2, q3⟩ := ho
  unfold wire_AppendValue encV encB
  rw [valid_w k v (by omega) (by omega), bind_e rfl, decide_eq_true hv, Bool.not_true, cond_false, show (16 : Int) = ((16 : Nat) : Int) from rfl, extend_eq k b 16 (by omega) (by omega), bind_e rfl, ifp_pos (by simp; omega)]
  have hl : (b ++ [UInt8.ofInt v.Kind]).length = b.length + 1 := by simp
  by_cases h1 : v.Kind = 1
  · rw [show (v.Kind == 1) = true from by simp [h1], cond_true, if_pos h1, putInt_eq k hk hk2 _ _ q2 (by omega), bind_e rfl, List.append_assoc]; rfl
  rw [show (v.Kind == 1) = false from by simp [h1], cond_false, if_neg h1]
  by_cases h2 : v.Kind = 2
  · rw [show (v.Kind == 2) = true from by simp [h2], cond_true, if_pos h2, ifp_pos (by simp; omega), List.append_assoc]; rfl
  rw [show (v.Kind == 2) = false from by simp [h2], cond_false, if_neg h2]
  by_cases h3 : v.Kind = 3
  · rw [show (v.Kind == 3) = true from by simp [h3], cond_true, if_pos h3, putString_eq k hk hk2 _ _ (by omega), bind_e rfl, List.append_assoc]; rfl
  rw [show (v.Kind == 3) = false from by simp [h3], cond_false, if_neg h3]
  by_cases h4 : v.Kind = 4
  · rw [show (v.Kind == 4) = true from by simp [h4], cond_true, if_pos h4, appendInts_eq k hk hk2 _ _ q3 (by omega) (by omega), bind_e rfl, List.append_assoc]; rfl
  rw [show (v.Kind == 4) = false from by simp [h4], cond_false, if_neg h4]
  by_cases h5 : v.Kind = 5
  · rw [show (v.Kind == 5) = true from by simp [h5], cond_true, if_pos h5, appendStrings_eq k hk hk2 _ _ (fun y hy => by have := o10 y hy; omega) (by omega) (by omega), bind_e rfl, List.append_assoc]; rfl
  rw [show (v.Kind == 5) = false from by simp [h5], cond_false, if_neg h5]
theorem appendV_no (k : Nat) (b : List UInt8) (v : Value) (hv : ¬ okV v) (hl : v.L.length ≤ 4000000) (hk : v.L.length < k) : wire_AppendValue k b v = some [] := by
  unfold wire_AppendValue
  rw [valid_w k v hl hk, bind_e rfl, decide_eq_false hv]
  rfl
theorem encB_len (v : Value) (hv : okV v) : (encB v).length ≤ 1200 := by
  obtain ⟨o1, o2, o3, o4, o5, o6, o7, o8, o9, o10⟩ := hv
  unfold encB
  split
  · have := encI_len v.N; omega
  · split
    · simp
    · split
      · have := encS_len (s := v.S) (by omega); omega
      · split
        · have h1 := enc_len5 (n := v.I.length) (by omega)
          have h2 : ∀ (l : List Int), (l.flatMap encI).length ≤ 10 * l.length := fun l => by
            induction l with
            | nil => simp
            | cons x l ih => rw [List.flatMap_cons, List.length_append, List.length_cons]; have := encI_len x; omega
          have := h2 v.I
          unfold encL
          rw [List.length_append]
          omega
        · split
          · have h1 := enc_len5 (n := v.L.length) (by omega)
            have h2 : ∀ (l : List (List UInt8)), (∀ y ∈ l, y.length ≤ 64) → (l.flatMap encS).length ≤ 69 * l.length := fun l => by
              induction l with
              | nil => simp
              | cons x l ih =>
                intro hy
                rw [List.flatMap_cons, List.length_append, List.length_cons]
                have h3 := hy x (by simp)
                have := encS_len (s := x) (by omega)
                have := ih fun y h => hy y (by simp [h])
                omega
            have := h2 v.L o10
            unfold encL
            rw [List.length_append]
            omega
          · simp
theorem value_ref (k : Nat) (hk : 10 ≤ k) (hk2 : k ≤ 100000) (v : Value) (hv : okV v) (ho : v.ok) (hk3 : 20 ≤ k) : actorgridref1_Value k v = some (encV v) := by
  have o := hv
  obtain ⟨o1, o2, o3, o4, o5, o6, o7, o8, o9, o10⟩ := o
  obtain ⟨q1, q2, q3⟩ := ho
  have hb := encB_len v hv
  unfold encB at hb
  unfold actorgridref1_Value encV encB
  rw [valid_r k v (by omega) (by omega), bind_e rfl, decide_eq_true hv, Bool.not_true, cond_false]
  by_cases h1 : v.Kind = 1
  · rw [if_pos h1] at hb
    unfold encI at hb
    rw [show (v.Kind == 1) = true from by simp [h1], cond_true, if_pos h1, int_ref k hk hk2 _ q2, bind_e rfl, ifp_pos (by simp; omega)]; rfl
  rw [show (v.Kind == 1) = false from by simp [h1], cond_false, if_neg h1]
  rw [if_neg h1] at hb
  by_cases h2 : v.Kind = 2
  · rw [show (v.Kind == 2) = true from by simp [h2], cond_true, if_pos h2, ifp_pos (by simp)]; rfl
  rw [show (v.Kind == 2) = false from by simp [h2], cond_false, if_neg h2]
  rw [if_neg h2] at hb
  by_cases h3 : v.Kind = 3
  · rw [if_pos h3] at hb
    rw [show (v.Kind == 3) = true from by simp [h3], cond_true, if_pos h3, string_ref k hk hk2 _ (by omega), bind_e rfl, ifp_pos (by simp; omega)]; rfl
  rw [show (v.Kind == 3) = false from by simp [h3], cond_false, if_neg h3]
  rw [if_neg h3] at hb
  by_cases h4 : v.Kind = 4
  · rw [if_pos h4] at hb
    rw [show (v.Kind == 4) = true from by simp [h4], cond_true, if_pos h4, ints_refW k hk hk2 _ q3 (by omega) (by omega), bind_e rfl, ifp_pos (by simp; omega)]; rfl
  rw [show (v.Kind == 4) = false from by simp [h4], cond_false, if_neg h4]
  rw [if_neg h4] at hb
  by_cases h5 : v.Kind = 5
  · rw [if_pos h5] at hb
    rw [show (v.Kind == 5) = true from by simp [h5], cond_true, if_pos h5, strs_refW k hk hk2 _ (fun y hy => by have := o10 y hy; omega) (by omega) (by omega), bind_e rfl, ifp_pos (by simp; omega)]; rfl
  rw [show (v.Kind == 5) = false from by simp [h5], cond_false, if_neg h5]
end Md
end Go.Proofs.Ytbnjdkpangmneaa
