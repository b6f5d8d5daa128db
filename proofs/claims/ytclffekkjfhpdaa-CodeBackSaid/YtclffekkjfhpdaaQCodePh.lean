import Derived.Test.YtclffekkjfhpdaaQCodePg
namespace Go.Proofs.Ytclffekkjfhpdaa
set_option linter.unusedVariables false
set_option linter.unusedSimpArgs false
namespace Md
abbrev Rdr (α : Type) : Type := Bytecodereader → Option (α × Bytecodereader)
structure Good {α : Type} (P : Rdr α) (e : List UInt8) (y : α) : Prop where
  inv : ∀ z, e.length + z.length ≤ 3800000 → P ⟨e ++ z, false⟩ = some (y, ⟨z, false⟩)
  cut : ∀ j, j < e.length → e.length ≤ 3800000 → ∃ v r, P ⟨e.take j, false⟩ = some (v, r) ∧ r.failed = true ∧ r.b.length ≤ 3800000
def Bad {α : Type} (P : Rdr α) : Prop := ∀ b : List UInt8, b.length ≤ 3800000 → ∃ v r, P ⟨b, true⟩ = some (v, r) ∧ r.failed = true ∧ r.b.length ≤ 3800000
theorem Bad.on {α : Type} {P : Rdr α} (h : Bad P) {r : Bytecodereader} (h1 : r.failed = true) (h2 : r.b.length ≤ 3800000) : ∃ v r', P r = some (v, r') ∧ r'.failed = true ∧ r'.b.length ≤ 3800000 := by
  obtain ⟨b, f⟩ := r
  have h1 : f = true := h1
  subst h1
  exact h b h2
theorem bad_seq {α β : Type} {P : Rdr α} {Q : α → Rdr β} (hP : Bad P) (hQ : ∀ v, Bad (Q v)) : Bad (fun r => (P r).bind fun x => Q x.1 x.2) := fun b hb => by
  obtain ⟨v, r, h1, h2, h3⟩ := hP b hb
  obtain ⟨v', r', h4, h5⟩ := (hQ v).on h2 h3
  exact ⟨v', r', by show (P ⟨b, true⟩).bind _ = _; rw [h1]; exact h4, h5⟩
theorem good_seq {α β : Type} {P : Rdr α} {Q : α → Rdr β} {e1 e2 : List UInt8} {y1 : α} {y2 : β} (hP : Good P e1 y1) (hQ : Good (Q y1) e2 y2) (hB : ∀ v, Bad (Q v)) : Good (fun r => (P r).bind fun x => Q x.1 x.2) (e1 ++ e2) y2 where
  inv := fun z h => by
    rw [List.length_append] at h
    show (P ⟨e1 ++ e2 ++ z, false⟩).bind _ = _
    rw [List.append_assoc, hP.inv (e2 ++ z) (by rw [List.length_append]; omega), bind_e rfl]
    exact hQ.inv z (by omega)
  cut := fun j h1 h2 => by
    rw [List.length_append] at h1 h2
    by_cases hj : j < e1.length
    · obtain ⟨v, r, h3, h4, h5⟩ := hP.cut j hj (by omega)
      obtain ⟨v', r', h6, h7⟩ := (hB v).on h4 h5
      refine ⟨v', r', ?_, h7⟩
      show (P ⟨(e1 ++ e2).take j, false⟩).bind _ = _
      rw [List.take_append_of_le_length (by omega), h3]
      exact h6
    · obtain ⟨v, r, h3, h4⟩ := hQ.cut (j - e1.length) (by omega) (by omega)
      refine ⟨v, r, ?_, h4⟩
      show (P ⟨(e1 ++ e2).take j, false⟩).bind _ = _
      have e : (e1 ++ e2).take j = e1 ++ e2.take (j - e1.length) := by
        rw [List.take_append, List.take_of_length_le (by omega)]
      rw [e, hP.inv _ (by rw [List.length_take]; omega)]
      exact h3
theorem bad_ret {α : Type} (v : α) : Bad (fun r => some (v, r)) := fun b hb => ⟨v, _, rfl, rfl, hb⟩
theorem good_map {α β : Type} {P : Rdr α} {e : List UInt8} {y : α} (hP : Good P e y) (g : α → β) : Good (fun r => (P r).bind fun x => some (g x.1, x.2)) e (g y) where
  inv := fun z h => by show (P ⟨e ++ z, false⟩).bind _ = _; rw [hP.inv z h]; rfl
  cut := fun j h1 h2 => by
    obtain ⟨v, r, h3, h4⟩ := hP.cut j h1 h2
    exact ⟨g v, r, by show (P ⟨e.take j, false⟩).bind _ = _; rw [h3]; rfl, h4⟩
theorem bad_map {α β : Type} {P : Rdr α} (hP : Bad P) (g : α → β) : Bad (fun r => (P r).bind fun x => some (g x.1, x.2)) := bad_seq hP fun v => bad_ret (g v)
theorem take_ok (b : List UInt8) (f : Bool) (n : Nat) (h : n ≤ b.length) : bytecode_reader_take K ⟨b, f⟩ (n : Int) 0 = some ⟨b.drop n, f⟩ := by
  unfold bytecode_reader_take
  rw [show ((0 : Int) != 0) = false from rfl, cond_false, ifp_pos (by omega), ifp_pos (by rw [Int.toNat_natCast]; exact h), Int.toNat_natCast]
theorem take_err (b : List UInt8) (f : Bool) (n e : Int) (h : e ≠ 0) : bytecode_reader_take K ⟨b, f⟩ n e = some ⟨b, true⟩ := by
  unfold bytecode_reader_take
  rw [bne_iff_ne.2 h]
  rfl
def RdL {α : Type} (rd : List UInt8 → α × Int × Int) : Prop := ∀ b, b.length ≤ 3800000 → (rd b).2.2 ≠ 0 ∨ ((rd b).2.2 = 0 ∧ ∃ n : Nat, (rd b).2.1 = (n : Int) ∧ n ≤ b.length)
theorem take_bad {α : Type} {rd : List UInt8 → α × Int × Int} (h : RdL rd) (b : List UInt8) (hb : b.length ≤ 3800000) : ∃ r, bytecode_reader_take K ⟨b, true⟩ (rd b).2.1 (rd b).2.2 = some r ∧ r.failed = true ∧ r.b.length ≤ 3800000 := by
  rcases h b hb with h | ⟨h, n, h2, h3⟩
  · exact ⟨_, take_err _ _ _ _ h, rfl, hb⟩
  · rw [h, h2]
    exact ⟨_, take_ok _ _ _ h3, rfl, by show (b.drop n).length ≤ 3800000; rw [List.length_drop]; omega⟩
theorem prim_good {α : Type} {P : Rdr α} (rd : List UInt8 → α × Int × Int) (hP : ∀ (b : List UInt8) (f : Bool), b.length ≤ 3800000 → P ⟨b, f⟩ = (bytecode_reader_take K ⟨b, f⟩ (rd b).2.1 (rd b).2.2).bind fun x => some ((rd b).1, x)) {f : α → List UInt8} {y : α} (hi : Inv rd f y) (hc : Cut rd f y) : Good P (f y) y where
  inv := fun z h => by
    rw [hP _ _ (by rw [List.length_append]; exact h), hi z, take_ok _ _ _ (by rw [List.length_append]; omega), bind_e rfl, List.drop_left]
  cut := fun j h1 h2 => by
    have h3 := hc j h1
    rw [hP _ _ (by rw [List.length_take]; omega)]
    have h4 : (rd ((f y).take j)).2.2 = 2 := by rw [h3]
    rw [h4, take_err _ _ _ _ (by decide)]
    exact ⟨_, _, rfl, rfl, by show ((f y).take j).length ≤ 3800000; rw [List.length_take]; omega⟩
theorem prim_bad {α : Type} {P : Rdr α} (rd : List UInt8 → α × Int × Int) (hP : ∀ (b : List UInt8) (f : Bool), b.length ≤ 3800000 → P ⟨b, f⟩ = (bytecode_reader_take K ⟨b, f⟩ (rd b).2.1 (rd b).2.2).bind fun x => some ((rd b).1, x)) (h : RdL rd) : Bad P := fun b hb => by
  obtain ⟨r, h1, h2⟩ := take_bad h b hb
  exact ⟨_, r, by rw [hP _ _ hb, h1]; rfl, h2⟩
theorem rdL_of {α : Type} {rd : List UInt8 → α × Int × Int} (h : Rd rd) : RdL rd := fun b _ => by
  rcases h b with h | ⟨h, n, h2, _, h3⟩
  · exact .inl h
  · exact .inr ⟨h, n, h2, h3⟩
theorem readN_pos {α : Type} (rd : List UInt8 → α × Int × Int) (hr : Rd rd) (b : List UInt8) : ∀ (c p : Nat) (acc : List α), p ≤ b.length → (readN rd b c p acc).2.2 ≠ 0 ∨ ((readN rd b c p acc).2.2 = 0 ∧ ∃ n : Nat, (readN rd b c p acc).2.1 = (n : Int) ∧ n ≤ b.length) := by
  intro c
  induction c with
  | zero => intro p acc h; exact .inr ⟨rfl, p, rfl, h⟩
  | succ c ih =>
    intro p acc h
    unfold readN
    have hd : (b.drop p).length = b.length - p := List.length_drop
    rcases hr (b.drop p) with h5 | ⟨h5, m, h6, h7, h8⟩
    · rw [if_pos h5]; exact .inl h5
    · rw [if_neg (by simp [h5]), h6, Int.toNat_natCast]
      exact ih (p + m) _ (by omega)
theorem rdL_list {α : Type} (rd : List UInt8 → α × Int × Int) (hr : Rd rd) (max : Int) : RdL (fun b => readL rd b max) := fun b _ => by
  show (readL rd b max).2.2 ≠ 0 ∨ ((readL rd b max).2.2 = 0 ∧ ∃ n : Nat, (readL rd b max).2.1 = (n : Int) ∧ n ≤ b.length)
  unfold readL
  rcases readLen_ok b max with ⟨h1, h2, h3⟩ | ⟨h1, u, n, h2, h3, h4, h5, _⟩
  · rw [if_pos h1]; exact .inl h1
  · rw [h2]
    dsimp only
    rw [if_neg (by decide), Int.toNat_natCast, Int.toNat_natCast]
    exact readN_pos rd hr b u n [] h4
theorem rdV_pos {e n : Int} {v : Value} {L : Nat} (hL : 1 ≤ L) (hL2 : L ≤ 3800000) (h : e ≠ 0 ∨ (e = 0 ∧ ∃ m : Nat, n = (m : Int) ∧ m ≤ L - 1)) : (rdV e n v).2.2 ≠ 0 ∨ ((rdV e n v).2.2 = 0 ∧ ∃ m : Nat, (rdV e n v).2.1 = (m : Int) ∧ m ≤ L) := by
  unfold rdV
  rcases h with h | ⟨h, m, h2, h3⟩
  · rw [if_neg h]; exact .inl h
  · rw [if_pos h, h2]
    exact .inr ⟨rfl, m + 1, (W_id (by omega) (by omega)).trans (by omega), by omega⟩
theorem rdL_V : RdL readV := fun b hb => by
  have hd : (b.drop 1).length = b.length - 1 := List.length_drop
  unfold readV
  split
  · exact .inl (by decide)
  · have hL : 1 ≤ b.length := by omega
    have hb1 : (b.drop 1).length ≤ 3800000 := by omega
    split
    · exact .inr ⟨rfl, 1, rfl, hL⟩
    · split
      · exact rdV_pos hL hb (by rw [← hd]; exact rdL_of rd_int _ hb1)
      · split
        · refine rdV_pos hL hb ?_
          unfold readB
          split
          · exact .inl (by decide)
          · split
            · exact .inl (by decide)
            · exact .inr ⟨rfl, 1, rfl, by omega⟩
        · split
          · exact rdV_pos hL hb (by rw [← hd]; exact rdL_of (rd_str 64) _ hb1)
          · split
            · exact rdV_pos hL hb (by rw [← hd]; exact rdL_list readI rd_int 16 _ hb1)
            · split
              · exact rdV_pos hL hb (by rw [← hd]; exact rdL_list (fun b => readS b 64) (rd_str 64) 16 _ hb1)
              · exact .inl (by decide)
theorem text_p (b : List UInt8) (f : Bool) (h : b.length ≤ 3800000) : bytecode_reader_text K ⟨b, f⟩ = (bytecode_reader_take K ⟨b, f⟩ (readS b 32).2.1 (readS b 32).2.2).bind fun x => some ((readS b 32).1, x) := by
  unfold bytecode_reader_text
  rw [readS_eq K b 32 (by omega) (by unfold K; omega) (by unfold I64; omega), bind_e rfl]
theorem list_p (max : Int) (hm : I64 max) (b : List UInt8) (f : Bool) (h : b.length ≤ 3800000) : bytecode_reader_list K ⟨b, f⟩ max = (bytecode_reader_take K ⟨b, f⟩ (readL readI b max).2.1 (readL readI b max).2.2).bind fun x => some ((readL readI b max).1, x) := by
  unfold bytecode_reader_list
  rw [intsR_eq K b max (by omega) (by unfold K; omega) hm, bind_e rfl]
theorem value_p (b : List UInt8) (f : Bool) (h : b.length ≤ 3800000) : bytecode_reader_value K ⟨b, f⟩ = (bytecode_reader_take K ⟨b, f⟩ (readV b).2.1 (readV b).2.2).bind fun x => some ((readV b).1, x) := by
  unfold bytecode_reader_value
  rw [readV_w K b (by omega) (by unfold K; omega), bind_e rfl]
theorem text_g (s : List UInt8) (h : s.length ≤ 32) : Good (bytecode_reader_text K) (encS s) s := prim_good (fun b => readS b 32) text_p (inv_S s 32 (by omega) (by omega)) (cut_S s 32 (by omega) (by omega))
theorem text_b : Bad (bytecode_reader_text K) := prim_bad (fun b => readS b 32) text_p (rdL_of (rd_str 32))
theorem list_g (l : List Int) (max : Nat) (hm : max ≤ 100) (h : l.length ≤ max) (hl : ∀ y ∈ l, I64 y) : Good (fun r => bytecode_reader_list K r (max : Int)) (encL encI l) l :=
  prim_good (fun b => readL readI b (max : Int)) (list_p _ (by unfold I64; omega)) (inv_L readI encI max l (by omega) (by omega) (fun y hy => inv_I y (hl y hy))) (cut_L readI encI max l (by omega) (by omega) (fun y hy => ⟨inv_I y (hl y hy), cut_I y⟩))
theorem list_b (max : Nat) (hm : max ≤ 100) : Bad (fun r => bytecode_reader_list K r (max : Int)) := prim_bad (fun b => readL readI b (max : Int)) (list_p _ (by unfold I64; omega)) (rdL_list readI rd_int _)
theorem value_g (v : Value) (hv : okV v) (ho : v.ok) : Good (bytecode_reader_value K) (encV v) v := prim_good readV value_p (inv_V v hv ho) (cut_V v hv ho)
theorem value_b : Bad (bytecode_reader_value K) := prim_bad readV value_p rdL_V
theorem num_p (max : Int) (b : List UInt8) (f : Bool) (h : b.length ≤ 3800000) : bytecode_reader_number K ⟨b, f⟩ max = (bytecode_reader_take K ⟨b, f⟩ (readU b).2.1 (readU b).2.2).bind fun x2 => bif (decide (((readU b).1.toNat : Int) > (((UInt64.ofInt max)).toNat : Int))) then (some (0, (⟨x2.b, true⟩ : Bytecodereader))) else (some ((Md.W ((readU b).1.toNat : Int)), x2)) := by
  unfold bytecode_reader_number
  rw [uintR_eq K b (by omega) (by unfold K; omega), bind_e rfl]
theorem num_g (n max : Int) (h0 : 0 ≤ n) (h1 : n ≤ max) (h2 : max ≤ 9223372036854775807) : Good (fun r => bytecode_reader_number K r max) (encN n) n where
  inv := fun z h => by
    show bytecode_reader_number K ⟨encN n ++ z, false⟩ max = _
    rw [num_p _ _ _ (by rw [List.length_append]; exact h)]
    unfold encN
    rw [readU_enc, take_ok _ _ _ (by rw [List.length_append]; omega), bind_e rfl, List.drop_left]
    dsimp only
    rw [ofInt_nat, ofInt_nat, Int.emod_eq_of_lt h0 (by omega), Int.emod_eq_of_lt (by omega) (by omega), decide_eq_false (by omega), cond_false, W_id (by omega) (by omega), show ((n.toNat : Nat) : Int) = n by omega]
  cut := fun j h h' => by
    show ∃ v r, bytecode_reader_number K ⟨(encN n).take j, false⟩ max = some (v, r) ∧ _
    rw [num_p _ _ _ (by rw [List.length_take]; omega)]
    have hc := readU_cut (UInt64.ofInt n) j h
    unfold encN
    rw [hc, take_err _ _ _ _ (by decide), bind_e rfl]
    dsimp only
    rw [decide_eq_false (by show ¬ ((0 : Nat) : Int) > _; omega), cond_false]
    exact ⟨_, _, rfl, rfl, by show ((enc (UInt64.ofInt n).toNat).take j).length ≤ 3800000; rw [List.length_take]; unfold encN at h'; omega⟩
theorem num_b (max : Int) : Bad (fun r => bytecode_reader_number K r max) := fun b hb => by
  show ∃ v r, bytecode_reader_number K ⟨b, true⟩ max = some (v, r) ∧ _
  have hR : RdL readU := fun b _ => by
    rcases readU_ok b with ⟨h, _⟩ | ⟨h, n, h2, h3, h4⟩
    · exact .inl h
    · exact .inr ⟨h, n, h2, h4⟩
  obtain ⟨r, h1, h2, h3⟩ := take_bad hR b hb
  rw [num_p _ _ _ hb, h1, bind_e rfl]
  cases (decide (((readU b).1.toNat : Int) > (((UInt64.ofInt max)).toNat : Int)))
  · exact ⟨_, _, rfl, h2, h3⟩
  · exact ⟨_, _, rfl, rfl, h3⟩
section
variable {α : Type} {P : Rdr α} {f : α → List UInt8} {F : Nat → Int → Bytecodereader → List α → Option (Bytecodereader × List α)}
  (hF : ∀ n c r acc, F (n + 1) c r acc = bif ((decide (c > 0)) && (!r.failed)) then ((P r).bind fun x => ifp (acc.length + [x.1].length ≤ 4000000) (F n (W (c - 1)) x.2 (acc ++ [x.1]))) else some (r, acc))
include hF
theorem loop_bad (n : Nat) (c : Int) (b : List UInt8) (acc : List α) : F (n + 1) c ⟨b, true⟩ acc = some (⟨b, true⟩, acc) := by
  rw [hF, Bool.not_true, Bool.and_false]; rfl
theorem loop_inv : ∀ (l : List α), (∀ y ∈ l, Good P (f y) y) → ∀ n z acc, l.length < n → (l.flatMap f).length + z.length ≤ 3800000 → acc.length + l.length ≤ 100000 → F n (l.length : Nat) ⟨l.flatMap f ++ z, false⟩ acc = some (⟨z, false⟩, acc ++ l)
  | [], _, n, z, acc, hn, hl, ha => by
    obtain ⟨n, rfl⟩ : ∃ q, n = q + 1 := ⟨n - 1, by simp at hn; omega⟩
    rw [hF]
    simp
  | y :: r, hg, n, z, acc, hn, hl, ha => by
    rw [List.length_cons] at hn ha
    obtain ⟨n, rfl⟩ : ∃ q, n = q + 1 := ⟨n - 1, by omega⟩
    rw [List.flatMap_cons, List.length_append] at hl
    rw [hF, List.length_cons, decide_eq_true (by omega), Bool.not_false, Bool.and_self, cond_true, List.flatMap_cons, List.append_assoc, (hg y (List.mem_cons_self ..)).inv _ (by rw [List.length_append]; omega), bind_e rfl, ifp_pos (by simp; omega)]
    have hW : W (((r.length + 1 : Nat) : Int) - 1) = ((r.length : Nat) : Int) := (W_id (by omega) (by omega)).trans (by omega)
    rw [hW, loop_inv r (fun x hx => hg x (List.mem_cons_of_mem _ hx)) n z _ (by omega) (by omega) (by simp; omega)]
    simp
theorem loop_cut (hB : Bad P) : ∀ (l : List α), (∀ y ∈ l, Good P (f y) y) → ∀ n j acc, l.length < n → j < (l.flatMap f).length → (l.flatMap f).length ≤ 3800000 → acc.length + l.length ≤ 100000 → ∃ r acc', F n (l.length : Nat) ⟨(l.flatMap f).take j, false⟩ acc = some (r, acc') ∧ r.failed = true ∧ r.b.length ≤ 3800000
  | [], _, n, j, acc, hn, hj, _, _ => by simp at hj
  | y :: r, hg, n, j, acc, hn, hj, hl, ha => by
    rw [List.length_cons] at hn ha
    obtain ⟨n, rfl⟩ : ∃ q, n = q + 2 := ⟨n - 2, by omega⟩
    rw [List.flatMap_cons, List.length_append] at hl hj
    rw [hF, List.length_cons, decide_eq_true (by omega), Bool.not_false, Bool.and_self, cond_true, List.flatMap_cons]
    have hW : W (((r.length + 1 : Nat) : Int) - 1) = ((r.length : Nat) : Int) := (W_id (by omega) (by omega)).trans (by omega)
    have hy := hg y (List.mem_cons_self ..)
    by_cases h : j < (f y).length
    · obtain ⟨v, s, h1, h2, h3⟩ := hy.cut j h (by omega)
      rw [List.take_append_of_le_length (by omega), h1, bind_e rfl, ifp_pos (by simp; omega)]
      obtain ⟨b, fl⟩ := s
      have h2 : fl = true := h2
      subst h2
      exact ⟨_, _, loop_bad hF n _ b _, rfl, h3⟩
    · have e : (f y ++ r.flatMap f).take j = f y ++ (r.flatMap f).take (j - (f y).length) := by
        rw [List.take_append, List.take_of_length_le (by omega)]
      rw [e, hy.inv _ (by rw [List.length_take]; omega), bind_e rfl, ifp_pos (by simp; omega), hW]
      exact loop_cut hB r (fun x hx => hg x (List.mem_cons_of_mem _ hx)) (n + 1) _ _ (by omega) (by omega) (by omega) (by simp; omega)
theorem loop_g (hB : Bad P) (l : List α) (hg : ∀ y ∈ l, Good P (f y) y) (hl : l.length ≤ 90000) : Good (fun r => (F K (l.length : Nat) r []).bind fun x => some (x.2, x.1)) (l.flatMap f) l where
  inv := fun z h => by
    show (F K (l.length : Nat) ⟨l.flatMap f ++ z, false⟩ []).bind _ = _
    rw [loop_inv hF l hg K z [] (by unfold K; omega) h (by simp; omega)]
    rfl
  cut := fun j h1 h2 => by
    obtain ⟨r, a, h3, h4⟩ := loop_cut hF hB l hg K j [] (by unfold K; omega) h1 h2 (by simp; omega)
    exact ⟨a, r, by show (F K (l.length : Nat) ⟨(l.flatMap f).take j, false⟩ []).bind _ = _; rw [h3]; rfl, h4⟩
theorem loop_b (c : Int) : Bad (fun r => (F K c r []).bind fun x => some (x.2, x.1)) := fun b hb => by
  refine ⟨[], ⟨b, true⟩, ?_, rfl, hb⟩
  show (F K c ⟨b, true⟩ []).bind _ = _
  rw [show F K c ⟨b, true⟩ [] = some (⟨b, true⟩, []) from loop_bad hF 4999999 c b []]
  rfl
end
end Md
end Go.Proofs.Ytclffekkjfhpdaa
