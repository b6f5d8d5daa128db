/-
  Law 1 in plain words: WireBursts. Conditions: none.
-/
import Derived.Test.YtbnjdkpangmneaaWirePi
import Derived.Test.YtbnjdkpangmneaaWireQc
import Derived.Test.YtbnjdkpangmneaaWlBurstsM
namespace Go.Proofs.Ytbnjdkpangmneaa
set_option linter.unusedVariables false
set_option linter.unusedSimpArgs false
namespace Md
theorem crcN_add : ∀ (m n : Nat) (c : UInt32), crcN (m + n) c = crcN n (crcN m c)
  | 0, n, c => by rw [Nat.zero_add]; rfl
  | m + 1, n, c => by rw [show m + 1 + n = (m + n) + 1 by omega]; exact crcN_add m n (crc1 c)
theorem shr32_nat (a : UInt32) (n : Nat) : (shr32 a n).toNat = a.toNat / 2 ^ min n 32 := by
  unfold shr32
  rw [UInt32.toNat_ofNat']
  have h1 := a.toNat_lt
  have h2 := Nat.div_le_self a.toNat (2 ^ min n 32)
  exact Nat.mod_eq_of_lt (by omega)
theorem crc1_nil {c : UInt32} (h : crc1 c = 0) : c = 0 := by
  rcases Nat.mod_two_eq_zero_or_one c.toNat with hc | hc
  · rw [crc1_zero hc] at h
    have h2 : (shr32 c 1).toNat = 0 := by rw [h]; rfl
    rw [shr32_nat] at h2
    apply UInt32.toNat_inj.1
    have : c.toNat / 2 = 0 := h2
    show c.toNat = 0
    omega
  · rw [crc1_one hc] at h
    have h2 : shr32 c 1 = 3988292384 := by
      have : shr32 c 1 ^^^ (3988292384 : UInt32) ^^^ 3988292384 = 3988292384 := by rw [h, x_com, x_zero]
      rwa [x_ass, x_self, x_zero] at this
    have h3 : (shr32 c 1).toNat = 3988292384 := by rw [h2]; rfl
    rw [shr32_nat] at h3
    have h4 : c.toNat / 2 = 3988292384 := h3
    have := c.toNat_lt
    omega
theorem crcN_nil : ∀ (n : Nat) {c : UInt32}, crcN n c = 0 → c = 0
  | 0, _, h => h
  | n + 1, _, h => crc1_nil (crcN_nil n h)
theorem crcN_pow (m : Nat) : ∀ i, i ≤ 31 → crcN (i + m) (UInt32.ofNat (2 ^ i)) = crcN m 1
  | 0, _ => by rw [Nat.zero_add]; rfl
  | i + 1, h => by
    rw [show i + 1 + m = (i + m) + 1 by omega]
    show crcN (i + m) (crc1 _) = _
    have hp : (2 : Nat) ^ (i + 1) < 2 ^ 32 := Nat.pow_lt_pow_right (by decide) (by omega)
    have e : (UInt32.ofNat (2 ^ (i + 1))).toNat = 2 ^ i * 2 := by rw [UInt32.toNat_ofNat', Nat.mod_eq_of_lt hp, Nat.pow_succ]
    rw [crc1_zero (by rw [e]; omega), show shr32 (UInt32.ofNat (2 ^ (i + 1))) 1 = UInt32.ofNat (2 ^ i) from UInt32.toNat_inj.1 (by
      rw [shr32_nat, e, UInt32.toNat_ofNat', Nat.mod_eq_of_lt (a := 2 ^ i) (by rw [Nat.pow_succ] at hp; omega)]
      show 2 ^ i * 2 / 2 = _
      omega)]
    exact crcN_pow m i (by omega)
theorem crcGo_lin : ∀ (r : List UInt8) (x y : UInt32), crcGo r (x ^^^ y) = crcGo r x ^^^ crcN (8 * r.length) y
  | [], _, _ => rfl
  | b :: r, x, y => by
    show crcGo r (crcN 8 ((x ^^^ y) ^^^ b.toUInt32)) = crcGo r (crcN 8 (x ^^^ b.toUInt32)) ^^^ _
    rw [x_ass, x_com y, ← x_ass, crcN_xor, crcGo_lin r, List.length_cons, show 8 * (r.length + 1) = 8 + 8 * r.length by omega, crcN_add]
theorem crc_set (e : UInt8) : ∀ (h : List UInt8) (p : Nat) (c : UInt32), p < h.length → crcGo (h.set p (h.getD p default ^^^ e)) c = crcGo h c ^^^ crcN (8 * (h.length - p)) e.toUInt32
  | [], _, _, hp => by simp at hp
  | b :: r, 0, c, _ => by
    show crcGo r (crcN 8 (c ^^^ (b ^^^ e).toUInt32)) = crcGo r (crcN 8 (c ^^^ b.toUInt32)) ^^^ _
    rw [UInt8.toUInt32_xor, ← x_ass, crcN_xor, crcGo_lin r, List.length_cons, show 8 * (r.length + 1 - 0) = 8 + 8 * r.length by omega, crcN_add]
  | b :: r, p + 1, c, hp => by
    show crcGo (r.set p (r.getD p default ^^^ e)) (crcN 8 (c ^^^ b.toUInt32)) = crcGo r (crcN 8 (c ^^^ b.toUInt32)) ^^^ _
    rw [crc_set e r p _ (by simpa using hp), List.length_cons, show r.length + 1 - (p + 1) = r.length - p by omega]
theorem crcGo_app : ∀ (a b : List UInt8) (c : UInt32), crcGo (a ++ b) c = crcGo b (crcGo a c)
  | [], _, _ => rfl
  | x :: a, b, c => crcGo_app a b _
theorem mod_on {b i : Nat} (h : b.testBit i = true) : b % 2 ^ i ^^^ 2 ^ i = b % 2 ^ (i + 1) := by
  apply Nat.eq_of_testBit_eq
  intro j
  rw [Nat.testBit_xor, Nat.testBit_mod_two_pow, Nat.testBit_mod_two_pow, Nat.testBit_two_pow]
  by_cases h1 : j < i
  · rw [decide_eq_true h1, decide_eq_false (by omega), decide_eq_true (by omega)]; simp
  · by_cases h2 : j = i
    · subst h2; simp [h]
    · rw [decide_eq_false h1, decide_eq_false (by omega), decide_eq_false (by omega)]; rfl
theorem mod_off {b i : Nat} (h : b.testBit i = false) : b % 2 ^ (i + 1) = b % 2 ^ i := by
  apply Nat.eq_of_testBit_eq
  intro j
  rw [Nat.testBit_mod_two_pow, Nat.testBit_mod_two_pow]
  by_cases h1 : j < i
  · rw [decide_eq_true h1, decide_eq_true (by omega)]
  · by_cases h2 : j = i
    · subst h2; simp [h]
    · rw [decide_eq_false h1, decide_eq_false (by omega)]
theorem of_xor (a b : Nat) : UInt32.ofNat a ^^^ UInt32.ofNat b = UInt32.ofNat (a ^^^ b) := by
  apply UInt32.toNat_inj.1
  rw [UInt32.toNat_xor, UInt32.toNat_ofNat', UInt32.toNat_ofNat', UInt32.toNat_ofNat', ← Nat.xor_mod_two_pow]
theorem bit_test (bits : UInt32) {i : Nat} (h : i < 32) : ((((shr32 bits ((UInt64.ofNat i).toNat)) % (2 : UInt32)).toNat : Int) == 1) = bits.toNat.testBit i := by
  rw [UInt64.toNat_ofNat', Nat.mod_eq_of_lt (by omega), UInt32.toNat_mod, shr32_nat, Nat.min_eq_left (by omega), Nat.testBit_eq_decide_div_mod_eq, show (2 : UInt32).toNat = 2 from rfl]
  exact beq_n _ 1
theorem bursts_loop (k : Nat) (body : List UInt8) (at_ : UInt16) (bits : UInt32) (x7 : List UInt8 × Int) (hd tl : List UInt8) (kk : Nat)
    (e1 : W (W (((x7.1.length : Nat) : Int) - 4) - ((body.length : Nat) : Int)) = (hd.length : Int))
    (e2 : ((at_.toNat : Nat) : Int).tmod (W ((((8 * body.length) : Nat) : Int) - 31)) = (kk : Int))
    (hk : kk + 31 < 8 * body.length) (hn : body.length ≤ 1000) (hB : hd.length ≤ 100) (c1 : UInt32) : ∀ (n i : Nat) (y : List UInt8), i ≤ 32 → 32 - i < n → y.length = body.length →
    crcGo y c1 = crcGo body c1 ^^^ crcN (8 * body.length - kk) (.ofNat (bits.toNat % 2 ^ i)) →
    ∃ y', actorgridlaw1_WireBursts_loop1 k body at_ bits x7 n i (hd ++ (y ++ tl)) = some (hd ++ (y' ++ tl)) ∧ y'.length = body.length ∧ crcGo y' c1 = crcGo body c1 ^^^ crcN (8 * body.length - kk) bits := by
  intro n
  induction n with
  | zero => intro i y h1 h2; omega
  | succ n ih =>
    intro i y h1 h2 h3 h4
    rw [actorgridlaw1_WireBursts_loop1, e1, e2]
    by_cases h : i < 32
    · have w1 : W ((kk : Int) + ((i : Nat) : Int)) = ((kk + i : Nat) : Int) := (W_id (by omega) (by omega)).trans (by omega)
      have w2 : ((kk + i : Nat) : Int).tdiv 8 = (((kk + i) / 8 : Nat) : Int) := by rw [Int.tdiv_eq_ediv_of_nonneg (by omega)]; omega
      have w6 : W (((kk + i) / 8 : Nat) : Int) = (((kk + i) / 8 : Nat) : Int) := W_id (by omega) (by omega)
      have w3 : W ((hd.length : Int) + (((kk + i) / 8 : Nat) : Int)) = ((hd.length + (kk + i) / 8 : Nat) : Int) := (W_id (by omega) (by omega)).trans (by omega)
      have w4 : ((kk + i : Nat) : Int).tmod 8 = (((kk + i) % 8 : Nat) : Int) := by rw [Int.tmod_eq_emod_of_nonneg (by omega)]; omega
      have w5 : (UInt64.ofInt (((kk + i) % 8 : Nat) : Int)).toNat = (kk + i) % 8 := by rw [ofInt_nat]; omega
      rw [decide_eq_true (by omega), cond_true, bit_test bits h, w1, w2, w6, w3, w4, w5]
      cases hb : bits.toNat.testBit i with
      | false =>
        rw [cond_false, bind_e rfl, ifp_pos (by omega)]
        exact ih (i + 1) y (by omega) (by omega) h3 (by rw [mod_off hb]; exact h4)
      | true =>
        have hq : (kk + i) / 8 < y.length := by omega
        have hl : (hd ++ (y ++ tl)).length = hd.length + (y.length + tl.length) := by rw [List.length_append, List.length_append]
        have hs : (hd ++ (y ++ tl)).set (hd.length + (kk + i) / 8) ((hd ++ (y ++ tl)).getD (hd.length + (kk + i) / 8) default ^^^ shl8 1 ((kk + i) % 8)) = hd ++ (y.set ((kk + i) / 8) (y.getD ((kk + i) / 8) default ^^^ shl8 1 ((kk + i) % 8)) ++ tl) := by
          have hg : (hd ++ (y ++ tl)).getD (hd.length + (kk + i) / 8) default = y.getD ((kk + i) / 8) default := by
            rw [List.getD_eq_getElem?_getD, List.getElem?_append_right (by omega), Nat.add_sub_cancel_left, List.getElem?_append_left hq, ← List.getD_eq_getElem?_getD]
          rw [hg, List.set_append_right _ _ (by omega), Nat.add_sub_cancel_left, List.set_append_left _ _ hq]
        rw [cond_true, ifp_pos (by omega), ifp_pos (by omega), Int.toNat_natCast, hs, bind_e rfl, ifp_pos (by omega)]
        refine ih (i + 1) _ (by omega) (by omega) (by rw [List.length_set]; exact h3) ?_
        have hr : (shl8 1 ((kk + i) % 8)).toUInt32 = UInt32.ofNat (2 ^ ((kk + i) % 8)) := by
          have : (kk + i) % 8 < 8 := Nat.mod_lt _ (by decide)
          generalize (kk + i) % 8 = r at *
          have hr : r = 0 ∨ r = 1 ∨ r = 2 ∨ r = 3 ∨ r = 4 ∨ r = 5 ∨ r = 6 ∨ r = 7 := by omega
          rcases hr with rfl | rfl | rfl | rfl | rfl | rfl | rfl | rfl <;> decide
        rw [crc_set _ y _ c1 hq, h4, h3, hr]
        have f1 : crcN (8 * (body.length - (kk + i) / 8)) (UInt32.ofNat (2 ^ ((kk + i) % 8))) = crcN (8 * body.length - kk) (UInt32.ofNat (2 ^ i)) := by
          rw [show 8 * (body.length - (kk + i) / 8) = (kk + i) % 8 + (8 * body.length - kk - i) by omega, crcN_pow _ _ (by omega), show 8 * body.length - kk = i + (8 * body.length - kk - i) by omega, crcN_pow _ _ (by omega)]
          congr 1
          omega
        rw [f1, x_ass, ← crcN_xor, of_xor, mod_on hb]
    · have : i = 32 := by omega
      subst this
      rw [decide_eq_false (by omega), cond_false]
      refine ⟨y, rfl, h3, ?_⟩
      rw [h4, Nat.mod_eq_of_lt bits.toNat_lt, UInt32.ofNat_toNat]
theorem not_inj {a b : UInt32} (h : ~~~a = ~~~b) : a = b := by
  have h2 : a ^^^ b = 0 := by rw [← not_not, h, x_self]
  calc a = a ^^^ b ^^^ b := by rw [x_ass, x_self, x_zero]
    _ = b := by rw [h2, x_com, x_zero]
theorem low_inj {c d : UInt32} (h : low c = low d) : c = d := by
  have b : ∀ (c : UInt32) (n : Nat), n ≤ 24 → (shr32 c n).toUInt8.toNat = c.toNat / 2 ^ n % 256 := fun c n hn => by
    rw [UInt32.toNat_toUInt8, shr32_nat, Nat.min_eq_left (by omega)]
  unfold low at h
  simp only [List.cons.injEq, and_true] at h
  obtain ⟨h1, h2, h3, h4⟩ := h
  have k1 : c.toNat % 256 = d.toNat % 256 := by rw [← UInt32.toNat_toUInt8, ← UInt32.toNat_toUInt8, h1]
  have k2 := (b c 8 (by omega)).symm.trans ((congrArg UInt8.toNat h2).trans (b d 8 (by omega)))
  have k3 := (b c 16 (by omega)).symm.trans ((congrArg UInt8.toNat h3).trans (b d 16 (by omega)))
  have k4 := (b c 24 (by omega)).symm.trans ((congrArg UInt8.toNat h4).trans (b d 24 (by omega)))
  have := c.toNat_lt
  have := d.toNat_lt
  apply UInt32.toNat_inj.1
  omega
/-- A frame with another body or tail, opened. -/
theorem open_laid (kind : UInt8) (hk : kind.toNat ≠ 0) (y t : List UInt8) (hy : y.length ≤ 4000000) (ht : t.length = 4) : openF ([65, 71, kind] ++ enc y.length ++ (y ++ t)) =
    if low (crc ([65, 71, kind] ++ enc y.length ++ y)) = t then ((kind.toNat : Int), y, ((3 + (enc y.length).length + y.length + 4 : Nat) : Int), 0) else (0, [], 0, 4) := by
  have hx : [65, 71, kind] ++ enc y.length ++ (y ++ t) = (65 : UInt8) :: 71 :: kind :: (enc y.length ++ (y ++ t)) := by simp only [List.append_assoc, List.cons_append, List.nil_append]
  have hL : ([65, 71, kind] ++ enc y.length ++ (y ++ t)).length = 3 + (enc y.length).length + y.length + 4 := by simp only [List.length_append, List.length_cons, List.length_nil]; omega
  have h3 : ([65, 71, kind] ++ enc y.length).length = 3 + (enc y.length).length := by simp only [List.length_append, List.length_cons, List.length_nil]
  unfold openF
  rw [if_neg (by omega)]
  have hr : readU (([65, 71, kind] ++ enc y.length ++ (y ++ t)).drop 3) = (UInt64.ofNat y.length, ((enc y.length).length : Int), 0) := by
    rw [hx, List.drop_succ_cons, List.drop_succ_cons, List.drop_succ_cons, List.drop_zero, readU_nat hy]
  rw [if_neg (by rw [hx]; show ¬ (65 ≠ 65 ∨ 71 ≠ 71 ∨ kind.toNat = 0); omega), hr]
  dsimp only
  rw [if_neg (by decide), ofNat_len hy, if_neg (by omega)]
  unfold openAt
  rw [if_neg (by rw [Int.toNat_natCast]; omega), Int.toNat_natCast]
  have t1 : ([65, 71, kind] ++ enc y.length ++ (y ++ t)).take (3 + (enc y.length).length + y.length) = [65, 71, kind] ++ enc y.length ++ y := by
    rw [← List.append_assoc]
    exact List.take_left' (by rw [List.length_append, h3])
  have t2 : (([65, 71, kind] ++ enc y.length ++ (y ++ t)).drop (3 + (enc y.length).length + y.length)).take 4 = t := by
    rw [← List.append_assoc, List.drop_left' (by rw [List.length_append, h3]), ← ht, List.take_length]
  have t3 : (([65, 71, kind] ++ enc y.length ++ (y ++ t)).drop (3 + (enc y.length).length)).take y.length = y := by
    rw [List.drop_left' h3, List.take_left]
  rw [t1, t2, t3, hx]
  rfl
theorem WireBursts_law (kind : UInt8) (body : List UInt8) (at_ : UInt16) (bits : UInt32) : ∃ k, actorgridlaw1_WireBursts k kind body at_ bits = some true := by
  refine ⟨3000, ?_⟩
  unfold actorgridlaw1_WireBursts
  rw [awake1, bind_e rfl, Bool.not_true, cond_false]
  by_cases h1 : kind.toNat = 0
  · rw [h1]; rfl
  by_cases h2 : ((body.length : Nat) : Int) < 4
  · rw [decide_eq_true h2, Bool.or_true]; rfl
  by_cases h3 : ((body.length : Nat) : Int) > 1000
  · rw [decide_eq_true h3, Bool.or_true]; rfl
  by_cases h4 : bits.toNat = 0
  · rw [h4, show ((((0 : Nat) : Int)) == 0) = true from rfl, Bool.or_true]; rfl
  rw [decide_eq_false h2, decide_eq_false h3, show ((kind.toNat : Int) == 0) = false from (beq_n _ 0).trans (decide_eq_false h1), show ((bits.toNat : Int) == 0) = false from (beq_n _ 0).trans (decide_eq_false h4)]
  simp only [Bool.or_self, cond_false]
  have hkl := kind.toNat_lt
  have hle := enc_len5 (n := body.length) (by omega)
  have hhl : ([65, 71, kind] ++ enc body.length).length = 3 + (enc body.length).length := by simp only [List.length_append, List.length_cons, List.length_nil]
  have hko : UInt8.ofInt (kind.toNat : Int) = kind := by
    apply UInt8.toNat_inj.1
    show (UInt8.ofNat ((kind.toNat : Int) % 2 ^ 8).toNat).toNat = _
    rw [UInt8.toNat_ofNat']
    omega
  generalize hT : low (crc ([65, 71, kind] ++ enc body.length ++ body)) = T
  have hTl : T.length = 4 := by rw [← hT]; rfl
  have hs : sealF (kind.toNat : Int) body = ([65, 71, kind] ++ enc body.length ++ (body ++ T), 0) := by
    unfold sealF
    rw [if_neg (by omega), hko, ← hT, ← List.append_assoc]
    rfl
  have hfl : ([65, 71, kind] ++ enc body.length ++ (body ++ T)).length = 3 + (enc body.length).length + body.length + 4 := by rw [List.length_append, hhl, List.length_append, hTl]; omega
  have hop := open_laid kind h1 body T (by omega) hTl
  rw [if_pos hT] at hop
  rw [seal_eq _ _ body (by omega) (by omega) (by omega), bind_e rfl, hs, open_eq _ ([65, 71, kind] ++ enc body.length ++ (body ++ T)) (by omega) (by omega), bind_e rfl, hop]
  simp only [bne_self_eq_false, Bool.or_self, cond_false, hfl]
  rw [ifp_pos (by omega), bind_e rfl, decide_eq_false (by omega), cond_false, ifp_pos (by omega)]
  have w1 : W ((((8 * body.length) : Nat) : Int) - 31) = ((8 * body.length - 31 : Nat) : Int) := (W_id (by omega) (by omega)).trans (by omega)
  have e2 : ((at_.toNat : Nat) : Int).tmod (W ((((8 * body.length) : Nat) : Int) - 31)) = ((at_.toNat % (8 * body.length - 31) : Nat) : Int) := by rw [w1, Int.tmod_eq_emod_of_nonneg (by omega)]; omega
  have hkk := Nat.mod_lt at_.toNat (show 0 < 8 * body.length - 31 by omega)
  have e1 : ∀ z : Int, W (W ((((([65, 71, kind] ++ enc body.length ++ (body ++ T)), z).1.length : Nat) : Int) - 4) - ((body.length : Nat) : Int)) = ((([65, 71, kind] ++ enc body.length).length : Nat) : Int) := fun z => by
    rw [hfl, hhl, W_id (n := ((3 + (enc body.length).length + body.length + 4 : Nat) : Int) - 4) (by omega) (by omega), W_id (by omega) (by omega)]
    omega
  obtain ⟨y, g1, g2, g3⟩ := bursts_loop 3000 body at_ bits ([65, 71, kind] ++ enc body.length ++ (body ++ T), 0) ([65, 71, kind] ++ enc body.length) T (at_.toNat % (8 * body.length - 31)) (e1 0) e2 (by omega) (by omega) (by omega) (crcGo ([65, 71, kind] ++ enc body.length) 4294967295) 3000 0 body (by omega) (by omega) rfl (by
    rw [Nat.pow_zero, Nat.mod_one]
    have hz : ∀ n, crcN n (UInt32.ofNat 0) = 0 := fun n => by
      have := crcN_xor n 0 0
      rw [show (0 : UInt32) ^^^ 0 = 0 from rfl, x_self] at this
      exact this
    rw [hz, x_zero])
  have hop2 := open_laid kind h1 y T (by omega) hTl
  rw [g2, if_neg (by
    rw [← hT]
    intro h
    have h5 := low_inj h
    unfold crc at h5
    have h6 := not_inj h5
    rw [crcGo_app _ y, crcGo_app _ body, g3] at h6
    have h7 : crcN (8 * body.length - at_.toNat % (8 * body.length - 31)) bits = 0 := by
      generalize crcGo body (crcGo ([65, 71, kind] ++ enc body.length) 4294967295) = A at h6
      generalize crcN (8 * body.length - at_.toNat % (8 * body.length - 31)) bits = Z at h6 ⊢
      have h9 : A ^^^ (A ^^^ Z) = A ^^^ A := by rw [h6]
      rwa [← x_ass, x_self, x_com, x_zero] at h9
    have h8 := crcN_nil _ h7
    exact h4 (by rw [h8]; rfl))] at hop2
  rw [ifp_pos (by rw [w1]; omega), ifp_pos (by simp only [List.length_nil]; omega), List.nil_append, g1, bind_e rfl, open_eq _ _ (by rw [List.length_append, hhl, List.length_append, hTl]; omega) (by rw [List.length_append, hhl, List.length_append, hTl]; omega), bind_e rfl, hop2]
  rfl
end Md
end Go.Proofs.Ytbnjdkpangmneaa
