/-
  Law 1 in plain words: WireTruncated. Conditions: none.
-/
import Derived.Test.YtbnjdkpangmneaaWirePi
import Derived.Test.YtbnjdkpangmneaaWlTruncatedM
namespace Go.Proofs.Ytbnjdkpangmneaa
set_option linter.unusedVariables false
set_option linter.unusedSimpArgs false
namespace Md
theorem frame_parts (kind : UInt8) (body : List UInt8) : ∃ t, t.length = 4 ∧ frame kind body = (65 : UInt8) :: 71 :: kind :: (enc body.length ++ (body ++ t)) := by
  refine ⟨low (crc ([65, 71, kind] ++ enc body.length ++ body)), rfl, ?_⟩
  show ([65, 71, kind] ++ enc body.length ++ body) ++ low (crc ([65, 71, kind] ++ enc body.length ++ body)) = _
  generalize low (crc ([65, 71, kind] ++ enc body.length ++ body)) = t
  simp only [List.append_assoc, List.cons_append, List.nil_append]
theorem open_cut (body : List UInt8) (hb : body.length ≤ 4000000) (j : Nat) (hj : j < (frame 1 body).length) : ((openF ((frame 1 body).take j)).2.2.2 = 2 ∧ (openF ((frame 1 body).take j)).2.2.1 = 0) := by
  obtain ⟨t, ht, hf⟩ := frame_parts 1 body
  rw [hf] at hj ⊢
  simp only [List.length_cons, List.length_append] at hj
  by_cases h3 : j < 3
  · unfold openF
    rw [if_pos (by rw [List.length_take]; omega)]
    exact ⟨rfl, rfl⟩
  obtain ⟨j, rfl⟩ : ∃ i, j = i + 3 := ⟨j - 3, by omega⟩
  rw [List.take_succ_cons, List.take_succ_cons, List.take_succ_cons]
  unfold openF
  rw [if_neg (by simp), if_neg (by simp), List.drop_succ_cons, List.drop_succ_cons, List.drop_succ_cons, List.drop_zero]
  by_cases h2 : j < (enc body.length).length
  · rw [List.take_append_of_le_length (by omega), readU_cutn hb j h2, if_pos (by decide)]
    exact ⟨rfl, rfl⟩
  · rw [List.take_append, List.take_of_length_le (by omega), readU_nat hb]
    dsimp only
    rw [if_neg (by decide), ofNat_len hb, if_neg (by omega)]
    unfold openAt
    rw [if_pos (by simp only [List.length_cons, List.length_append, List.length_take, Int.toNat_natCast]; omega)]
    exact ⟨rfl, rfl⟩
theorem WireTruncated_law (v : Value) (b : List UInt8) (j : UInt16) (h1 : v.ok) : ∃ k, actorgridlaw1_WireTruncated k v b j = some true := by
  refine ⟨3000, ?_⟩
  unfold actorgridlaw1_WireTruncated
  rw [awake1, bind_e rfl, Bool.not_true, cond_false]
  rcases small_eq 3000 (by omega) v with hv | ⟨hv, s1, s2, s3, s4⟩
  · rw [hv]; rfl
  rw [hv, bind_e rfl, Bool.not_true, cond_false, valid_w _ v (by omega) (by omega), bind_e rfl]
  by_cases ho : okV v
  rotate_left
  · rw [decide_eq_false ho]; rfl
  rw [decide_eq_true ho, bind_e rfl, Bool.not_true, Bool.false_or]
  by_cases q1 : ((b.length : Nat) : Int) > 1000
  · rw [decide_eq_true q1]; rfl
  have := encB_len v ho
  have l1 : (encV v).length = (encB v).length + 1 := rfl
  have l2 := enc_len5 (n := b.length) (by omega)
  have hs : sealF 1 b = (frame 1 b, 0) := by
    unfold sealF
    rw [if_neg (by omega)]
    rfl
  have hfl : 0 < (frame 1 b).length ∧ (frame 1 b).length ≤ 1100 := by
    obtain ⟨t, ht, hf⟩ := frame_parts 1 b
    rw [hf]
    simp only [List.length_cons, List.length_append]
    omega
  rw [decide_eq_false q1, cond_false, appendV_eq _ (by omega) (by omega) [] v ho h1 (by omega) (by simp), bind_e rfl, List.nil_append, seal_eq _ 1 b (by omega) (by omega) (by omega), bind_e rfl, hs]
  dsimp only
  have e1 : ((((encV v).length : Nat) : Int) == 0) = false := (beq_n (encV v).length 0).trans (decide_eq_false (by omega))
  have e2 : ((((frame 1 b).length : Nat) : Int) == 0) = false := (beq_n (frame 1 b).length 0).trans (decide_eq_false (by omega))
  rw [e1, e2, bne_self_eq_false, Bool.or_self, Bool.or_self, cond_false]
  have m1 := Nat.mod_lt j.toNat (show 0 < (encV v).length by omega)
  have m2 := Nat.mod_lt j.toNat hfl.1
  rw [ifp_pos (by omega), ifp_pos (by omega), readV_w _ _ (by rw [List.length_take]; omega) (by rw [List.length_take]; omega), bind_e rfl, ifp_pos (by omega), ifp_pos (by omega), open_eq _ _ (by rw [List.length_take]; omega) (by rw [List.length_take]; omega), bind_e rfl]
  obtain ⟨c1, c2⟩ := open_cut b (by omega) _ m2
  rw [cut_V v ho h1 _ m1, c1, c2]
  rfl
end Md
end Go.Proofs.Ytbnjdkpangmneaa
