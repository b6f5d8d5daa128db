/-
  Law 1 in plain words: WireRoundTrip. Conditions: none.
-/
import Derived.Test.YtbnjdkpangmneaaWirePi
import Derived.Test.YtbnjdkpangmneaaWlRoundTripM
namespace Go.Proofs.Ytbnjdkpangmneaa
set_option linter.unusedVariables false
set_option linter.unusedSimpArgs false
namespace Md
theorem WireRoundTrip_law (v : Value) (u : UInt64) (n : Int) (p s : List UInt8) (h1 : v.ok) (h2 : I64 n) : ∃ k, actorgridlaw1_WireRoundTrip k v u n p s = some true := by
  refine ⟨3000, ?_⟩
  unfold actorgridlaw1_WireRoundTrip
  rw [awake1, bind_e rfl, Bool.not_true, cond_false]
  rcases small_eq 3000 (by omega) v with hv | ⟨hv, s1, s2, s3, s4⟩
  · rw [hv]; rfl
  rw [hv, bind_e rfl, Bool.not_true, cond_false, valid_w _ v (by omega) (by omega), bind_e rfl]
  by_cases ho : okV v
  rotate_left
  · rw [decide_eq_false ho]; rfl
  rw [decide_eq_true ho, bind_e rfl, Bool.not_true, Bool.false_or]
  by_cases q1 : ((p.length : Nat) : Int) > 100
  · rw [decide_eq_true q1]; rfl
  by_cases q2 : ((s.length : Nat) : Int) > 100
  · rw [decide_eq_true q2, Bool.or_true]; rfl
  rw [decide_eq_false q1, decide_eq_false q2, Bool.or_self, cond_false]
  have := encB_len v ho
  have l1 : (encV v).length = (encB v).length + 1 := rfl
  have l2 := enc_len10 u
  have l3 := encI_len n
  have e1 := inv_V v ho h1 s
  have e2 := readU_enc u s
  have e3 := inv_I n h2 s
  rw [appendV_eq _ (by omega) (by omega) [] v ho h1 (by omega) (by simp), bind_e rfl, List.nil_append, join_eq _ _ _ (by omega), bind_e rfl, readV_w _ _ (by rw [List.length_append]; omega) (by rw [List.length_append]; omega), bind_e rfl]
  rw [appendUint_eq _ (by omega) (by omega) [] u (by simp), bind_e rfl, List.nil_append, join_eq _ _ _ (by omega), bind_e rfl, uintR_eq _ _ (by rw [List.length_append]; omega) (by rw [List.length_append]; omega), bind_e rfl]
  rw [appendInt_eq _ (by omega) (by omega) [] n h2 (by simp), bind_e rfl, List.nil_append, show enc (zz n).toNat = encI n from rfl, join_eq _ _ _ (by omega), bind_e rfl, intR_eq _ _ (by rw [List.length_append]; omega) (by rw [List.length_append]; omega), bind_e rfl]
  rw [e1, e2, e3]
  simp only [beq_self_eq_true, Bool.and_self, cond_true]
  rw [sameV_w _ v v (by omega) (by omega) (by omega) (by omega), bind_e rfl, bind_e rfl]
  simp only [decide_true, Bool.and_self, cond_true]
  rw [appendV_eq _ (by omega) (by omega) p v ho h1 (by omega) (by omega), bind_e rfl, join_eq _ _ _ (by omega), bind_e rfl, same_eq, bind_e rfl, bind_e rfl, cond_true]
  rw [appendUint_eq _ (by omega) (by omega) p u (by omega), bind_e rfl, join_eq _ _ _ (by omega), bind_e rfl, same_eq, bind_e rfl, bind_e rfl]
end Md
end Go.Proofs.Ytbnjdkpangmneaa
