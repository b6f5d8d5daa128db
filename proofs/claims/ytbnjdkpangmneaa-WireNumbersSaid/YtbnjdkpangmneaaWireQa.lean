/-
  Law 1 in plain words: WireNumbers. Conditions: none.
-/
import Derived.Test.YtbnjdkpangmneaaWirePb
import Derived.Test.YtbnjdkpangmneaaWlNumbersM
namespace Go.Proofs.Ytbnjdkpangmneaa
set_option linter.unusedVariables false
set_option linter.unusedSimpArgs false
namespace Md
theorem WireNumbers_law (b : List UInt8) (v : UInt64) (w : Int) (h2 : I64 w) : ∃ k, actorgridlaw1_WireNumbers k b v w = some true := by
  refine ⟨3000, ?_⟩
  unfold actorgridlaw1_WireNumbers
  rw [awake1, bind_e rfl]
  by_cases h : ((b.length : Nat) : Int) > 2000
  · rw [decide_eq_true h]; rfl
  have e1 := enc_len10 v
  have e2 := enc_len10 (zz w)
  rw [decide_eq_false h, uintR_eq _ b (by omega) (by omega), bind_e rfl, uintR_ref _ b (by omega) (by omega), bind_e rfl, intR_eq _ b (by omega) (by omega), bind_e rfl, intR_ref _ b (by omega) (by omega), bind_e rfl]
  simp only [beq_self_eq_true, Bool.and_self, cond_true, cond_false, Bool.not_true]
  rw [appendUint_eq _ (by omega) (by omega) b v (by omega), bind_e rfl, uint_eq _ (by omega) (by omega) v, bind_e rfl, join_eq _ _ _ (by omega), bind_e rfl]
  rw [show actorgridlaw1_same 3000 (b ++ enc v.toNat) (b ++ enc v.toNat) = some true from by unfold actorgridlaw1_same; simp, bind_e rfl, bind_e rfl, cond_true]
  rw [appendInt_eq _ (by omega) (by omega) b w h2 (by omega), bind_e rfl, int_ref _ (by omega) (by omega) w h2, bind_e rfl, join_eq _ _ _ (by omega), bind_e rfl]
  rw [show actorgridlaw1_same 3000 (b ++ enc (zz w).toNat) (b ++ enc (zz w).toNat) = some true from by unfold actorgridlaw1_same; simp, bind_e rfl, bind_e rfl]
end Md
end Go.Proofs.Ytbnjdkpangmneaa
