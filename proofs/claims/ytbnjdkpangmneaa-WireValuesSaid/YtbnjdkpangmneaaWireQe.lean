/-
  Law 1 in plain words: WireValues. Conditions: none.
-/
import Derived.Test.YtbnjdkpangmneaaWirePh
import Derived.Test.YtbnjdkpangmneaaWlValuesM
namespace Go.Proofs.Ytbnjdkpangmneaa
set_option linter.unusedVariables false
set_option linter.unusedSimpArgs false
namespace Md
theorem WireValues_law (b : List UInt8) (v w : Value) (h1 : v.ok) (h2 : w.ok) : ∃ k, actorgridlaw1_WireValues k b v w = some true := by
  refine ⟨3000, ?_⟩
  unfold actorgridlaw1_WireValues
  rw [awake1, bind_e rfl, Bool.not_true, cond_false]
  by_cases q1 : ((b.length : Nat) : Int) > 2000
  · rw [decide_eq_true q1]; rfl
  rw [decide_eq_false q1, cond_false]
  rcases small_eq 3000 (by omega) v with hv | ⟨hv, s1, s2, s3, s4⟩
  · rw [hv]; rfl
  rcases small_eq 3000 (by omega) w with hw | ⟨hw, t1, t2, t3, t4⟩
  · rw [hv, hw]; rfl
  have e := readV_len b
  rw [hv, bind_e rfl, bind_e rfl, Bool.not_true, cond_false, hw, bind_e rfl, bind_e rfl, Bool.not_true, cond_false]
  rw [readV_w _ b (by omega) (by omega), bind_e rfl, readV_r _ b (by omega) (by omega), bind_e rfl, sameV_r _ _ _ (by omega) (by omega) (by omega) (by omega), bind_e rfl]
  simp only [decide_true, Bool.not_true, bne_self_eq_false, Bool.or_self, cond_false]
  rw [valid_w _ v (by omega) (by omega), bind_e rfl, valid_r _ v (by omega) (by omega), bind_e rfl, sameV_w _ v w (by omega) (by omega) (by omega) (by omega), bind_e rfl, sameV_r _ v w (by omega) (by omega) (by omega) (by omega), bind_e rfl, sameV_w _ v v (by omega) (by omega) (by omega) (by omega), bind_e rfl, bind_e rfl]
  simp only [beq_self_eq_true, decide_true, Bool.not_true, cond_false]
  by_cases ho : okV v
  · rw [decide_eq_true ho, Bool.not_true, cond_false]
    have := encB_len v ho
    have l1 : (encV v).length = (encB v).length + 1 := rfl
    rw [appendV_eq _ (by omega) (by omega) b v ho h1 (by omega) (by omega), bind_e rfl, value_ref _ (by omega) (by omega) v ho h1 (by omega), bind_e rfl, join_eq _ _ _ (by omega), bind_e rfl, same_eq, bind_e rfl]
  · rw [decide_eq_false ho, Bool.not_false, cond_true, appendV_no _ b v ho (by omega) (by omega)]
    rfl
end Md
end Go.Proofs.Ytbnjdkpangmneaa
