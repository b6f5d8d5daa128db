/-
  Law 1 in plain words: WireFrames. Conditions: none.
-/
import Derived.Test.YtbnjdkpangmneaaWirePd
import Derived.Test.YtbnjdkpangmneaaWlFramesM
namespace Go.Proofs.Ytbnjdkpangmneaa
set_option linter.unusedVariables false
set_option linter.unusedSimpArgs false
namespace Md
theorem WireFrames_law (b : List UInt8) (kind : Int) (body : List UInt8) (h1 : I64 kind) : ∃ k, actorgridlaw1_WireFrames k b kind body = some true := by
  refine ⟨3000, ?_⟩
  unfold actorgridlaw1_WireFrames
  rw [awake1, bind_e rfl]
  by_cases h : ((b.length : Nat) : Int) > 2000
  · rw [decide_eq_true h]; rfl
  by_cases h' : ((body.length : Nat) : Int) > 2000
  · rw [decide_eq_true h', Bool.or_true]; rfl
  rw [decide_eq_false h, decide_eq_false h', seal_eq _ kind body (by omega) (by omega) (by omega), bind_e rfl, seal_ref _ kind body (by omega) (by omega) (by omega), bind_e rfl, open_eq _ b (by omega) (by omega), bind_e rfl, open_ref _ b (by omega) (by omega), bind_e rfl, same_eq, bind_e rfl]
  simp only [beq_self_eq_true, Bool.and_self, Bool.or_self, cond_true, cond_false, Bool.not_true]
  rw [same_eq, bind_e rfl, bind_e rfl]
  simp only [Bool.and_self, cond_true]
  rw [crc_eq _ (by omega) b (by omega) (by omega), bind_e rfl, crc_ref _ (by omega) b (by omega) (by omega), bind_e rfl, bind_e rfl]
  simp
end Md
end Go.Proofs.Ytbnjdkpangmneaa
