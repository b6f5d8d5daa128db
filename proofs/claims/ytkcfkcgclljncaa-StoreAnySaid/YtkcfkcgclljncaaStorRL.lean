/-
  Law StoreAny. Conditions: none.
-/
import Derived.Test.YtkcfkcgclljncaaStorR
import Derived.Test.YtkcfkcgclljncaaStorLM
namespace Go.Proofs.Ytkcfkcgclljncaa
set_option linter.unusedVariables false
set_option linter.unusedSimpArgs false
namespace Md
theorem StoreAny_law (a0 : Store) (a1 : List UInt8) (a2 : Int) (h0 : a0.ok) (h2 : I64 a2) : ∃ k, actorgridlaw28_StoreAny k a0 a1 a2 = some true := by
  refine ⟨3000, ?_⟩
  unfold actorgridlaw28_StoreAny
  rw [awake28, bind_e rfl, Bool.not_true, cond_false]
  by_cases c0 : ((a0.Disks.x0.Data.length : Nat) : Int) > 2000
  · rw [decide_eq_true c0]; rfl
  by_cases c1 : ((a0.Disks.x1.Data.length : Nat) : Int) > 2000
  · rw [decide_eq_true c1, Bool.or_true]; rfl
  by_cases c2 : ((a1.length : Nat) : Int) > 2000
  · rw [decide_eq_true c2, Bool.or_true]; rfl
  have hw0 := writes_ok h0.1.1
  have hw1 := writes_ok h0.1.2
  have hrl := recS_len 3000 a0.Disks.x0 a0.Disks.x1 2000 (by omega) (by omega) (by omega)
  rw [decide_eq_false c0, decide_eq_false c1, decide_eq_false c2, Bool.or_self, Bool.or_self, cond_false,
    put_store 3000 a0 a1 (by omega) (by omega) (by omega) (by omega) (by omega) (by omega) h0, bind_e rfl, put_ref 3000 a0 a1 (by omega) (by omega) (by omega) (by omega) (by omega) (by omega) h0, bind_e rfl,
    ck_store 3000 a0 a1 (by omega) (by omega) (by omega) (by omega) (by omega) (by omega) h0, bind_e rfl, ck_ref 3000 a0 a1 (by omega) (by omega) (by omega) (by omega) (by omega) (by omega) h0, bind_e rfl,
    recover_store 3000 _ _ (by omega) (by omega) (by omega) (by omega) hw0 hw1, bind_e rfl, recover_rf 3000 _ _ (by omega) (by omega) (by omega) (by omega) hw0 hw1, bind_e rfl,
    new_store 3000 (by omega) (by omega), bind_e rfl, new_rf 3000 (by omega) (by omega), bind_e rfl, same28, bind_e rfl, cond_true, same28, bind_e rfl, cond_true, same28, bind_e rfl, cond_true, sameC _ _ (by omega) (by omega), bind_e rfl, cond_true, same28, bind_e rfl, cond_true,
    validS_eq 3000 a0 (by omega) (by omega) (by omega) (by omega) h0, bind_e rfl, validR_st 3000 a0 (by omega) (by omega) (by omega) (by omega) h0, bind_e rfl, beq_self_eq_true]
end Md
end Go.Proofs.Ytkcfkcgclljncaa
