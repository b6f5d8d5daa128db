/-
  Law 1 in plain words: WireAppends. Conditions: none.
-/
import Derived.Test.YtbnjdkpangmneaaWirePi
import Derived.Test.YtbnjdkpangmneaaWlAppendsM
namespace Go.Proofs.Ytbnjdkpangmneaa
set_option linter.unusedVariables false
set_option linter.unusedSimpArgs false
namespace Md
theorem WireAppends_law (b c : List UInt8) (v : Value) (u : UInt64) (s : List UInt8) (h1 : v.ok) : ∃ k, actorgridlaw1_WireAppends k b c v u s = some true := by
  refine ⟨3000, ?_⟩
  unfold actorgridlaw1_WireAppends
  rw [awake1, bind_e rfl, Bool.not_true, cond_false]
  by_cases q1 : ((b.length : Nat) : Int) > 300
  · rw [decide_eq_true q1]; rfl
  by_cases q2 : ((c.length : Nat) : Int) > 300
  · rw [decide_eq_true q2, Bool.or_true]; rfl
  rw [decide_eq_false q1, decide_eq_false q2, Bool.or_self, cond_false]
  rcases small_eq 3000 (by omega) v with hv | ⟨hv, s1, s2, s3, s4⟩
  · rw [hv]; rfl
  rw [hv, bind_e rfl, bind_e rfl, Bool.not_true, Bool.false_or]
  by_cases q3 : ((s.length : Nat) : Int) > 200
  · rw [decide_eq_true q3]; rfl
  have l2 := enc_len10 u
  have l3 := encS_len (s := s) (by omega)
  have l4 := enc_pos u.toNat
  rw [decide_eq_false q3, cond_false, join_eq _ _ _ (by omega), bind_e rfl, ifp_pos (by rw [List.length_append]; omega), List.take_left]
  rw [appendUint_eq _ (by omega) (by omega) b u (by omega), bind_e rfl, appendString_eq _ (by omega) (by omega) b s (by omega), bind_e rfl]
  have hx : ∃ x, wire_AppendValue 3000 b v = some x ∧ (okV v → x = b ++ encV v) := by
    by_cases ho : okV v
    · exact ⟨_, appendV_eq _ (by omega) (by omega) b v ho h1 (by omega) (by omega), fun _ => rfl⟩
    · exact ⟨_, appendV_no _ b v ho (by omega) (by omega), fun h => absurd h ho⟩
  obtain ⟨x, hx, hx2⟩ := hx
  rw [hx, bind_e rfl, decide_eq_true rfl, decide_eq_true (by rw [List.length_append]; omega), Bool.and_self, cond_true, ifp_pos (by rw [List.length_append]; omega), List.take_left, same_eq, bind_e rfl, bind_e rfl, cond_true]
  rw [appendString_eq _ (by omega) (by omega) [] s (by simp; omega), bind_e rfl, List.nil_append, ifp_pos (by omega), show ((((b ++ encS s).length : Nat) : Int) == ((((encS s).length + b.length : Nat)) : Int)) = true from by rw [beq_iff_eq, List.length_append, Nat.add_comm], bind_e rfl, cond_true, ifp_pos (by rw [List.length_append]; omega), List.take_left, same_eq, bind_e rfl, bind_e rfl, cond_true, valid_w _ v (by omega) (by omega), bind_e rfl]
  by_cases ho : okV v
  · rw [decide_eq_true ho, Bool.not_true, cond_false, hx2 ho, decide_eq_true (by rw [List.length_append]; unfold encV; rw [List.length_cons]; omega), cond_true, ifp_pos (by rw [List.length_append]; omega), List.take_left, same_eq]
    rfl
  · rw [decide_eq_false ho]; rfl
end Md
end Go.Proofs.Ytbnjdkpangmneaa
