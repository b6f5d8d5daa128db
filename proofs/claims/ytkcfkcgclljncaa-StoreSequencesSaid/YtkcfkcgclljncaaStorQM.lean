/-
  StorQ: what the functions compute, as plain Lean functions (printed by wip/tools/auto.py from the functions' trees). No condition.
-/
import Derived.Test.YtkcfkcgclljncaaStorDM
import Derived.Test.YtkcfkcgclljncaaStorKM
namespace Go.Proofs.Ytkcfkcgclljncaa
set_option linter.unusedVariables false
namespace Md
def actorgridlaw28_StoreSequences_loop1 (k : Nat) (a1 : List Actorgridlaw28Act) (x4 : Store × Int) : Nat → Nat → Store → Store → Option (Sum Unit Bool)
  | 0, _, _, _ => none
  | n8 + 1, s8_0, s8_1, s8_2 => bif ((decide (((s8_0 : Nat) : Int) < ((a1.length : Nat) : Int))) && (x4.2 == 0)) then (Md.ifp (s8_0 < a1.length) <| bif (decide (((((a1.getD s8_0 default).B).length : Nat) : Int) > 200)) then (some (Sum.inr true)) else (Md.ifp (s8_0 < a1.length) <| (actorgridlaw28_step k (⟨((a1.getD s8_0 default).Kind), ((a1.getD s8_0 default).B), ((a1.getD s8_0 default).Writes), ((a1.getD s8_0 default).Keep)⟩ : Actorgridlaw28Act) s8_1 s8_2).bind fun x14 => bif (!x14.1) then (some (Sum.inr false)) else (Md.ifp (s8_0 + 1 ≤ 9223372036854775807) <| actorgridlaw28_StoreSequences_loop1 k a1 x4 n8 (s8_0 + 1) x14.2.1 x14.2.2))) else (some (Sum.inl ()))
def actorgridlaw28_StoreSequences (k : Nat) (a0 : UInt16) (a1 : List Actorgridlaw28Act) : Option Bool :=
  (actorgridlaw28_awake k).bind fun x1 => bif (!x1) then (some false) else (bif (decide (((a1.length : Nat) : Int) > 50)) then (some true) else ((store_New k ((a0.toNat : Nat) : Int)).bind fun x4 => (actorgridref26_NewStore k ((a0.toNat : Nat) : Int)).bind fun x5 => (actorgridlaw28_same k x4.1 x4.2 x5.1 x5.2).bind fun x6 => bif (!x6) then (some false) else ((actorgridlaw28_StoreSequences_loop1 k a1 x4 k 0 x4.1 x5.1).bind fun o8 => Md.onS o8 (fun x8_0 => some true) (fun r8 => some r8))))
end Md
end Go.Proofs.Ytkcfkcgclljncaa
