/-
  StorT: what the functions compute, as plain Lean functions (printed by wip/tools/auto.py from the functions' trees). No condition.
-/
import Derived.Test.YtkcfkcgclljncaaStorKM
namespace Go.Proofs.Ytkcfkcgclljncaa
set_option linter.unusedVariables false
namespace Md
def actorgridlaw28_StoreCompacts_loop3 (k : Nat) (a1 : List (List UInt8)) (x12 : Store × StoreContents × Int) : Nat → Nat → Option (Sum Unit Bool)
  | 0, _ => none
  | n17 + 1, s17_0 => bif (decide (((s17_0 : Nat) : Int) < ((a1.length : Nat) : Int))) then (Md.ifp (s17_0 < x12.2.1.Entries.length) <| Md.ifp (s17_0 < a1.length) <| bif (!(decide ((x12.2.1.Entries.getD s17_0 default) = (a1.getD s17_0 default)))) then (some (Sum.inr false)) else (Md.ifp (s17_0 + 1 ≤ 9223372036854775807) <| actorgridlaw28_StoreCompacts_loop3 k a1 x12 n17 (s17_0 + 1))) else (some (Sum.inl ()))
def actorgridlaw28_StoreCompacts_loop2 (k : Nat) (a1 : List (List UInt8)) : Nat → Int → Nat → Store → Option (Sum (Int × Store) Bool)
  | 0, _, _, _ => none
  | n10 + 1, s10_0, s10_1, s10_2 => bif ((decide (((s10_1 : Nat) : Int) < ((a1.length : Nat) : Int))) && (s10_0 == 0)) then ((Md.ifp (s10_1 < a1.length) <| bif (decide ((((a1.getD s10_1 default).length : Nat) : Int) > 300)) then (some (Sum.inr true)) else (Md.ifp (s10_1 < a1.length) <| (store_Put k s10_2 (a1.getD s10_1 default)).bind fun x30 => some (Sum.inl (x30.2, x30.1))) : Option (Sum (Int × Store) Bool)).bind fun o25 => Md.onS o25 (fun x25_0 => Md.ifp (s10_1 + 1 ≤ 9223372036854775807) <| actorgridlaw28_StoreCompacts_loop2 k a1 n10 x25_0.1 (s10_1 + 1) x25_0.2) (fun r25 => some (Sum.inr r25))) else (some (Sum.inl (s10_0, s10_2)))
def actorgridlaw28_StoreCompacts_loop1 (k : Nat) (a0 : List (List UInt8)) : Nat → Int → Nat → Store → Option (Sum (Int × Store) Bool)
  | 0, _, _, _ => none
  | n7 + 1, s7_0, s7_1, s7_2 => bif ((decide (((s7_1 : Nat) : Int) < ((a0.length : Nat) : Int))) && (s7_0 == 0)) then ((Md.ifp (s7_1 < a0.length) <| bif (decide ((((a0.getD s7_1 default).length : Nat) : Int) > 300)) then (some (Sum.inr true)) else (Md.ifp (s7_1 < a0.length) <| (store_Put k s7_2 (a0.getD s7_1 default)).bind fun x38 => some (Sum.inl (x38.2, x38.1))) : Option (Sum (Int × Store) Bool)).bind fun o33 => Md.onS o33 (fun x33_0 => Md.ifp (s7_1 + 1 ≤ 9223372036854775807) <| actorgridlaw28_StoreCompacts_loop1 k a0 n7 x33_0.1 (s7_1 + 1) x33_0.2) (fun r33 => some (Sum.inr r33))) else (some (Sum.inl (s7_0, s7_2)))
def actorgridlaw28_StoreCompacts (k : Nat) (a0 : List (List UInt8)) (a1 : List (List UInt8)) (a2 : List UInt8) : Option Bool :=
  (actorgridlaw28_awake k).bind fun x1 => bif (!x1) then (some false) else (bif (((decide (((a0.length : Nat) : Int) > 30)) || (decide (((a1.length : Nat) : Int) > 30))) || (decide (((a2.length : Nat) : Int) > 2000))) then (some true) else ((store_New k 1048576).bind fun x6 => (actorgridlaw28_StoreCompacts_loop1 k a0 k x6.2 0 x6.1).bind fun o7 => Md.onS o7 (fun x7_0 => bif (x7_0.1 != 0) then (some false) else ((store_Checkpoint k x7_0.2 a2).bind fun x9 => (actorgridlaw28_StoreCompacts_loop2 k a1 k x9.2 0 x9.1).bind fun o10 => Md.onS o10 (fun x10_0 => bif (x10_0.1 != 0) then (some false) else ((store_Recover k x10_0.2.Disks.x0 x10_0.2.Disks.x1).bind fun x12 => bif ((((x12.2.2 != 0) || (x12.2.1.Base != ((a0.length : Nat) : Int))) || (!(decide (x12.2.1.State = a2)))) || (((x12.2.1.Entries.length : Nat) : Int) != ((a1.length : Nat) : Int))) then (some false) else ((actorgridlaw28_StoreCompacts_loop3 k a1 x12 k 0).bind fun o17 => Md.onS o17 (fun x17_0 => some true) (fun r17 => some r17)))) (fun r10 => some r10))) (fun r7 => some r7)))
end Md
end Go.Proofs.Ytkcfkcgclljncaa
