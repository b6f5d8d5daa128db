/-
  StoreCompacts: its walk: for all arguments that read as data the law returns true, and nothing that was there is written. Conditions: none.
-/
import Derived.Test.YtkcfkcgclljncaaStorT
import Derived.Test.YtkcfkcgclljncaaStorRh
import Derived.Test.YtkcfkcgclljncaaAbsY
namespace Go.Proofs.Ytkcfkcgclljncaa
open Go.ChangeShapes Go.WideShapes Go.RowKit
open Abs Md
set_option linter.unusedVariables false
set_option maxRecDepth 10000
namespace StoreCompactsW
theorem op24 : Kit.Opens Try.prog 24 1 (rP (fun l => [CV.ls byC l]) (fun l => ∀ x ∈ l, (fun _ => True) x)) :=
  opens_p_slice (f := byC) (p := (fun _ => True)) (by decide) (fun _ => rfl) Try.underlying24 (by kernel_rfl) (opens_p_weaken (g := byC) (q := (fun _ => True)) (opens_p_u8 Try.underlying5 (by kernel_rfl)) (fun _ => rfl) (fun _ h => h))
theorem op22 : Kit.Opens Try.prog 22 1 (rP (fun l => [CV.ls c_LU8 l]) (fun l => ∀ x ∈ l, (fun l => ∀ x ∈ l, (fun _ => True) x) x)) :=
  opens_p_slice (f := c_LU8) (p := (fun l => ∀ x ∈ l, (fun _ => True) x)) (by decide) (fun _ => rfl) Try.underlying22 (by kernel_rfl) (opens_p_weaken (g := c_LU8) (q := (fun l => ∀ x ∈ l, (fun _ => True) x)) op24 (fun _ => rfl) (fun _ h => h))
abbrev r22 : Kit.Rel (List (List UInt8)) := rP (fun l => [CV.ls c_LU8 l]) (fun l => ∀ x ∈ l, (fun l => ∀ x ∈ l, (fun _ => True) x) x)
abbrev r24 : Kit.Rel (List UInt8) := rP (fun l => [CV.ls byC l]) (fun l => ∀ x ∈ l, (fun _ => True) x)
theorem walk (w : World) (A0 : Option Addr) (n0 c0 : Nat) (a0 : List (List UInt8)) (w0 : StoreCompactsW.r22 w w.heap.size a0 [.slice A0 n0 c0]) (A1 : Option Addr) (n1 c1 : Nat) (a1 : List (List UInt8)) (w1 : StoreCompactsW.r22 w w.heap.size a1 [.slice A1 n1 c1]) (A2 : Option Addr) (n2 c2 : Nat) (a2 : List UInt8) (w2 : StoreCompactsW.r24 w w.heap.size a2 [.slice A2 n2 c2]) :
    Calls Try.prog 12 #[.slice A0 n0 c0, .slice A1 n1 c1, .slice A2 n2 c2] w fun e w' => e = .returned (.bool true) ∧ Below w.heap.size w w' := by
  obtain ⟨k, hk⟩ := Md.StoreCompacts_law a0 a1 a2 
  exact fnc_law (Md.actorgridlaw28_StoreCompacts_fn k a0 a1 a2 true hk) (.cons (in_p w0) (.cons (in_p w1) (.cons (in_p w2) (.nil))))
end StoreCompactsW
end Go.Proofs.Ytkcfkcgclljncaa
