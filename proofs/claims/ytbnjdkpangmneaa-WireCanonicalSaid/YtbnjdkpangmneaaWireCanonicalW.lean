/-
  WireCanonical: its walk: for all arguments that read as data the law returns true, and nothing that was there is written. Conditions: none.
-/
import Derived.Test.YtbnjdkpangmneaaWlCanonical
import Derived.Test.YtbnjdkpangmneaaWireQj
import Derived.Test.YtbnjdkpangmneaaAbsY
namespace Go.Proofs.Ytbnjdkpangmneaa
open Go.ChangeShapes Go.WideShapes Go.RowKit
open Abs Md
set_option linter.unusedVariables false
set_option maxRecDepth 10000
namespace WireCanonicalW
theorem op22 : Kit.Opens Try.prog 22 1 (rP (fun l => [CV.ls byC l]) (fun l => ∀ x ∈ l, (fun _ => True) x)) :=
  opens_p_slice (f := byC) (p := (fun _ => True)) (by decide) (fun _ => rfl) Try.underlying22 (by kernel_rfl) (opens_p_weaken (g := byC) (q := (fun _ => True)) (opens_p_u8 Try.underlying5 (by kernel_rfl)) (fun _ => rfl) (fun _ h => h))
abbrev r22 : Kit.Rel (List UInt8) := rP (fun l => [CV.ls byC l]) (fun l => ∀ x ∈ l, (fun _ => True) x)
theorem walk (w : World) (A0 : Option Addr) (n0 c0 : Nat) (a0 : List UInt8) (w0 : WireCanonicalW.r22 w w.heap.size a0 [.slice A0 n0 c0]) (a1 : Int) (w1 : (Lit.int .u8 a1).wf = true) :
    Calls Try.prog 9 #[.slice A0 n0 c0, .int .u8 a1] w fun e w' => e = .returned (.bool true) ∧ Below w.heap.size w w' := by
  obtain ⟨x1, rfl⟩ := u8_of w1
  obtain ⟨k, hk⟩ := Md.WireCanonical_law a0 x1 
  exact fnc_law (Md.actorgridlaw1_WireCanonical_fn k a0 x1 true hk) (.cons (in_p w0) (.cons (in_v rfl) (.nil)))
end WireCanonicalW
end Go.Proofs.Ytbnjdkpangmneaa
