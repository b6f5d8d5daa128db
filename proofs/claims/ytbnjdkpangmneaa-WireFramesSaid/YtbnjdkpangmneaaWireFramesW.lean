/-
  WireFrames: its walk: for all arguments that read as data the law returns true, and nothing that was there is written. Conditions: none.
-/
import Derived.Test.YtbnjdkpangmneaaWlFrames
import Derived.Test.YtbnjdkpangmneaaWireQb
import Derived.Test.YtbnjdkpangmneaaAbsY
namespace Go.Proofs.Ytbnjdkpangmneaa
open Go.ChangeShapes Go.WideShapes Go.RowKit
open Abs Md
set_option linter.unusedVariables false
set_option maxRecDepth 10000
namespace WireFramesW
theorem op22 : Kit.Opens Try.prog 22 1 (rP (fun l => [CV.ls byC l]) (fun l => ∀ x ∈ l, (fun _ => True) x)) :=
  opens_p_slice (f := byC) (p := (fun _ => True)) (by decide) (fun _ => rfl) Try.underlying22 (by kernel_rfl) (opens_p_weaken (g := byC) (q := (fun _ => True)) (opens_p_u8 Try.underlying5 (by kernel_rfl)) (fun _ => rfl) (fun _ h => h))
abbrev r22 : Kit.Rel (List UInt8) := rP (fun l => [CV.ls byC l]) (fun l => ∀ x ∈ l, (fun _ => True) x)
theorem walk (w : World) (A0 : Option Addr) (n0 c0 : Nat) (a0 : List UInt8) (w0 : WireFramesW.r22 w w.heap.size a0 [.slice A0 n0 c0]) (a1 : Int) (w1 : (Lit.int .i64 a1).wf = true) (A2 : Option Addr) (n2 c2 : Nat) (a2 : List UInt8) (w2 : WireFramesW.r22 w w.heap.size a2 [.slice A2 n2 c2]) :
    Calls Try.prog 4 #[.slice A0 n0 c0, .int .i64 a1, .slice A2 n2 c2] w fun e w' => e = .returned (.bool true) ∧ Below w.heap.size w w' := by
  obtain ⟨k, hk⟩ := Md.WireFrames_law a0 a1 a2 (i64_of w1)
  exact fnc_law (Md.actorgridlaw1_WireFrames_fn k a0 a1 a2 true hk) (.cons (in_p w0) (.cons (in_v rfl) (.cons (in_p w2) (.nil))))
end WireFramesW
end Go.Proofs.Ytbnjdkpangmneaa
