/-
  WireBursts: its walk: for all arguments that read as data the law returns true, and nothing that was there is written. Conditions: none.
-/
import Derived.Test.YtbnjdkpangmneaaWlBursts
import Derived.Test.YtbnjdkpangmneaaWireQi
import Derived.Test.YtbnjdkpangmneaaAbsY
namespace Go.Proofs.Ytbnjdkpangmneaa
open Go.ChangeShapes Go.WideShapes Go.RowKit
open Abs Md
set_option linter.unusedVariables false
set_option maxRecDepth 10000
namespace WireBurstsW
theorem op22 : Kit.Opens Try.prog 22 1 (rP (fun l => [CV.ls byC l]) (fun l => ∀ x ∈ l, (fun _ => True) x)) :=
  opens_p_slice (f := byC) (p := (fun _ => True)) (by decide) (fun _ => rfl) Try.underlying22 (by kernel_rfl) (opens_p_weaken (g := byC) (q := (fun _ => True)) (opens_p_u8 Try.underlying5 (by kernel_rfl)) (fun _ => rfl) (fun _ h => h))
abbrev r22 : Kit.Rel (List UInt8) := rP (fun l => [CV.ls byC l]) (fun l => ∀ x ∈ l, (fun _ => True) x)
theorem walk (w : World) (a0 : Int) (w0 : (Lit.int .u8 a0).wf = true) (A1 : Option Addr) (n1 c1 : Nat) (a1 : List UInt8) (w1 : WireBurstsW.r22 w w.heap.size a1 [.slice A1 n1 c1]) (a2 : Int) (w2 : (Lit.int .u16 a2).wf = true) (a3 : Int) (w3 : (Lit.int .u32 a3).wf = true) :
    Calls Try.prog 6 #[.int .u8 a0, .slice A1 n1 c1, .int .u16 a2, .int .u32 a3] w fun e w' => e = .returned (.bool true) ∧ Below w.heap.size w w' := by
  obtain ⟨x0, rfl⟩ := u8_of w0
  obtain ⟨x2, rfl⟩ := u16_of w2
  obtain ⟨x3, rfl⟩ := u32_of w3
  obtain ⟨k, hk⟩ := Md.WireBursts_law x0 a1 x2 x3 
  exact fnc_law (Md.actorgridlaw1_WireBursts_fn k x0 a1 x2 x3 true hk) (.cons (in_v rfl) (.cons (in_p w1) (.cons (in_v rfl) (.cons (in_v rfl) (.nil)))))
end WireBurstsW
end Go.Proofs.Ytbnjdkpangmneaa
