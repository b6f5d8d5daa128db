/-
  DiskSequences: its walk: for all arguments that read as data the law returns true, and nothing that was there is written. Conditions: none.
-/
import Derived.Test.YtkcfkcgclljncaaDiskD
import Derived.Test.YtkcfkcgclljncaaDiskN
import Derived.Test.YtkcfkcgclljncaaAbsY
namespace Go.Proofs.Ytkcfkcgclljncaa
open Go.ChangeShapes Go.WideShapes Go.RowKit
open Abs Md
set_option linter.unusedVariables false
set_option maxRecDepth 10000
namespace DiskSequencesW
theorem op24 : Kit.Opens Try.prog 24 1 (rP (fun l => [CV.ls byC l]) (fun l => ∀ x ∈ l, (fun _ => True) x)) :=
  opens_p_slice (f := byC) (p := (fun _ => True)) (by decide) (fun _ => rfl) Try.underlying24 (by kernel_rfl) (opens_p_weaken (g := byC) (q := (fun _ => True)) (opens_p_u8 Try.underlying5 (by kernel_rfl)) (fun _ => rfl) (fun _ h => h))
theorem op43 : Kit.Opens Try.prog 43 4 (rP c_Actorgridlaw26Act (fun _ => True)) := by
  refine ⟨by kernel_rfl, fun H enc w base spare held fuel cs x h => ?_⟩
  obtain ⟨ys, n, _, _, hlen, hyl, hf⟩ := DataW.trod_struct Try.underlying43 h
  have hl : cs.length = 4 := hlen.trans (by kernel_rfl)
  obtain ⟨b0, h0, q0⟩ := field_p (opens_p_u8 Try.underlying5 (by kernel_rfl)) (hf 0 _ rfl) (by rw [hyl]; decide)
  obtain ⟨b1, h1, q1⟩ := field_p op24 (hf 1 _ rfl) (by rw [hyl]; decide)
  obtain ⟨b2, h2, q2⟩ := field_p (opens_p_u8 Try.underlying5 (by kernel_rfl)) (hf 2 _ rfl) (by rw [hyl]; decide)
  obtain ⟨b3, h3, q3⟩ := field_p (opens_p_u8 Try.underlying5 (by kernel_rfl)) (hf 3 _ rfl) (by rw [hyl]; decide)
  exact ⟨⟨b0, b1, b2, b3⟩, all2_whole (all2_join h0 (all2_join h1 (all2_join h2 h3))) hl, trivial⟩
theorem op41 : Kit.Opens Try.prog 41 1 (rP (fun l => [CV.ls c_Actorgridlaw26Act l]) (fun l => ∀ x ∈ l, (fun _ => True) x)) :=
  opens_p_slice (f := c_Actorgridlaw26Act) (p := (fun _ => True)) (by decide) (fun _ => rfl) Try.underlying41 (by kernel_rfl) (opens_p_weaken (g := c_Actorgridlaw26Act) (q := (fun _ => True)) op43 (fun _ => rfl) (fun _ h => h))
abbrev r41 : Kit.Rel (List Actorgridlaw26Act) := rP (fun l => [CV.ls c_Actorgridlaw26Act l]) (fun l => ∀ x ∈ l, (fun _ => True) x)
theorem walk (w : World) (a0 : Int) (w0 : (Lit.int .u16 a0).wf = true) (A1 : Option Addr) (n1 c1 : Nat) (a1 : List Actorgridlaw26Act) (w1 : DiskSequencesW.r41 w w.heap.size a1 [.slice A1 n1 c1]) :
    Calls Try.prog 5 #[.int .u16 a0, .slice A1 n1 c1] w fun e w' => e = .returned (.bool true) ∧ Below w.heap.size w w' := by
  obtain ⟨x0, rfl⟩ := u16_of w0
  obtain ⟨k, hk⟩ := Md.DiskSequences_law x0 a1 
  exact fnc_law (Md.actorgridlaw26_DiskSequences_fn k x0 a1 true hk) (.cons (in_v rfl) (.cons (in_p w1) (.nil)))
end DiskSequencesW
end Go.Proofs.Ytkcfkcgclljncaa
