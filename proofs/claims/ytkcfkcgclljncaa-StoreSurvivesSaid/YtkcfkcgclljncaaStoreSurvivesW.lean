/-
  StoreSurvives: its walk: for all arguments that read as data the law returns true, and nothing that was there is written. Conditions: none.
-/
import Derived.Test.YtkcfkcgclljncaaStorS
import Derived.Test.YtkcfkcgclljncaaStorRi
import Derived.Test.YtkcfkcgclljncaaAbsY
namespace Go.Proofs.Ytkcfkcgclljncaa
open Go.ChangeShapes Go.WideShapes Go.RowKit
open Abs Md
set_option linter.unusedVariables false
set_option maxRecDepth 10000
namespace StoreSurvivesW
theorem op24 : Kit.Opens Try.prog 24 1 (rP (fun l => [CV.ls byC l]) (fun l => ∀ x ∈ l, (fun _ => True) x)) :=
  opens_p_slice (f := byC) (p := (fun _ => True)) (by decide) (fun _ => rfl) Try.underlying24 (by kernel_rfl) (opens_p_weaken (g := byC) (q := (fun _ => True)) (opens_p_u8 Try.underlying5 (by kernel_rfl)) (fun _ => rfl) (fun _ h => h))
theorem op85 : Kit.Opens Try.prog 85 4 (rP c_Actorgridlaw28Act (fun _ => True)) := by
  refine ⟨by kernel_rfl, fun H enc w base spare held fuel cs x h => ?_⟩
  obtain ⟨ys, n, _, _, hlen, hyl, hf⟩ := DataW.trod_struct Try.underlying85 h
  have hl : cs.length = 4 := hlen.trans (by kernel_rfl)
  obtain ⟨b0, h0, q0⟩ := field_p (opens_p_u8 Try.underlying5 (by kernel_rfl)) (hf 0 _ rfl) (by rw [hyl]; decide)
  obtain ⟨b1, h1, q1⟩ := field_p op24 (hf 1 _ rfl) (by rw [hyl]; decide)
  obtain ⟨b2, h2, q2⟩ := field_p (opens_p_u8 Try.underlying5 (by kernel_rfl)) (hf 2 _ rfl) (by rw [hyl]; decide)
  obtain ⟨b3, h3, q3⟩ := field_p (opens_p_u8 Try.underlying5 (by kernel_rfl)) (hf 3 _ rfl) (by rw [hyl]; decide)
  exact ⟨⟨b0, b1, b2, b3⟩, all2_whole (all2_join h0 (all2_join h1 (all2_join h2 h3))) hl, trivial⟩
theorem op83 : Kit.Opens Try.prog 83 1 (rP (fun l => [CV.ls c_Actorgridlaw28Act l]) (fun l => ∀ x ∈ l, (fun _ => True) x)) :=
  opens_p_slice (f := c_Actorgridlaw28Act) (p := (fun _ => True)) (by decide) (fun _ => rfl) Try.underlying83 (by kernel_rfl) (opens_p_weaken (g := c_Actorgridlaw28Act) (q := (fun _ => True)) op85 (fun _ => rfl) (fun _ h => h))
abbrev r83 : Kit.Rel (List Md.Actorgridlaw28Act) := rP (fun l => [CV.ls c_Actorgridlaw28Act l]) (fun l => ∀ x ∈ l, (fun _ => True) x)
theorem walk (w : World) (A0 : Option Addr) (n0 c0 : Nat) (a0 : List Md.Actorgridlaw28Act) (w0 : StoreSurvivesW.r83 w w.heap.size a0 [.slice A0 n0 c0]) :
    Calls Try.prog 14 #[.slice A0 n0 c0] w fun e w' => e = .returned (.bool true) ∧ Below w.heap.size w w' := by
  obtain ⟨k, hk⟩ := Md.StoreSurvives_law a0 
  exact fnc_law (Md.actorgridlaw28_StoreSurvives_fn k a0 true hk) (.cons (in_p w0) (.nil))
end StoreSurvivesW
end Go.Proofs.Ytkcfkcgclljncaa
