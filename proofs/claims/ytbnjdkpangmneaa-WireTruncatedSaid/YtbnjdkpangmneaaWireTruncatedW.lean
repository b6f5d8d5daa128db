/-
  WireTruncated: its walk: for all arguments that read as data the law returns true, and nothing that was there is written. Conditions: none.
-/
import Derived.Test.YtbnjdkpangmneaaWlTruncated
import Derived.Test.YtbnjdkpangmneaaWireQh
import Derived.Test.YtbnjdkpangmneaaAbsY
namespace Go.Proofs.Ytbnjdkpangmneaa
open Go.ChangeShapes Go.WideShapes Go.RowKit
open Abs Md
set_option linter.unusedVariables false
set_option maxRecDepth 10000
namespace WireTruncatedW
def c_Value (x : Md.Value) : List CV := [.val (.int .i64 x.Kind), .val (.int .i64 x.N), .val (Sv x.S), CV.ls c_Int x.I, CV.ls c_Str x.L]
theorem op23 : Kit.Opens Try.prog 23 1 (rP (fun l => [CV.ls c_Int l]) (fun l => ∀ x ∈ l, Md.I64 x)) :=
  opens_p_slice (f := c_Int) (p := Md.I64) (by decide) (fun _ => rfl) Try.underlying23 (by kernel_rfl) (opens_p_weaken (g := c_Int) (q := Md.I64) (opens_p_int Try.underlying3 (by kernel_rfl)) (fun _ => rfl) (fun _ h => h))
theorem op24 : Kit.Opens Try.prog 24 1 (rP (fun l => [CV.ls c_Str l]) (fun l => ∀ x ∈ l, (fun _ => True) x)) :=
  opens_p_slice (f := c_Str) (p := (fun _ => True)) (by decide) (fun _ => rfl) Try.underlying24 (by kernel_rfl) (opens_p_weaken (g := c_Str) (q := (fun _ => True)) (opens_p_str Try.underlying9 (by kernel_rfl)) (fun _ => rfl) (fun _ h => h))
theorem op52 : Kit.Opens Try.prog 52 5 (rP c_Value (fun x => x.ok)) := by
  refine ⟨by kernel_rfl, fun H enc w base spare held fuel cs x h => ?_⟩
  obtain ⟨ys, n, _, _, hlen, hyl, hf⟩ := DataW.trod_struct Try.underlying52 h
  have hl : cs.length = 5 := hlen.trans (by kernel_rfl)
  obtain ⟨b0, h0, q0⟩ := field_p (opens_p_int Try.underlying3 (by kernel_rfl)) (hf 0 _ rfl) (by rw [hyl]; decide)
  obtain ⟨b1, h1, q1⟩ := field_p (opens_p_int Try.underlying3 (by kernel_rfl)) (hf 1 _ rfl) (by rw [hyl]; decide)
  obtain ⟨b2, h2, q2⟩ := field_p (opens_p_str Try.underlying9 (by kernel_rfl)) (hf 2 _ rfl) (by rw [hyl]; decide)
  obtain ⟨b3, h3, q3⟩ := field_p op23 (hf 3 _ rfl) (by rw [hyl]; decide)
  obtain ⟨b4, h4, q4⟩ := field_p op24 (hf 4 _ rfl) (by rw [hyl]; decide)
  exact ⟨⟨b0, b1, b2, b3, b4⟩, all2_whole (all2_join h0 (all2_join h1 (all2_join h2 (all2_join h3 h4)))) hl, (by show Md.Value.ok _; unfold Md.Value.ok; exact ⟨q0, q1, q3⟩)⟩
abbrev r52 : Kit.Rel (Md.Value) := rP c_Value (fun x => x.ok)
theorem op22 : Kit.Opens Try.prog 22 1 (rP (fun l => [CV.ls byC l]) (fun l => ∀ x ∈ l, (fun _ => True) x)) :=
  opens_p_slice (f := byC) (p := (fun _ => True)) (by decide) (fun _ => rfl) Try.underlying22 (by kernel_rfl) (opens_p_weaken (g := byC) (q := (fun _ => True)) (opens_p_u8 Try.underlying5 (by kernel_rfl)) (fun _ => rfl) (fun _ h => h))
abbrev r22 : Kit.Rel (List UInt8) := rP (fun l => [CV.ls byC l]) (fun l => ∀ x ∈ l, (fun _ => True) x)
theorem walk (w : World) (v0 : Array Value) (a0 : Md.Value) (w0 : WireTruncatedW.r52 w w.heap.size a0 v0.toList) (A1 : Option Addr) (n1 c1 : Nat) (a1 : List UInt8) (w1 : WireTruncatedW.r22 w w.heap.size a1 [.slice A1 n1 c1]) (a2 : Int) (w2 : (Lit.int .u16 a2).wf = true) :
    Calls Try.prog 5 #[.agg v0, .slice A1 n1 c1, .int .u16 a2] w fun e w' => e = .returned (.bool true) ∧ Below w.heap.size w w' := by
  obtain ⟨x2, rfl⟩ := u16_of w2
  obtain ⟨k, hk⟩ := Md.WireTruncated_law a0 a1 x2 w0.2
  exact fnc_law (Md.actorgridlaw1_WireTruncated_fn k a0 a1 x2 true hk) (.cons (in_agg w0.1) (.cons (in_p w1) (.cons (in_v rfl) (.nil))))
end WireTruncatedW
end Go.Proofs.Ytbnjdkpangmneaa
