/-
  WireAppends: its walk: for all arguments that read as data the law returns true, and nothing that was there is written. Conditions: none.
-/
import Derived.Test.YtbnjdkpangmneaaWlAppends
import Derived.Test.YtbnjdkpangmneaaWireQg
import Derived.Test.YtbnjdkpangmneaaAbsY
namespace Go.Proofs.Ytbnjdkpangmneaa
open Go.ChangeShapes Go.WideShapes Go.RowKit
open Abs Md
set_option linter.unusedVariables false
set_option maxRecDepth 10000
namespace WireAppendsW
def c_Value (x : Md.Value) : List CV := [.val (.int .i64 x.Kind), .val (.int .i64 x.N), .val (Sv x.S), CV.ls c_Int x.I, CV.ls c_Str x.L]
theorem op22 : Kit.Opens Try.prog 22 1 (rP (fun l => [CV.ls byC l]) (fun l => ∀ x ∈ l, (fun _ => True) x)) :=
  opens_p_slice (f := byC) (p := (fun _ => True)) (by decide) (fun _ => rfl) Try.underlying22 (by kernel_rfl) (opens_p_weaken (g := byC) (q := (fun _ => True)) (opens_p_u8 Try.underlying5 (by kernel_rfl)) (fun _ => rfl) (fun _ h => h))
abbrev r22 : Kit.Rel (List UInt8) := rP (fun l => [CV.ls byC l]) (fun l => ∀ x ∈ l, (fun _ => True) x)
theorem op23 : Kit.Opens Try.prog 23 1 (rP (fun l => [CV.ls c_Int l]) (fun l => ∀ x ∈ l, Md.I64 x)) :=
  opens_p_slice (f := c_Int) (p := Md.I64) (by decide) (fun _ => rfl) Try.underlying23 (by kernel_rfl) (opens_p_weaken (g := c_Int) (q := Md.I64) (opens_p_int Try.underlying3 (by kernel_rfl)) (fun _ => rfl) (fun _ h => h))
theorem op24 : Kit.Opens Try.prog 24 1 (rP (fun l => [CV.ls c_Str l]) (fun l => ∀ x ∈ l, (fun _ => True) x)) :=
  opens_p_slice (f := c_Str) (p := (fun _ => True)) (by decide) (fun _ => rfl) Try.underlying24 (by kernel_rfl) (opens_p_weaken (g := c_Str) (q := (fun _ => True)) (opens_p_str Try.underlying9 (by kernel_rfl)) (fun _ => rfl) (fun _ h => h))
theorem op52 : Kit.Opens Try.prog 52 5 (rP c_Value (fun x => x.ok)) := by
  refine ⟨by kernel_rfl, fun H enc w base spare held fuel cs x h => ?_⟩
  obtain ⟨ys, n, _, _, hlen, hyl, hf⟩ := DataW.trod_struct Try.underlying52 h
  have hl : cs.length = 5 := hlen.trans (by kernel_rfl)
  obtain ⟨b0, h0, q0⟩ := field_p (opens_p_int Try.underlying3 (by kernel_rfl)) (hf 0 _ rfl) (by rw [hyl]; decide)
  obtain ⟨b1, h1, q1⟩ := field_p (opens_p_int Try.underlying3 (by kernel_rfl)) (hf 1 _ rfl) (by rw [hyl]; decide)
  obtain ⟨b2, h2, q2⟩ := field_p (opens_p_str Try.underlying9 (by kernel_rfl)) (hf 2 _ rfl) (by rw [hyl]; decide)
  obtain ⟨b3, h3, q3⟩ := field_p op23 (hf 3 _ rfl) (by rw [hyl]; decide)
  obtain ⟨b4, h4, q4⟩ := field_p op24 (hf 4 _ rfl) (by rw [hyl]; decide)
  exact ⟨⟨b0, b1, b2, b3, b4⟩, all2_whole (all2_join h0 (all2_join h1 (all2_join h2 (all2_join h3 h4)))) hl, (by show Md.Value.ok _; unfold Md.Value.ok; exact ⟨q0, q1, q3⟩)⟩
abbrev r52 : Kit.Rel (Md.Value) := rP c_Value (fun x => x.ok)
theorem walk (w : World) (A0 : Option Addr) (n0 c0 : Nat) (a0 : List UInt8) (w0 : WireAppendsW.r22 w w.heap.size a0 [.slice A0 n0 c0]) (A1 : Option Addr) (n1 c1 : Nat) (a1 : List UInt8) (w1 : WireAppendsW.r22 w w.heap.size a1 [.slice A1 n1 c1]) (v2 : Array Value) (a2 : Md.Value) (w2 : WireAppendsW.r52 w w.heap.size a2 v2.toList) (a3 : Int) (w3 : (Lit.int .u64 a3).wf = true) (a4 : ByteArray) (w4 : a4.size ≤ maxLen) :
    Calls Try.prog 10 #[.slice A0 n0 c0, .slice A1 n1 c1, .agg v2, .int .u64 a3, .string a4] w fun e w' => e = .returned (.bool true) ∧ Below w.heap.size w w' := by
  obtain ⟨x3, rfl⟩ := u64_of w3
  obtain ⟨x4, rfl⟩ := str_of a4
  obtain ⟨k, hk⟩ := Md.WireAppends_law a0 a1 a2 x3 x4 w2.2
  exact fnc_law (Md.actorgridlaw1_WireAppends_fn k a0 a1 a2 x3 x4 true hk) (.cons (in_p w0) (.cons (in_p w1) (.cons (in_agg w2.1) (.cons (in_v rfl) (.cons (in_v rfl) (.nil))))))
end WireAppendsW
end Go.Proofs.Ytbnjdkpangmneaa
