import Derived.Test.YtclffekkjfhpdaaQCodeO
import Derived.Test.YtclffekkjfhpdaaQCodePi
import Derived.Test.YtclffekkjfhpdaaQAbsY
namespace Go.Proofs.Ytclffekkjfhpdaa
open Go.ChangeShapes Go.WideShapes Go.RowKit
open Abs Md
set_option linter.unusedVariables false
set_option maxRecDepth 10000
namespace CodeBackW
theorem slc_len {w : World} {n : Nat} {el : Nat → List CV} {v : Value} (h : RepC NoA w (.slc n el) v) : n ≤ 9223372036854775807 := by
  cases h with
  | nil => omega
  | emp => omega
  | slc _ _ _ _ _ _ _ _ _ hc hm => exact Nat.le_trans hc hm
theorem opens_p_lenL {α : Type} [Inhabited α] {P : Program} {t : TypeId} {f : α → List CV} {p : List α → Prop} (h : Kit.Opens P t 1 (rP (fun l => [CV.ls f l]) p)) : Kit.Opens P t 1 (rP (fun l => [CV.ls f l]) fun l => p l ∧ l.length ≤ 9223372036854775807) :=
  ⟨h.1, fun H enc w base spare held fuel cs x k => by
    obtain ⟨a, h1, h2⟩ := h.2 H enc w base spare held fuel cs x k
    refine ⟨a, h1, h2, ?_⟩
    have h3 : All2 (RepC NoA w) [CV.ls f a] cs := h1
    cases h3 with
    | cons hr _ => exact slc_len hr⟩
def c_Code (x : Md.Code) : List CV := [CV.ls c_CodeType x.Types]
theorem op43 : Kit.Opens Try.prog 43 1 (rP (fun l => [CV.ls c_Int l]) (fun l => ∀ x ∈ l, Md.I64 x)) :=
  opens_p_slice (f := c_Int) (p := Md.I64) (by decide) (fun _ => rfl) Try.underlying43 (by kernel_rfl) (opens_p_weaken (g := c_Int) (q := Md.I64) (opens_p_int Try.underlying3 (by kernel_rfl)) (fun _ => rfl) (fun _ h => h))
theorem op49 : Kit.Opens Try.prog 49 1 (rP (fun l => [CV.ls c_Str l]) (fun l => l.length ≤ 9223372036854775807)) :=
  opens_p_weaken (opens_p_lenL (opens_p_slice (f := c_Str) (p := fun _ => True) (by decide) (fun _ => rfl) Try.underlying49 (by kernel_rfl) (opens_p_weaken (g := c_Str) (q := (fun _ => True)) (opens_p_str Try.underlying9 (by kernel_rfl)) (fun _ => rfl) (fun _ h => h)))) (fun _ => rfl) (fun _ h => h.2)
theorem op51 : Kit.Opens Try.prog 51 5 (rP c_Value (fun x => x.okl)) := by
  refine ⟨by kernel_rfl, fun H enc w base spare held fuel cs x h => ?_⟩
  obtain ⟨ys, n, _, _, hlen, hyl, hf⟩ := DataW.trod_struct Try.underlying51 h
  have hl : cs.length = 5 := hlen.trans (by kernel_rfl)
  obtain ⟨b0, h0, q0⟩ := field_p (opens_p_int Try.underlying3 (by kernel_rfl)) (hf 0 _ rfl) (by rw [hyl]; decide)
  obtain ⟨b1, h1, q1⟩ := field_p (opens_p_int Try.underlying3 (by kernel_rfl)) (hf 1 _ rfl) (by rw [hyl]; decide)
  obtain ⟨b2, h2, q2⟩ := field_p (opens_p_str Try.underlying9 (by kernel_rfl)) (hf 2 _ rfl) (by rw [hyl]; decide)
  obtain ⟨b3, h3, q3⟩ := field_p op43 (hf 3 _ rfl) (by rw [hyl]; decide)
  obtain ⟨b4, h4, q4⟩ := field_p op49 (hf 4 _ rfl) (by rw [hyl]; decide)
  exact ⟨⟨b0, b1, b2, b3, b4⟩, all2_whole (all2_join h0 (all2_join h1 (all2_join h2 (all2_join h3 h4)))) hl, (by show Md.Value.okl _; unfold Md.Value.okl; exact ⟨q0, q1, q3, q4⟩)⟩
theorem op56 : Kit.Opens Try.prog 56 7 (rP c_Field (fun x => x.okl)) := by
  refine ⟨by kernel_rfl, fun H enc w base spare held fuel cs x h => ?_⟩
  obtain ⟨ys, n, _, _, hlen, hyl, hf⟩ := DataW.trod_struct Try.underlying56 h
  have hl : cs.length = 7 := hlen.trans (by kernel_rfl)
  obtain ⟨b0, h0, q0⟩ := field_p (opens_p_str Try.underlying9 (by kernel_rfl)) (hf 0 _ rfl) (by rw [hyl]; decide)
  obtain ⟨b1, h1, q1⟩ := field_p (opens_p_int Try.underlying3 (by kernel_rfl)) (hf 1 _ rfl) (by rw [hyl]; decide)
  obtain ⟨b2, h2, q2⟩ := field_p op51 (hf 2 _ rfl) (by rw [hyl]; decide)
  exact ⟨⟨b0, b1, b2⟩, all2_whole (all2_join h0 (all2_join h1 h2)) hl, (by show Md.Field.okl _; unfold Md.Field.okl; exact ⟨q1, q2⟩)⟩
theorem op38 : Kit.Opens Try.prog 38 1 (rP (fun l => [CV.ls c_Field l]) (fun l => ∀ x ∈ l, (fun x => x.okl) x)) :=
  opens_p_slice (f := c_Field) (p := (fun x => x.okl)) (by decide) (fun _ => rfl) Try.underlying38 (by kernel_rfl) (opens_p_weaken (g := c_Field) (q := (fun x => x.okl)) op56 (fun _ => rfl) (fun _ h => h))
theorem op53 : Kit.Opens Try.prog 53 8 (rP c_Instr (fun x => x.okl)) := by
  refine ⟨by kernel_rfl, fun H enc w base spare held fuel cs x h => ?_⟩
  obtain ⟨ys, n, _, _, hlen, hyl, hf⟩ := DataW.trod_struct Try.underlying53 h
  have hl : cs.length = 8 := hlen.trans (by kernel_rfl)
  obtain ⟨b0, h0, q0⟩ := field_p (opens_p_int Try.underlying3 (by kernel_rfl)) (hf 0 _ rfl) (by rw [hyl]; decide)
  obtain ⟨b1, h1, q1⟩ := field_p (opens_p_int Try.underlying3 (by kernel_rfl)) (hf 1 _ rfl) (by rw [hyl]; decide)
  obtain ⟨b2, h2, q2⟩ := field_p (opens_p_int Try.underlying3 (by kernel_rfl)) (hf 2 _ rfl) (by rw [hyl]; decide)
  obtain ⟨b3, h3, q3⟩ := field_p op51 (hf 3 _ rfl) (by rw [hyl]; decide)
  exact ⟨⟨b0, b1, b2, b3⟩, all2_whole (all2_join h0 (all2_join h1 (all2_join h2 h3))) hl, (by show Md.Instr.okl _; unfold Md.Instr.okl; exact ⟨q0, q1, q2, q3⟩)⟩
theorem op46 : Kit.Opens Try.prog 46 1 (rP (fun l => [CV.ls c_Instr l]) (fun l => ∀ x ∈ l, (fun x => x.okl) x)) :=
  opens_p_slice (f := c_Instr) (p := (fun x => x.okl)) (by decide) (fun _ => rfl) Try.underlying46 (by kernel_rfl) (opens_p_weaken (g := c_Instr) (q := (fun x => x.okl)) op53 (fun _ => rfl) (fun _ h => h))
theorem op48 : Kit.Opens Try.prog 48 5 (rP c_CodeMethod (fun x => x.okl)) := by
  refine ⟨by kernel_rfl, fun H enc w base spare held fuel cs x h => ?_⟩
  obtain ⟨ys, n, _, _, hlen, hyl, hf⟩ := DataW.trod_struct Try.underlying48 h
  have hl : cs.length = 5 := hlen.trans (by kernel_rfl)
  obtain ⟨b0, h0, q0⟩ := field_p (opens_p_str Try.underlying9 (by kernel_rfl)) (hf 0 _ rfl) (by rw [hyl]; decide)
  obtain ⟨b1, h1, q1⟩ := field_p op43 (hf 1 _ rfl) (by rw [hyl]; decide)
  obtain ⟨b2, h2, q2⟩ := field_p (opens_p_int Try.underlying3 (by kernel_rfl)) (hf 2 _ rfl) (by rw [hyl]; decide)
  obtain ⟨b3, h3, q3⟩ := field_p op43 (hf 3 _ rfl) (by rw [hyl]; decide)
  obtain ⟨b4, h4, q4⟩ := field_p op46 (hf 4 _ rfl) (by rw [hyl]; decide)
  exact ⟨⟨b0, b1, b2, b3, b4⟩, all2_whole (all2_join h0 (all2_join h1 (all2_join h2 (all2_join h3 h4)))) hl, (by show Md.CodeMethod.okl _; unfold Md.CodeMethod.okl; exact ⟨q1, q2, q3, q4⟩)⟩
theorem op39 : Kit.Opens Try.prog 39 1 (rP (fun l => [CV.ls c_CodeMethod l]) (fun l => ∀ x ∈ l, (fun x => x.okl) x)) :=
  opens_p_slice (f := c_CodeMethod) (p := (fun x => x.okl)) (by decide) (fun _ => rfl) Try.underlying39 (by kernel_rfl) (opens_p_weaken (g := c_CodeMethod) (q := (fun x => x.okl)) op48 (fun _ => rfl) (fun _ h => h))
theorem op41 : Kit.Opens Try.prog 41 3 (rP c_CodeType (fun x => x.okl)) := by
  refine ⟨by kernel_rfl, fun H enc w base spare held fuel cs x h => ?_⟩
  obtain ⟨ys, n, _, _, hlen, hyl, hf⟩ := DataW.trod_struct Try.underlying41 h
  have hl : cs.length = 3 := hlen.trans (by kernel_rfl)
  obtain ⟨b0, h0, q0⟩ := field_p (opens_p_str Try.underlying9 (by kernel_rfl)) (hf 0 _ rfl) (by rw [hyl]; decide)
  obtain ⟨b1, h1, q1⟩ := field_p op38 (hf 1 _ rfl) (by rw [hyl]; decide)
  obtain ⟨b2, h2, q2⟩ := field_p op39 (hf 2 _ rfl) (by rw [hyl]; decide)
  exact ⟨⟨b0, b1, b2⟩, all2_whole (all2_join h0 (all2_join h1 h2)) hl, (by show Md.CodeType.okl _; unfold Md.CodeType.okl; exact ⟨q1, q2⟩)⟩
theorem op22 : Kit.Opens Try.prog 22 1 (rP (fun l => [CV.ls c_CodeType l]) (fun l => ∀ x ∈ l, (fun x => x.okl) x)) :=
  opens_p_slice (f := c_CodeType) (p := (fun x => x.okl)) (by decide) (fun _ => rfl) Try.underlying22 (by kernel_rfl) (opens_p_weaken (g := c_CodeType) (q := (fun x => x.okl)) op41 (fun _ => rfl) (fun _ h => h))
theorem op24 : Kit.Opens Try.prog 24 1 (rP c_Code (fun x => x.okl)) := by
  refine ⟨by kernel_rfl, fun H enc w base spare held fuel cs x h => ?_⟩
  obtain ⟨ys, n, _, _, hlen, hyl, hf⟩ := DataW.trod_struct Try.underlying24 h
  have hl : cs.length = 1 := hlen.trans (by kernel_rfl)
  obtain ⟨b0, h0, q0⟩ := field_p op22 (hf 0 _ rfl) (by rw [hyl]; decide)
  exact ⟨⟨b0⟩, all2_whole h0 hl, (by show Md.Code.okl _; unfold Md.Code.okl; exact q0)⟩
abbrev r24 : Kit.Rel (Md.Code) := rP c_Code (fun x => x.okl)
theorem op25 : Kit.Opens Try.prog 25 1 (rP (fun l => [CV.ls byC l]) (fun l => ∀ x ∈ l, (fun _ => True) x)) :=
  opens_p_slice (f := byC) (p := (fun _ => True)) (by decide) (fun _ => rfl) Try.underlying25 (by kernel_rfl) (opens_p_weaken (g := byC) (q := (fun _ => True)) (opens_p_u8 Try.underlying5 (by kernel_rfl)) (fun _ => rfl) (fun _ h => h))
abbrev r25 : Kit.Rel (List UInt8) := rP (fun l => [CV.ls byC l]) (fun l => ∀ x ∈ l, (fun _ => True) x)
theorem walk (w : World) (v0 : Array Value) (a0 : Md.Code) (w0 : CodeBackW.r24 w w.heap.size a0 v0.toList) (A1 : Option Addr) (n1 c1 : Nat) (a1 : List UInt8) (w1 : CodeBackW.r25 w w.heap.size a1 [.slice A1 n1 c1]) (a2 : Int) (w2 : (Lit.int .u16 a2).wf = true) :
    Calls Try.prog 3 #[.agg v0, .slice A1 n1 c1, .int .u16 a2] w fun e w' => e = .returned (.bool true) ∧ Below w.heap.size w w' := by
  obtain ⟨x2, rfl⟩ := u16_of w2
  obtain ⟨k, hk⟩ := Md.CodeBack_law a0 a1 x2 w0.2
  exact fnc_law (Md.actorgridlaw20_CodeBack_fn k a0 a1 x2 true hk) (.cons (in_agg w0.1) (.cons (in_p w1) (.cons (in_v rfl) (.nil))))
end CodeBackW
end Go.Proofs.Ytclffekkjfhpdaa
