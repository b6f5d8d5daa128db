/-
  StoreAny: its walk: for all arguments that read as data the law returns true, and nothing that was there is written. Conditions: none.
-/
import Derived.Test.YtkcfkcgclljncaaStorL
import Derived.Test.YtkcfkcgclljncaaStorRL
import Derived.Test.YtkcfkcgclljncaaAbsY
import Derived.OpenShut
namespace Go.Proofs.Ytkcfkcgclljncaa
open Go.ChangeShapes Go.WideShapes Go.RowKit
open Abs Md
set_option linter.unusedVariables false
set_option maxRecDepth 10000
namespace StoreAnyW
/-- An element of an array that came in. -/
theorem arr_p {α : Type} {P : Program} {e : TypeId} {n : Nat} {g : α → List CV} {p : α → Prop} (ho : Kit.Opens P e n (rP g p)) {H : Type} {enc : TypeId × Value → H} {w : World} {base : Nat} {spare : Nat → Bool} {held : Bool} {fuel : Nat} {cs : List Value} {ys : List (DataW H × List MemPlace)} {j : Nat}
    (hf : DataW.trod enc P w base spare held fuel e ((cs.drop (j * P.cellsOf e)).take (P.cellsOf e)) = ys[j]?) (hj : j < ys.length) : ∃ a, All2 (RepC NoA w) (g a) ((cs.drop (j * n)).take n) ∧ p a := by
  rw [List.getElem?_eq_getElem hj, ho.1] at hf
  exact ho.2 _ _ _ _ _ _ _ _ _ hf
theorem op24 : Kit.Opens Try.prog 24 1 (rP (fun l => [CV.ls byC l]) (fun l => ∀ x ∈ l, (fun _ => True) x)) :=
  opens_p_slice (f := byC) (p := (fun _ => True)) (by decide) (fun _ => rfl) Try.underlying24 (by kernel_rfl) (opens_p_weaken (g := byC) (q := (fun _ => True)) (opens_p_u8 Try.underlying5 (by kernel_rfl)) (fun _ => rfl) (fun _ h => h))
theorem op26 : Kit.Opens Try.prog 26 6 (rP c_Disk (fun x => x.ok)) := by
  refine ⟨by kernel_rfl, fun H enc w base spare held fuel cs x h => ?_⟩
  obtain ⟨ys, n, _, _, hlen, hyl, hf⟩ := DataW.trod_struct Try.underlying26 h
  have hl : cs.length = 6 := hlen.trans (by kernel_rfl)
  obtain ⟨b0, h0, q0⟩ := field_p op24 (hf 0 _ rfl) (by rw [hyl]; decide)
  obtain ⟨b1, h1, q1⟩ := field_p (opens_p_int Try.underlying3 (by kernel_rfl)) (hf 1 _ rfl) (by rw [hyl]; decide)
  obtain ⟨b2, h2, q2⟩ := field_p (opens_p_bool Try.underlying4 (by kernel_rfl)) (hf 2 _ rfl) (by rw [hyl]; decide)
  obtain ⟨b3, h3, q3⟩ := field_p (opens_p_int Try.underlying3 (by kernel_rfl)) (hf 3 _ rfl) (by rw [hyl]; decide)
  obtain ⟨b4, h4, q4⟩ := field_p (opens_p_int Try.underlying3 (by kernel_rfl)) (hf 4 _ rfl) (by rw [hyl]; decide)
  obtain ⟨b5, h5, q5⟩ := field_p (opens_p_bool Try.underlying4 (by kernel_rfl)) (hf 5 _ rfl) (by rw [hyl]; decide)
  exact ⟨⟨b0, b1, b2, b3, b4, b5⟩, all2_whole (all2_join h0 (all2_join h1 (all2_join h2 (all2_join h3 (all2_join h4 h5))))) hl, (by show Md.Disk.ok _; unfold Md.Disk.ok; exact ⟨q1, q3, q4⟩)⟩
theorem op68 : Kit.Opens Try.prog 68 12 (rP c_Arr2Disk (fun x => x.ok)) := by
  refine ⟨by kernel_rfl, fun H enc w base spare held fuel cs x h => ?_⟩
  obtain ⟨ys, n, _, _, hlen, hyl, hf⟩ := DataW.trod_array Try.underlying68 h
  have hl : cs.length = 12 := hlen.trans (by kernel_rfl)
  obtain ⟨b0, h0, q0⟩ := arr_p op26 (hf 0 (by decide)) (by rw [hyl]; decide)
  obtain ⟨b1, h1, q1⟩ := arr_p op26 (hf 1 (by decide)) (by rw [hyl]; decide)
  exact ⟨⟨b0, b1⟩, all2_whole (all2_join h0 h1) hl, (by show Md.Arr2Disk.ok _; unfold Md.Arr2Disk.ok; exact ⟨q0, q1⟩)⟩
theorem op70 : Kit.Opens Try.prog 70 16 (rP c_Store (fun x => x.ok)) := by
  refine ⟨by kernel_rfl, fun H enc w base spare held fuel cs x h => ?_⟩
  obtain ⟨ys, n, _, _, hlen, hyl, hf⟩ := DataW.trod_struct Try.underlying70 h
  have hl : cs.length = 16 := hlen.trans (by kernel_rfl)
  obtain ⟨b0, h0, q0⟩ := field_p op68 (hf 0 _ rfl) (by rw [hyl]; decide)
  obtain ⟨b1, h1, q1⟩ := field_p (opens_p_int Try.underlying3 (by kernel_rfl)) (hf 1 _ rfl) (by rw [hyl]; decide)
  obtain ⟨b2, h2, q2⟩ := field_p (opens_p_int Try.underlying3 (by kernel_rfl)) (hf 2 _ rfl) (by rw [hyl]; decide)
  obtain ⟨b3, h3, q3⟩ := field_p (opens_p_int Try.underlying3 (by kernel_rfl)) (hf 3 _ rfl) (by rw [hyl]; decide)
  obtain ⟨b4, h4, q4⟩ := field_p (opens_p_int Try.underlying3 (by kernel_rfl)) (hf 4 _ rfl) (by rw [hyl]; decide)
  exact ⟨⟨b0, b1, b2, b3, b4⟩, all2_whole (all2_join h0 (all2_join h1 (all2_join h2 (all2_join h3 h4)))) hl, (by show Md.Store.ok _; unfold Md.Store.ok; exact ⟨q0, q1, q2, q3, q4⟩)⟩
abbrev r70 : Kit.Rel (Md.Store) := rP c_Store (fun x => x.ok)
abbrev r24 : Kit.Rel (List UInt8) := rP (fun l => [CV.ls byC l]) (fun l => ∀ x ∈ l, (fun _ => True) x)
theorem walk (w : World) (v0 : Array Value) (a0 : Md.Store) (w0 : StoreAnyW.r70 w w.heap.size a0 v0.toList) (A1 : Option Addr) (n1 c1 : Nat) (a1 : List UInt8) (w1 : StoreAnyW.r24 w w.heap.size a1 [.slice A1 n1 c1]) (a2 : Int) (w2 : (Lit.int .i64 a2).wf = true) :
    Calls Try.prog 11 #[.agg v0, .slice A1 n1 c1, .int .i64 a2] w fun e w' => e = .returned (.bool true) ∧ Below w.heap.size w w' := by
  obtain ⟨k, hk⟩ := Md.StoreAny_law a0 a1 a2 w0.2 (i64_of w2)
  exact fnc_law (Md.actorgridlaw28_StoreAny_fn k a0 a1 a2 true hk) (.cons (in_agg w0.1) (.cons (in_p w1) (.cons (in_v rfl) (.nil))))
end StoreAnyW
end Go.Proofs.Ytkcfkcgclljncaa
