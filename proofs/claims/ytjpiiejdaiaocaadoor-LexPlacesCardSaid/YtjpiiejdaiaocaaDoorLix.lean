/-
  Numbers read by Go's library: where the model gives a value the function returns what reads as it. Condition of each: the model gives a value.
-/
import Derived.Test.YtjpiiejdaiaocaaDoorLib
namespace Go.Proofs.YtjpiiejdaiaocaaDoor
open Go.ChangeShapes Go.WideShapes Go.RowKit
open Abs
set_option linter.unusedVariables false
set_option linter.unusedSimpArgs false
namespace Md
theorem strconv_ParseInt_fn (k : Nat) (a0 : List UInt8) (a1 a2 : Int) (r : Int × Bool) (h : strconv_ParseInt k a0 a1 a2 = some r) : FnC Tryd.prog 82 [.one (.val (Sv a0)), vI a1, vI a2] [] (Det (.tup [vI r.1, .one (errC r.2)]) []) := by
  obtain ⟨⟨rfl, rfl, g⟩, h2⟩ := Md.ifp_s h
  cases Option.some.inj h2
  refine fnc_val [Sv a0, .int .i64 10, .int .i64 64] (fun v => ∃ u, v = .tuple #[.int .i64 (parseRes a0).1, u] ∧ RepC (fun _ => False) default (errC (parseRes a0).2) u) ?_ fun w ht => ?_
  · rintro v h hv A w ⟨u, rfl, hu⟩
    refine ⟨[_, u], rfl, .cons (RepC.val _ rfl) (.cons ?_ .nil)⟩
    cases hb : (parseRes a0).2 with
    | true => rw [hb] at hu; cases (show RepC _ _ .ifc u from hu); exact RepC.ifc _ _
    | false => rw [hb] at hu; cases (show RepC _ _ (.val .nilIface) u from hu); exact RepC.val _ rfl
  · have hsz : (⟨a0.toArray⟩ : ByteArray).size ≤ 281474976710656 := by
      show a0.length ≤ _
      omega
    rcases hp : Lib.parseIntB 64 a0 with v | _ | _
    · skip
      have hr : parseRes a0 = (v, false) := by unfold parseRes; rw [hp]
      refine (Any.strconv_ParseInt_10_at64_ok Lib_laysC174 ⟨a0.toArray⟩ (by omega) v hp w).mono ?_
      rintro e w' ⟨rfl, hw⟩
      rw [hr]
      refine ⟨_, rfl, ⟨_, rfl, RepC.val _ rfl⟩, ?_⟩
      rcases hw with rfl | ⟨t, rfl⟩
      · exact Below.refl _ _
      · exact below_bytes _ _ _
    · skip
      have hr : parseRes a0 = (0, true) := by unfold parseRes; rw [hp]
      obtain ⟨ev, h1, h2⟩ := tab_cell (w := w) (b := 2) rfl ht
      refine (Any.strconv_ParseInt_10_at64_syntax Lib_laysC174 ⟨a0.toArray⟩ hsz hp ev w h1 h2).mono ?_
      rintro e w' ⟨N, rfl, _, _, hb⟩
      rw [hr]
      exact ⟨_, rfl, ⟨_, rfl, RepC.ifc _ _⟩, hb⟩
    · skip
      have hr : parseRes a0 = (Lib.intSat 64 a0, true) := by unfold parseRes; rw [hp]
      obtain ⟨ev, h1, h2⟩ := tab_cell (w := w) (b := 3) rfl ht
      refine (Any.strconv_ParseInt_10_at64_range Lib_laysC174 ⟨a0.toArray⟩ hsz hp ev w h1 h2).mono ?_
      rintro e w' ⟨N, rfl, _, _, hb⟩
      rw [hr]
      exact ⟨_, rfl, ⟨_, rfl, RepC.ifc _ _⟩, hb⟩
end Md
end Go.Proofs.YtjpiiejdaiaocaaDoor
