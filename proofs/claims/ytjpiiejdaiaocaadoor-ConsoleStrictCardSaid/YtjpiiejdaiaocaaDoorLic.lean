/-
  Numbers written by Go's library: where the model gives a value the function returns what reads as it. Condition of each: the model gives a value.
-/
import Derived.Test.YtjpiiejdaiaocaaDoorLib
namespace Go.Proofs.YtjpiiejdaiaocaaDoor
open Go.ChangeShapes Go.WideShapes Go.RowKit
open Abs
set_option linter.unusedVariables false
set_option linter.unusedSimpArgs false
namespace Md
theorem strconv_Itoa_fn (k : Nat) (a0 : Int) (r : List UInt8) (h : strconv_Itoa k a0 = some r) : FnC Tryd.prog 41 [vI a0] [] (Det (.one (.val (Sv r))) []) := by
  obtain ⟨g, h⟩ := Md.ifp_s h
  cases Option.some.inj h
  refine fnc_val [.int .i64 a0] (fun v => v = Sv (Lib.itoa a0)) (by rintro v h hv A w rfl; exact RepC.val _ rfl) fun w ht => ?_
  obtain ⟨cs, h1, h2⟩ := tab_var Lib_laysM171.m17 rfl ht
  refine (Any.strconv_Itoa Lib_laysM171 a0 g.1 g.2 w (h1.trans (by rw [h2]; kernel_rfl))).mono ?_
  rintro e w' ⟨rfl, n, os, rfl⟩
  exact ⟨_, rfl, rfl, Go.Lib.below_grow _ w (Nat.le_refl _) n os⟩
end Md
end Go.Proofs.YtjpiiejdaiaocaaDoor
