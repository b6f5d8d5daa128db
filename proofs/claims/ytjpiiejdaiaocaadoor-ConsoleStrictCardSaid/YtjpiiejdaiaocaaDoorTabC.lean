/-
  The variables that the row lists, in the words of the walk: the table of the powers of ten. No condition.
-/
import Derived.Test.YtjpiiejdaiaocaaDoorRows
import Derived.Test.YtjpiiejdaiaocaaDoorAbsA
import Derived.Lib.LaidTab
import Derived.Lib.ItoaNum
import Derived.Stop.LaidErr
import Derived.LaidMore
import Derived.Handy
namespace Go.Proofs.YtjpiiejdaiaocaaDoor
set_option maxRecDepth 100000
theorem laid_pow : (Rows.laid_internal_strconv_uint64pow10 : DataW Unit) = Lib.tabData .u64 Lib.pow10Tab := by kernel_rfl
theorem tabs_list {nm : String} {x y : String × DataW Unit} {W : World} (hg : Tryd.prog.globalNamed nm = some 0) (h : laidMet Tryd.prog [x, y, (nm, Rows.laid_internal_strconv_uint64pow10)] W) : Abs.Tabs [] (fun _ => undef) W := by
  rw [laid_pow] at h
  have h1 := Lib.tabIs_of_head hg (t := 102) (by kernel_rfl) Tryd.underlying102 Tryd.underlying73 (by kernel_rfl) (by kernel_rfl) h.tail.tail
  intro b p hb
  unfold Abs.tabAt at hb
  cases hq : Nat.beq b 0 with
  | false => rw [hq] at hb; cases hb
  | true =>
    rw [hq] at hb
    obtain rfl := Nat.eq_of_beq_eq_true hq
    obtain rfl := Option.some.inj hb
    refine ⟨?_, fun ⟨_, _, h2, _⟩ => by cases h2⟩
    unfold Lib.TabIs World.var? at h1
    rw [hg] at h1
    simp only [Option.bind_some] at h1
    split at h1
    · rename_i cs T x' hc
      exact ⟨cs, T, x', hc, (Option.some.inj h1).trans (by kernel_rfl)⟩
    · cases h1
end Go.Proofs.YtjpiiejdaiaocaaDoor
