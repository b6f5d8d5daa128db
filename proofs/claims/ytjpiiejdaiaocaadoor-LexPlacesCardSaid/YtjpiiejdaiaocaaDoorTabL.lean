/-
  The variables that the row lists, in the words of the walk: the two errors of strconv. No condition.
-/
import Derived.Test.YtjpiiejdaiaocaaDoorRows
import Derived.Test.YtjpiiejdaiaocaaDoorAbsA
import Derived.Stop.LaidErr
import Derived.LaidMore
import Derived.Handy
namespace Go.Proofs.YtjpiiejdaiaocaaDoor
set_option maxRecDepth 100000
theorem err_star : "*" ++ "errors.errorString" = "*errors.errorString" := by decide
theorem err_row (u : TypeId) (h : Tryd.prog.typeName? 3 u = some "*errors.errorString") : u = 123 :=
  typeName_ptr_named (nm := "errors.errorString") (by rw [err_star]; kernel_rfl) (by kernel_rfl) (by decide) u (by rw [err_star]; exact h)
theorem tab_of_var {n : String} {g : Nat} {W : World} {a : Addr} {tp : TypeId} (hg : Tryd.prog.globalNamed n = some g) (h : W.var? Tryd.prog n = some #[.iface tp (.pointer (some a))]) : ∃ cs T x, W.heap[g]? = some (.cells cs T x) ∧ ∃ ev, cs = #[ev] ∧ (ev = .nilIface ∨ ∃ tp q, ev = .iface tp q) := by
  unfold World.var? at h
  rw [hg] at h
  simp only [Option.bind_some] at h
  split at h
  · rename_i cs T x' hc
    exact ⟨cs, T, x', hc, _, Option.some.inj h, Or.inr ⟨_, _, rfl⟩⟩
  · cases h
theorem tabs_list {x y z : String × DataW Unit} {W : World} (h : laidMet Tryd.prog [x, y, z, ("strconv.ErrRange", Rows.laid_strconv_ErrRange), ("strconv.ErrSyntax", Rows.laid_strconv_ErrSyntax)] W) : Abs.Tabs [] (fun _ => undef) W := by
  have gR : Tryd.prog.globalNamed "strconv.ErrRange" = some 3 := by kernel_rfl
  have gS : Tryd.prog.globalNamed "strconv.ErrSyntax" = some 2 := by kernel_rfl
  obtain ⟨a0, s0, hv0, _⟩ := laid_sentinel h.tail.tail.tail gR (ti := 87) (by kernel_rfl) Tryd.underlying87 err_row Tryd.underlying123 Tryd.underlying125 rfl rfl Tryd.underlying9 (by kernel_rfl) (by kernel_rfl)
  obtain ⟨a1, s1, hv1, _⟩ := laid_sentinel h.tail.tail.tail.tail gS (ti := 87) (by kernel_rfl) Tryd.underlying87 err_row Tryd.underlying123 Tryd.underlying125 rfl rfl Tryd.underlying9 (by kernel_rfl) (by kernel_rfl)
  intro b p hb
  unfold Abs.tabAt at hb
  cases hq : Nat.beq b 2 with
  | true =>
    rw [hq] at hb
    obtain rfl := Nat.eq_of_beq_eq_true hq
    obtain rfl := Option.some.inj hb
    exact ⟨tab_of_var gS hv1, fun ⟨_, _, h2, _⟩ => by cases h2⟩
  | false =>
    rw [hq] at hb
    cases hq2 : Nat.beq b 3 with
    | true =>
      rw [hq2] at hb
      obtain rfl := Nat.eq_of_beq_eq_true hq2
      obtain rfl := Option.some.inj hb
      exact ⟨tab_of_var gR hv0, fun ⟨_, _, h2, _⟩ => by cases h2⟩
    | false => rw [hq2] at hb; cases hb
end Go.Proofs.YtjpiiejdaiaocaaDoor
