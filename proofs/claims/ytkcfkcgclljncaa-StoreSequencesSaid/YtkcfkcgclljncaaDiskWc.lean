/-
  The walks over package disk and its reference, third part: slices.Grow of nil, slices.Concat of two byte slices.
-/
import Derived.Test.YtkcfkcgclljncaaDiskWb
namespace Go.Proofs.Ytkcfkcgclljncaa
set_option linter.unusedVariables false
open Go.ChangeShapes Go.WideShapes Go.RowKit
open Kit
attribute [local go_sem ↓] Go.wp_at_zero Go.wp_at_succ
namespace Disk

set_option maxHeartbeats 1000000 in
set_option maxRecDepth 10000 in
theorem grow_any (n : Nat) (w : World) (hl : n ≤ 4000000) :
    Calls Try.prog 78 #[.slice none 0 0, .int .i64 n] w fun e w' => ∃ v, e = .returned v ∧ w'.ownsRow w.heap.size 5 1 v 0 [] ∧ Below w.heap.size w w' := by
  rcases Nat.eq_zero_or_pos n with rfl | h0
  · go_enter Try.func78, Try.ntmps78
    go_wp2_with fail
    go_ret
    exact ⟨_, rfl, own_nil _ _ _ _, Below.refl _ _⟩
  · obtain ⟨i, z, hi, hz, hsz, hby, hzs⟩ := (elemB).info
    have happ := Lib.run_append_nil_zeros (P := Try.prog) w 24 3 24 5 i z .i64 .i64 Try.underlying24 Try.underlying3 hi hz n h0 (by omega) (by omega) (by rw [hby]; omega)
    have hcap := grownCap_ge w n 0 5
    have hcap2 := grownCap_le_maxLen w n 0 5 (by unfold maxLen; omega)
    generalize grownCap w n 0 5 = K at happ hcap hcap2
    generalize hZ : (Builtin.zeroCells z.cells n ++ Builtin.zeroCells z.cells (K - n)) = Z at happ
    have hZs : Z.size = K := by rw [← hZ]; simp [size_zeroCells, hzs]; omega
    clear hZ hi hz hsz hby hzs
    have H1 := Lib.hid happ
    have H2 := Lib.hid hZs
    have H3 := Lib.hid hcap
    have H4 := Lib.hid hcap2
    clear happ hZs hcap hcap2
    go_enter Try.func78, Try.ntmps78
    skip
    go_wp2_with (at_builtin; refine Lib.wpList_append_run _ rfl _ _ _ _ rfl _ _ rfl rfl _ _ H1.out ?_)
    go_wp2_with fail
    go_ret
    refine ⟨_, rfl, ⟨by simp, .inr ⟨w.heap.size, K, Z, rfl, Nat.le_refl _, heap_alloc_new _ _, Nat.zero_le _, H4.out, by rw [H2.out]; simp, by simp⟩⟩, by repeat' (first | (with_reducible exact Below.refl _ _) | (with_reducible assumption) | (with_reducible refine Below.alloc ?_ ?_ _) | (with_reducible refine Below.drew ?_) | (with_reducible refine below_drewN ?_ _) | (with_reducible refine Below.setCell ?_ ?_ _) | (with_reducible exact Below.size (by assumption)) | go_size)⟩



end Disk
end Go.Proofs.Ytkcfkcgclljncaa
