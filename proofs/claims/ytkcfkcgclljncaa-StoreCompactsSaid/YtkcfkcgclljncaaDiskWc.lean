/-
  The walks over package disk and its reference, third part: slices.Grow of nil, slices.Concat of two byte slices.
-/
import Derived.Test.YtkcfkcgclljncaaDiskWb
namespace Go.Proofs.Ytkcfkcgclljncaa
set_option linter.unusedVariables false
open Go.ChangeShapes Go.WideShapes Go.RowKit
open Kit
attribute [local go_sem ↓] Go.wp_at_zero Go.wp_at_succ
namespace Disk

set_option maxHeartbeats 1000000 in
set_option maxRecDepth 10000 in
theorem grow_any (n : Nat) (w : World) (hl : n ≤ 4000000) :
    Calls Try.prog 78 #[.slice none 0 0, .int .i64 n] w fun e w' => ∃ v, e = .returned v ∧ w'.ownsRow w.heap.size 5 1 v 0 [] ∧ Below w.heap.size w w' := by
  rcases Nat.eq_zero_or_pos n with rfl | h0
  · go_enter Try.func78, Try.ntmps78
    go_wp2_with fail
    go_ret
    exact ⟨_, rfl, own_nil _ _ _ _, Below.refl _ _⟩
  · obtain ⟨i, z, hi, hz, hsz, hby, hzs⟩ := (elemB).info
    have happ := Lib.run_append_nil_zeros (P := Try.prog) w 24 3 24 5 i z .i64 .i64 Try.underlying24 Try.underlying3 hi hz n h0 (by omega) (by omega) (by rw [hby]; omega)
    have hcap := grownCap_ge w n 0 5
    have hcap2 := grownCap_le_maxLen w n 0 5 (by unfold maxLen; omega)
    generalize grownCap w n 0 5 = K at happ hcap hcap2
    generalize hZ : (Builtin.zeroCells z.cells n ++ Builtin.zeroCells z.cells (K - n)) = Z at happ
    have hZs : Z.size = K := by rw [← hZ]; simp [size_zeroCells, hzs]; omega
    clear hZ hi hz hsz hby hzs
    have H1 := Lib.hid happ
    have H2 := Lib.hid hZs
    have H3 := Lib.hid hcap
    have H4 := Lib.hid hcap2
    clear happ hZs hcap hcap2
    go_enter Try.func78, Try.ntmps78
    skip
    go_wp2_with (at_builtin; refine Lib.wpList_append_run _ rfl _ _ _ _ rfl _ _ rfl rfl _ _ H1.out ?_)
    go_wp2_with fail
    go_ret
    refine ⟨_, rfl, ⟨by simp, .inr ⟨w.heap.size, K, Z, rfl, Nat.le_refl _, heap_alloc_new _ _, Nat.zero_le _, H4.out, by rw [H2.out]; simp, by simp⟩⟩, by repeat' (first | (with_reducible exact Below.refl _ _) | (with_reducible assumption) | (with_reducible refine Below.alloc ?_ ?_ _) | (with_reducible refine Below.drew ?_) | (with_reducible refine below_drewN ?_ _) | (with_reducible refine Below.setCell ?_ ?_ _) | (with_reducible exact Below.size (by assumption)) | go_size)⟩

/-- Bytes in new memory. -/
def SVal (w : World) (l : List UInt8) (n : Nat) (v : Value) (w' : World) : Prop := ∃ A c, v = .slice A n c ∧ n ≤ c ∧ c ≤ maxLen ∧ FlatF w.heap.size w' A (bytesV l) ∧ Below w.heap.size w w'
theorem app_bytes (l1 l2 : List UInt8) : bytesV (l1 ++ l2) = bytesV l1 ++ bytesV l2 := by simp [bytesV]

set_option maxHeartbeats 1000000 in
theorem concat_any (g : Nat) (c : Nat) (A1 A2 : Option Addr) (n1 c1 n2 c2 : Nat) (l1 l2 : List UInt8) (hn1 : l1.length = n1) (hn2 : l2.length = n2) (w : World) (hg : g < w.heap.size)
    (q0 : w.cell? ⟨g, 0, none⟩ = some (.slice A1 n1 c1)) (q1 : w.cell? ⟨g, 1, none⟩ = some (.slice A2 n2 c2)) (hf1 : Flat w w.heap.size A1 (bytesV l1)) (hf2 : Flat w w.heap.size A2 (bytesV l2)) (hl1 : n1 ≤ 2000000) (hl2 : n2 ≤ 2000000) :
    Calls Try.prog 61 #[.slice (some ⟨g, 0, none⟩) 2 c] w fun e w' => ∃ v, e = .returned v ∧ SVal w (l1 ++ l2) (n1 + n2) v w' := by
  go_enter Try.func61, Try.ntmps61
  go_wp2_with fail
  refine wp_loop_rounds 3 ?_
  rw [rounds_succ]
  go_wp2_with fail
  rw [rounds_succ]
  go_wp2_with fail
  rw [rounds_succ]
  go_wp2_with fail
  have hgr := grow_any (n1 + n2) w (by omega)
  rw [Int.natCast_add] at hgr
  refine hgr.mono ?_
  clear hgr
  rintro e w1 ⟨v, rfl, hown0, hb1⟩
  have q0' := keep_cell hb1 q0
  have q1' := keep_cell hb1 q1
  go_wp2_with fail
  refine wp_loop_rounds 3 ?_
  rw [rounds_succ]
  go_wp2_with (at_builtin; refine wpList_app elemB rfl _ _ rfl w.heap.size _ 0 [] rfl hown0 A1 n1 c1 w.heap.size (bytesV l1) rfl (hf1.below hb1) ((bytesV_length l1).trans (by omega)) (one_bytes l1) ?c1 ?c2 ?c3 ?_)
  case c1 => unfold maxLen; omega
  case c2 => omega
  case c3 => exact hb1.size
  intro v1 w2 hown1 hgrow1 hat1
  have hb2 : Below w.heap.size w w2 := below_app hb1 hown0 (Nat.le_refl _) hgrow1
  have q0'' := keep_cell hb2 q0
  have q1'' := keep_cell hb2 q1
  try simp only [Nat.zero_add, List.nil_append] at hown1
  clear hown0 hgrow1 hat1
  go_wp2_with fail
  rw [rounds_succ]
  go_wp2_with (at_builtin; refine wpList_app elemB rfl _ _ rfl w.heap.size _ n1 (bytesV l1) rfl hown1 A2 n2 c2 w.heap.size (bytesV l2) rfl (hf2.below hb2) ((bytesV_length l2).trans (by omega)) (one_bytes l2) ?c1 ?c2 ?c3 ?_)
  case c1 => unfold maxLen; omega
  case c2 => omega
  case c3 => exact hb2.size
  intro v2 w3 hown2 hgrow2 hat2
  have hb3 : Below w.heap.size w w3 := below_app hb2 hown1 (Nat.le_refl _) hgrow2
  rw [← app_bytes] at hown2
  obtain ⟨A, cc, rfl, k1, k2, k3⟩ := own_low hown2
  clear hown1 hgrow2 hat2 hown2
  go_wp2_with fail
  rw [rounds_succ]
  go_wp2_with fail
  go_ret
  exact ⟨_, rfl, A, cc, rfl, k1, k2, k3, hb3⟩

end Disk
end Go.Proofs.Ytkcfkcgclljncaa
