/-
  The walks over package disk and its reference, second part: copies.
-/
import Derived.Test.YtkcfkcgclljncaaDiskWa
import Derived.Test.YtkcfkcgclljncaaKitLow
import Derived.Deep.RegionLaw
import Derived.BigRegion
import Derived.Lib.Buffer
namespace Go.Proofs.Ytkcfkcgclljncaa
set_option linter.unusedVariables false
open Go.ChangeShapes Go.WideShapes Go.RowKit
open Kit
namespace Disk

def bytesV (l : List UInt8) : List Value := l.map fun b => .int .u8 (b.toNat : Int)
theorem bytesV_length (l : List UInt8) : (bytesV l).length = l.length := by simp [bytesV]
theorem one_bytes (l : List UInt8) : ∀ u ∈ bytesV l, u.oneCell' = true := by
  intro u hu
  simp only [bytesV, List.mem_map] at hu
  obtain ⟨b, _, rfl⟩ := hu
  rfl
theorem elemB : Elem Try.prog 24 5 1 1 := elem_mk (z := .int .u8 0) Try.underlying24 (by kernel_rfl) rfl (by decide)

/-- A disk in memory. -/
def DVal (w : World) (l : List UInt8) (n : Nat) (cap : Int) (ar : Bool) (wr kp : Int) (dn : Bool) (v : Value) (w' : World) : Prop :=
  ∃ A c, v = dv A n c cap ar wr kp dn ∧ n ≤ c ∧ c ≤ maxLen ∧ FlatF w.heap.size w' A (bytesV l) ∧ Below w.heap.size w w'

theorem six {w : World} {g : Nat} {t : TypeId} {a0 a1 a2 a3 a4 a5 : Value} (h : w.heap[g]? = some (.cells #[a0, a1, a2, a3, a4, a5] t (0, 0))) :
    w.cell? ⟨g, 0, none⟩ = some a0 ∧ w.cell? ⟨g, 1, none⟩ = some a1 ∧ w.cell? ⟨g, 2, none⟩ = some a2 ∧ w.cell? ⟨g, 3, none⟩ = some a3 ∧ w.cell? ⟨g, 4, none⟩ = some a4 ∧ w.cell? ⟨g, 5, none⟩ = some a5 ∧
    w.frozen? ⟨g, 0, none⟩ = false ∧ w.frozen? ⟨g, 1, none⟩ = false ∧ w.frozen? ⟨g, 2, none⟩ = false ∧ w.frozen? ⟨g, 3, none⟩ = false ∧ w.frozen? ⟨g, 4, none⟩ = false ∧ w.frozen? ⟨g, 5, none⟩ = false := by
  refine ⟨?_, ?_, ?_, ?_, ?_, ?_, ?_, ?_, ?_, ?_, ?_, ?_⟩
  all_goals first | (rw [Lib.cell_of_heap h]; rfl) | exact Lib.frozen_of_heap h _

set_option maxHeartbeats 1000000 in
theorem clone_any (A : Option Addr) (n c : Nat) (l : List UInt8) (hn : l.length = n) (cap : Int) (ar : Bool) (wr kp : Int) (dn : Bool) (w : World) (hf : Flat w w.heap.size A (bytesV l)) (hl : n ≤ 2000000) :
    Calls Try.prog 59 #[dv A n c cap ar wr kp dn] w fun e w' => ∃ v, e = .returned v ∧ DVal w l n cap ar wr kp dn v w' := by
  unfold dv
  go_enter Try.func59, Try.ntmps59
  go_wp2_with (at_builtin; refine wpList_app elemB rfl _ _ rfl (w.heap.size + 2) _ 0 [] rfl (own_nil _ _ _ _) A n c w.heap.size (bytesV l) rfl (by repeat' (first | (with_reducible assumption) | omega | (with_reducible refine Flat.keep ?_ (kept_alloc ?_ _)) | (with_reducible refine Flat.keep ?_ (kept_setCell ?_ _)) | (with_reducible refine Flat.keep ?_ (kept_drew _ _)) | (with_reducible refine Flat.keep ?_ (kept_drewN _ _ _)) | (simp; done) | go_size)) ((bytesV_length l).trans (by omega)) (one_bytes l) ?c1 ?c2 ?c3 ?_)
  case c1 => unfold maxLen; omega
  case c2 => omega
  case c3 => simp
  intro v' w1 hown hgrow hat
  have hB := Below.grown (B := w.heap.size + 2) (Below.refl _ _) hgrow (by simp) (fun k hk => by simp [Value.ownBlock] at hk; try omega)
  have hb : Below w.heap.size w w1 := Below.trans (by repeat' (first | (with_reducible exact Below.refl _ _) | (with_reducible assumption) | (with_reducible refine Below.alloc ?_ ?_ _) | (with_reducible refine Below.drew ?_) | (with_reducible refine below_drewN ?_ _) | (with_reducible refine Below.setCell ?_ ?_ _) | (with_reducible exact Below.size (by assumption)) | go_size)) (hB.mono (by omega))
  obtain ⟨A', c', rfl, hc1, hc2, hfl⟩ := own_low hown
  clear hown hgrow hat
  have d0 : w1.heap[w.heap.size]? = some (.cells #[.slice A n c, .int .i64 cap, .bool ar, .int .i64 wr, .int .i64 kp, .bool dn] 26) := (hB.block _ (by omega)).trans (heap_first _ _ _)
  have d1 : w1.heap[w.heap.size + 1]? = some (.cells #[.slice none 0 0, .int .i64 0, .bool false, .int .i64 0, .int .i64 0, .bool false] 26) := (hB.block _ (by omega)).trans (heap_second _ _ _)
  obtain ⟨d00, d01, d02, d03, d04, d05, f00, f01, f02, f03, f04, f05⟩ := six d0
  obtain ⟨d10, d11, d12, d13, d14, d15, f10, f11, f12, f13, f14, f15⟩ := six d1
  clear d0 d1
  go_wp2_with fail
  refine bodyPost_ret (v := dv A' n c' cap ar wr kp dn) (by simp [results, Try.results59, go_sem, *]; done) rfl ⟨_, rfl, A', c', rfl, hc1, hc2, FlatF.mono (lo := w.heap.size + 2) ?_ (by omega), ?_⟩
  · repeat' (first | (with_reducible assumption) | (with_reducible refine FlatF.setCell ?_ ?_ _) | (with_reducible refine FlatF.alloc ?_ _) | (with_reducible refine FlatF.drewN ?_ _) | (with_reducible refine FlatF.drew ?_) | (with_reducible exact FlatF.nil _ _ _) | (simp; done) | omega)
  · repeat' (first | (with_reducible exact Below.refl _ _) | (with_reducible assumption) | (with_reducible refine Below.alloc ?_ ?_ _) | (with_reducible refine Below.drew ?_) | (with_reducible refine below_drewN ?_ _) | (with_reducible refine Below.setCell ?_ ?_ _) | (with_reducible exact Below.size (by assumption)) | go_size)

set_option maxHeartbeats 1000000 in
theorem clone_ref (A : Option Addr) (n c : Nat) (l : List UInt8) (hn : l.length = n) (cap : Int) (ar : Bool) (wr kp : Int) (dn : Bool) (w : World) (hf : Flat w w.heap.size A (bytesV l)) (hl : n ≤ 2000000) :
    Calls Try.prog 63 #[dv A n c cap ar wr kp dn] w fun e w' => ∃ v, e = .returned v ∧ DVal w l n cap ar wr kp dn v w' := by
  unfold dv
  go_enter Try.func63, Try.ntmps63
  go_wp2_with (at_builtin; refine wpList_app elemB rfl _ _ rfl (w.heap.size + 2) _ 0 [] rfl (own_empty (g := w.heap.size + 2) (Nat.le_refl _) (heap_third _ _ _ _) rfl) A n c w.heap.size (bytesV l) rfl (by repeat' (first | (with_reducible assumption) | omega | (with_reducible refine Flat.keep ?_ (kept_alloc ?_ _)) | (with_reducible refine Flat.keep ?_ (kept_setCell ?_ _)) | (with_reducible refine Flat.keep ?_ (kept_drew _ _)) | (with_reducible refine Flat.keep ?_ (kept_drewN _ _ _)) | (simp; done) | go_size)) ((bytesV_length l).trans (by omega)) (one_bytes l) ?c1 ?c2 ?c3 ?_)
  case c1 => unfold maxLen; omega
  case c2 => omega
  case c3 => simp
  intro v' w1 hown hgrow hat
  have hB := Below.grown (B := w.heap.size + 2) (Below.refl _ _) hgrow (by simp) (fun k hk => by simp [Value.ownBlock] at hk; try omega)
  have hb : Below w.heap.size w w1 := Below.trans (by repeat' (first | (with_reducible exact Below.refl _ _) | (with_reducible assumption) | (with_reducible refine Below.alloc ?_ ?_ _) | (with_reducible refine Below.drew ?_) | (with_reducible refine below_drewN ?_ _) | (with_reducible refine Below.setCell ?_ ?_ _) | (with_reducible exact Below.size (by assumption)) | go_size)) (hB.mono (by omega))
  obtain ⟨A', c', rfl, hc1, hc2, hfl⟩ := own_low hown
  clear hown hgrow hat
  have d0 : w1.heap[w.heap.size]? = some (.cells #[.slice A n c, .int .i64 cap, .bool ar, .int .i64 wr, .int .i64 kp, .bool dn] 26) := (hB.block _ (by omega)).trans ((Below.heap_alloc _ _ _ (by simp <;> omega)).trans (heap_first _ _ _))
  have d1 : w1.heap[w.heap.size + 1]? = some (.cells #[.slice none 0 0, .int .i64 0, .bool false, .int .i64 0, .int .i64 0, .bool false] 26) := (hB.block _ (by omega)).trans ((Below.heap_alloc _ _ _ (by simp <;> omega)).trans (heap_second _ _ _))
  obtain ⟨d00, d01, d02, d03, d04, d05, f00, f01, f02, f03, f04, f05⟩ := six d0
  obtain ⟨d10, d11, d12, d13, d14, d15, f10, f11, f12, f13, f14, f15⟩ := six d1
  clear d0 d1
  go_wp2_with fail
  refine bodyPost_ret (v := dv A' n c' cap ar wr kp dn) (by simp [results, Try.results63, go_sem, *]; done) rfl ⟨_, rfl, A', c', rfl, hc1, hc2, FlatF.mono (lo := w.heap.size + 2) ?_ (by omega), ?_⟩
  · repeat' (first | (with_reducible assumption) | (with_reducible refine FlatF.setCell ?_ ?_ _) | (with_reducible refine FlatF.alloc ?_ _) | (with_reducible refine FlatF.drewN ?_ _) | (with_reducible refine FlatF.drew ?_) | (with_reducible exact FlatF.nil _ _ _) | (simp; done) | omega)
  · repeat' (first | (with_reducible exact Below.refl _ _) | (with_reducible assumption) | (with_reducible refine Below.alloc ?_ ?_ _) | (with_reducible refine Below.drew ?_) | (with_reducible refine below_drewN ?_ _) | (with_reducible refine Below.setCell ?_ ?_ _) | (with_reducible exact Below.size (by assumption)) | go_size)

set_option maxHeartbeats 1000000 in
theorem written_any (A : Option Addr) (n c : Nat) (cap : Int) (ar : Bool) (wr kp : Int) (dn : Bool) (A2 : Option Addr) (n2 c2 : Nat) (w : World) (h0 : 0 ≤ wr) (h1 : wr ≤ 9223372036854775807) :
    Calls Try.prog 62 #[dv A n c cap ar wr kp dn, .slice A2 n2 c2] w fun e w' => ∃ v, e = .returned v ∧ (v = dv A2 n2 c2 cap ar (if ar then wr - 1 else wr) kp dn ∧ Below w.heap.size w w') := by
  unfold dv
  cases ar
  · go_enter Try.func62, Try.ntmps62
    go_wp2_with fail
    refine bodyPost_ret (v := dv A2 n2 c2 cap false wr kp dn) (by simp [results, Try.results62, go_sem, *]; done) rfl ⟨_, rfl, rfl, ?_⟩
    repeat' (first | (with_reducible exact Below.refl _ _) | (with_reducible assumption) | (with_reducible refine Below.alloc ?_ ?_ _) | (with_reducible refine Below.drew ?_) | (with_reducible refine below_drewN ?_ _) | (with_reducible refine Below.setCell ?_ ?_ _) | (with_reducible exact Below.size (by assumption)) | go_size)
  · go_enter Try.func62, Try.ntmps62
    go_wp2_with fail
    have e1 : IntKind.i64.wrap (wr - 1) = wr - 1 := by rw [IntKind.wrap_i64]; omega
    refine bodyPost_ret (v := dv A2 n2 c2 cap true (wr - 1) kp dn) (by simp [results, Try.results62, go_sem, *]; done) rfl ⟨_, rfl, rfl, ?_⟩
    repeat' (first | (with_reducible exact Below.refl _ _) | (with_reducible assumption) | (with_reducible refine Below.alloc ?_ ?_ _) | (with_reducible refine Below.drew ?_) | (with_reducible refine below_drewN ?_ _) | (with_reducible refine Below.setCell ?_ ?_ _) | (with_reducible exact Below.size (by assumption)) | go_size)

set_option maxHeartbeats 1000000 in
theorem crash_any (A : Option Addr) (n c : Nat) (cap : Int) (ar : Bool) (wr kp : Int) (dn : Bool) (A2 : Option Addr) (n2 c2 : Nat) (l : List UInt8) (hn : l.length = n2) (w : World) (hf : Flat w w.heap.size A2 (bytesV l)) (hl : n2 ≤ 2000000) :
    Calls Try.prog 60 #[dv A n c cap ar wr kp dn, .slice A2 n2 c2] w fun e w' => ∃ v, e = .returned v ∧ DVal w l n2 cap false 0 0 true v w' := by
  unfold dv
  have k1 : n2 ≤ maxLen := by unfold maxLen; omega
  go_enter Try.func60, Try.ntmps60
  go_wp2_with fail
  go_region_law ((refine step_app elemB (by rfl) (.const (.slice none 0 0)) (.tmp 5) (by rfl) (w.heap.size + 2) (.slice none 0 0) 0 [] (by rfl) (own_nil _ _ _ _) A2 n2 c2 w.heap.size (bytesV l) (by simp [Act.eval, Act.put]) (by repeat' (first | (with_reducible assumption) | omega | (with_reducible refine Flat.keep ?_ (kept_alloc ?_ _)) | (with_reducible refine Flat.keep ?_ (kept_setCell ?_ _)) | (with_reducible refine Flat.keep ?_ (kept_drew _ _)) | (with_reducible refine Flat.keep ?_ (kept_drewN _ _ _)) | (simp; done) | go_size)) ((bytesV_length l).trans (by omega)) (one_bytes l) (by omega) (by omega) (by simp) ?_; intro v' w1 hown hgrow hat; (have hB := Below.grown (B := w.heap.size + 2) (Below.refl _ _) hgrow (by simp) (fun k hk => by simp [Value.ownBlock] at hk; try omega)); (have hb : Below w.heap.size w w1 := Below.trans (by repeat' (first | (with_reducible exact Below.refl _ _) | (with_reducible assumption) | (with_reducible refine Below.alloc ?_ ?_ _) | (with_reducible refine Below.drew ?_) | (with_reducible refine below_drewN ?_ _) | (with_reducible refine Below.setCell ?_ ?_ _) | (with_reducible exact Below.size (by assumption)) | go_size)) (hB.mono (by omega))); (obtain ⟨A', c', rfl, hc1, hc2, hfl⟩ := own_low hown); (clear hown hgrow hat); (have d0 : w1.heap[w.heap.size]? = some (.cells #[.slice A n c, .int .i64 cap, .bool ar, .int .i64 wr, .int .i64 kp, .bool dn] 26) := (hB.block _ (by omega)).trans (heap_first _ _ _)); (have d1 : w1.heap[w.heap.size + 1]? = some (.cells #[.slice none 0 0, .int .i64 0, .bool false, .int .i64 0, .int .i64 0, .bool false] 26) := (hB.block _ (by omega)).trans (heap_second _ _ _)); (obtain ⟨d00, d01, d02, d03, d04, d05, f00, f01, f02, f03, f04, f05⟩ := six d0); (obtain ⟨d10, d11, d12, d13, d14, d15, f10, f11, f12, f13, f14, f15⟩ := six d1); (clear d0 d1)))
  all_goals
    simp only [Nat.zero_add, List.nil_append] at hc1 hfl
    go_wp2_with fail
    refine bodyPost_ret (v := dv A' n2 c' cap false 0 0 true) (by simp [results, Try.results60, go_sem, *]; done) rfl ⟨_, rfl, A', c', rfl, hc1, hc2, FlatF.mono (lo := w.heap.size + 2) ?_ (by omega), ?_⟩
    · repeat' (first | (with_reducible assumption) | (with_reducible refine FlatF.setCell ?_ ?_ _) | (with_reducible refine FlatF.alloc ?_ _) | (with_reducible refine FlatF.drewN ?_ _) | (with_reducible refine FlatF.drew ?_) | (with_reducible exact FlatF.nil _ _ _) | (simp; done) | omega)
    · repeat' (first | (with_reducible exact Below.refl _ _) | (with_reducible assumption) | (with_reducible refine Below.alloc ?_ ?_ _) | (with_reducible refine Below.drew ?_) | (with_reducible refine below_drewN ?_ _) | (with_reducible refine Below.setCell ?_ ?_ _) | (with_reducible exact Below.size (by assumption)) | go_size)

end Disk
end Go.Proofs.Ytkcfkcgclljncaa
