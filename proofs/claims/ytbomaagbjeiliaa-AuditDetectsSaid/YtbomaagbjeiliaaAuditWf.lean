/-
  The walks over the laws' own helper 'change': a log with one entry changed.
-/
import Derived.Test.YtbomaagbjeiliaaAuditWe
import Derived.BigRegion
namespace Go.Proofs.Ytbomaagbjeiliaa
set_option linter.unusedVariables false
open Go.ChangeShapes Go.WideShapes Go.RowKit
open Hash HashW
open Kit hiding keep_cell below_step below_drewN
namespace Audit

theorem flat_drew {w : World} {A : Option Addr} {cs : List Value} (h : Flat w w.heap.size A cs) : Flat w.drew w.drew.heap.size A cs := h
theorem own_put {w1 : World} {base : Nat} {l : List Entry} {g cap n K : Nat} {e : Entry} (h : w1.ownsRow base 49 4 (.slice (some ⟨g, 0, none⟩) n cap) n (l.flatMap enc)) (he : l[K]? = some e) (x : Entry) :
    ((((w1.setCell ⟨g, K * 4, none⟩ (.int .i64 x.index)).setCell ⟨g, K * 4 + 1, none⟩ (.int .i64 x.kind)).setCell ⟨g, K * 4 + 2, none⟩ (.string x.text)).setCell ⟨g, K * 4 + 3, none⟩ (.int .u64 x.hash)).ownsRow base 49 4 (.slice (some ⟨g, 0, none⟩) n cap) n ((l.set K x).flatMap enc) := by
  have hk : K < l.length := (List.getElem?_eq_some_iff.1 he).1
  have s0 := (h.stored (K * 4) (.int .i64 x.index)).1
  have q0 := flat_set l K e { e with index := x.index } he 0 (by omega) (.int .i64 x.index) rfl
  simp only [Nat.add_zero] at q0
  rw [q0] at s0
  have s1 := (s0.stored (K * 4 + 1) (.int .i64 x.kind)).1
  rw [flat_set _ K ⟨x.index, e.kind, e.text, e.hash⟩ ⟨x.index, x.kind, e.text, e.hash⟩ (List.getElem?_set_self hk) 1 (by omega) (.int .i64 x.kind) rfl, List.set_set] at s1
  have s2 := (s1.stored (K * 4 + 2) (.string x.text)).1
  rw [flat_set _ K ⟨x.index, x.kind, e.text, e.hash⟩ ⟨x.index, x.kind, x.text, e.hash⟩ (List.getElem?_set_self hk) 2 (by omega) (.string x.text) rfl, List.set_set] at s2
  have s3 := (s2.stored (K * 4 + 3) (.int .u64 x.hash)).1
  rw [flat_set _ K ⟨x.index, x.kind, x.text, e.hash⟩ x (List.getElem?_set_self hk) 3 (by omega) (.int .u64 x.hash) rfl, List.set_set] at s3
  exact s3

set_option maxHeartbeats 1000000 in
theorem change_5 (A : Option Addr) (c : Nat) (l : List Entry) (a h n : Int) (t : ByteArray) (w : World) (hl : Log w w.heap.size A l) (hn : l.length ≤ 1000) (h0 : 0 < l.length) (ha : 0 ≤ a) (ha' : a < 256) (hh : 0 ≤ h) (hh' : h < 256) (hm : h % 6 = 5) :
    Calls Try.prog 28 #[.slice A l.length c, .int .u8 a, .int .u8 h, .int .i64 n, .string t] w (OutLog w (swapAt l (place l a) (other l n))) := by
  have hmod := Int.emod_nonneg a (show (l.length : Int) ≠ 0 by omega)
  have hmod' := Int.emod_lt_of_pos a (show 0 < (l.length : Int) by omega)
  obtain ⟨K, hK⟩ : ∃ K : Nat, a % (l.length : Int) = (K : Int) := ⟨_, (Int.toNat_of_nonneg hmod).symm⟩
  have hp : Hid (place l a = K) := Lib.hid (by unfold place; rw [hK]; simp)
  have hKl : K < l.length := by omega
  obtain ⟨e, he⟩ : ∃ e, l[K]? = some e := ⟨_, List.getElem?_eq_getElem hKl⟩
  have HE := Lib.hid he
  clear he hmod hmod'
  go_enter Try.func28, Try.ntmps28
  go_wp2_with (at_builtin; refine wpList_app elemE rfl _ _ rfl w.heap.size _ 0 [] rfl (own_empty (Nat.le_refl _) (heap_alloc_new w _) rfl) A l.length c w.heap.size (l.flatMap enc) rfl (hl.1.keep (kept_alloc (Nat.le_refl _) _)) (flat_length l) (one_enc l) ?c1 ?c2 ?c3 ?_)
  case c1 => unfold maxLen; omega
  case c2 => omega
  case c3 => simp
  intro v' w1 hown hgrow hat
  have hb : Below w.heap.size w w1 := Below.grown (Below.alloc (Below.refl _ _) (Nat.le_refl _) _) hgrow (by simp) (fun k hk => by simp [Value.ownBlock] at hk; omega)
  try simp only [Nat.zero_add, List.nil_append] at hown
  obtain ⟨g, cap, rfl, hg1, hg2⟩ := hown.form h0
  have hu := Int.emod_nonneg (IntKind.u64.wrap n) (show (l.length : Int) ≠ 0 by omega)
  have hu' := Int.emod_lt_of_pos (IntKind.u64.wrap n) (show 0 < (l.length : Int) by omega)
  obtain ⟨J, hJ⟩ : ∃ J : Nat, IntKind.u64.wrap n % (l.length : Int) = (J : Int) := ⟨_, (Int.toNat_of_nonneg hu).symm⟩
  have hq : Hid (other l n = J) := Lib.hid (by unfold other; rw [hJ]; simp)
  have hJl : J < l.length := by omega
  have hw0 := (Hash.U64.wrap n).1
  obtain ⟨x, he'⟩ : ∃ e, l[J]? = some e := ⟨_, List.getElem?_eq_getElem hJl⟩
  have HX := Lib.hid he'
  have cc : ∀ (K : Nat) (e : Entry), l[K]? = some e → K < l.length → (w1.cell? ⟨g, K * 4, none⟩ = some (.int .i64 e.index) ∧ w1.cell? ⟨g, K * 4 + 1, none⟩ = some (.int .i64 e.kind) ∧ w1.cell? ⟨g, K * 4 + 2, none⟩ = some (.string e.text) ∧ w1.cell? ⟨g, K * 4 + 3, none⟩ = some (.int .u64 e.hash)) :=
    fun K e he hk => ⟨by rw [hown.cellAt _ (by omega)]; exact flat_get l K e he 0 (by omega), by rw [hown.cellAt _ (by omega)]; exact flat_get l K e he 1 (by omega), by rw [hown.cellAt _ (by omega)]; exact flat_get l K e he 2 (by omega), by rw [hown.cellAt _ (by omega)]; exact flat_get l K e he 3 (by omega)⟩
  obtain ⟨c0, c1, c2, c3⟩ := cc K e HE.out hKl
  obtain ⟨d0, d1, d2, d3⟩ := cc J x he' hJl
  have f0 := hown.frozenAt (K * 4)
  have f1 := hown.frozenAt (K * 4 + 1)
  have f2 := hown.frozenAt (K * 4 + 2)
  have f3 := hown.frozenAt (K * 4 + 3)
  have g0 := hown.frozenAt (J * 4)
  have g1 := hown.frozenAt (J * 4 + 1)
  have g2 := hown.frozenAt (J * 4 + 2)
  have g3 := hown.frozenAt (J * 4 + 3)
  clear hgrow hat cc he' hu hu'
  have HO := Lib.hid hown
  clear hown hl
  by_cases hKJ : K = J
  · subst hKJ
    have hxe : x = e := by have h1 := HE.out; have h2 := HX.out; rw [h1] at h2; injection h2 with h2; exact h2.symm
    subst hxe
    have hs : Hid (swapAt l (place l a) (other l n) = (l.set K x).set K x) := Lib.hid (by rw [hp.out, hq.out]; unfold swapAt; rw [HE.out])
    go_wp2_with fail
    go_region
    go_wp2_with fail
    go_ret
    rw [hs.out]
    have o1 := own_put HO.out HE.out x
    have o2 := own_put o1 (e := x) (List.getElem?_set_self hKl) x
    refine ⟨some ⟨g, 0, none⟩, cap, ?_, ?_, ?_, ?_, ?_⟩
    · simp only [List.length_set]; rfl
    · simp only [List.length_set]; exact (own_bounds o2).1
    · exact (own_bounds o2).2
    · exact flat_drew (Flat.of_own o2)
    · repeat' (first | (with_reducible exact Below.refl _ _) | (with_reducible assumption) | (with_reducible refine Below.alloc ?_ ?_ _) | (with_reducible refine Below.drew ?_) | (with_reducible refine below_drewN ?_ _) | (with_reducible refine Below.setCell ?_ ?_ _) | (with_reducible exact Below.size (by assumption)) | go_size)
  · have hKJ2 : ¬ J = K := fun h => hKJ h.symm
    have hs : Hid (swapAt l (place l a) (other l n) = (l.set K x).set J e) := Lib.hid (by rw [hp.out, hq.out]; unfold swapAt; rw [HE.out, HX.out])
    go_wp2_with fail
    go_region
    go_wp2_with fail
    go_ret
    rw [hs.out]
    have o1 := own_put HO.out HE.out x
    have o2 := own_put o1 (e := x) (by rw [List.getElem?_set_ne hKJ]; exact HX.out) e
    refine ⟨some ⟨g, 0, none⟩, cap, ?_, ?_, ?_, ?_, ?_⟩
    · simp only [List.length_set]; rfl
    · simp only [List.length_set]; exact (own_bounds o2).1
    · exact (own_bounds o2).2
    · exact flat_drew (Flat.of_own o2)
    · repeat' (first | (with_reducible exact Below.refl _ _) | (with_reducible assumption) | (with_reducible refine Below.alloc ?_ ?_ _) | (with_reducible refine Below.drew ?_) | (with_reducible refine below_drewN ?_ _) | (with_reducible refine Below.setCell ?_ ?_ _) | (with_reducible exact Below.size (by assumption)) | go_size)

end Audit
end Go.Proofs.Ytbomaagbjeiliaa
