/-
  The walks over the laws' own helper 'change': a log with one entry changed.
-/
import Derived.Test.YtbomaagbjeiliaaAuditWd
namespace Go.Proofs.Ytbomaagbjeiliaa
set_option linter.unusedVariables false
open Go.ChangeShapes Go.WideShapes Go.RowKit
open Hash HashW
open Kit hiding keep_cell below_step below_drewN
namespace Audit

/-- The place that is changed. -/
def place (l : List Entry) (n : Int) : Nat := (n % (l.length : Int)).toNat
/-- The other place of an exchange. -/
def other (l : List Entry) (n : Int) : Nat := (IntKind.u64.wrap n % (l.length : Int)).toNat
def setAt (l : List Entry) (k : Nat) (f : Entry → Entry) : List Entry := match l[k]? with | some e => l.set k (f e) | none => l
def swapAt (l : List Entry) (k j : Nat) : List Entry := match l[k]?, l[j]? with | some a, some b => (l.set k b).set j a | _, _ => l

/-- A log comes back: where it lies is not said. -/
def OutLog (w : World) (l : List Entry) (en : Ending) (w' : World) : Prop :=
  ∃ A c, en = .returned (.slice A l.length c) ∧ l.length ≤ c ∧ c ≤ maxLen ∧ Flat w' w'.heap.size A (l.flatMap enc) ∧ Below w.heap.size w w'

theorem flat_set (l : List Entry) (k : Nat) (e e' : Entry) (h : l[k]? = some e) (j : Nat) (hj : j < 4) (u : Value) (he : (enc e).set j u = enc e') : (l.flatMap enc).set (k * 4 + j) u = (l.set k e').flatMap enc := by
  induction l generalizing k with
  | nil => simp at h
  | cons x r ih =>
    cases k with
    | zero =>
      simp at h
      subst h
      rw [List.flatMap_cons, List.set_append_left _ _ (by simp [enc]; omega)]
      simp [he]
    | succ k =>
      have := ih k (by simpa using h)
      rw [List.flatMap_cons, List.set_append_right _ _ (by simp [enc]; omega), List.set_cons_succ, List.flatMap_cons, ← this]
      congr 2
      simp [enc]; omega

set_option maxHeartbeats 1000000 in
theorem change_nil (A : Option Addr) (c : Nat) (a h n : Int) (t : ByteArray) (w : World) :
    Calls Try.prog 28 #[.slice A 0 c, .int .u8 a, .int .u8 h, .int .i64 n, .string t] w (OutLog w []) := by
  go_enter Try.func28, Try.ntmps28
  go_wp2_with (at_builtin; refine wpList_app elemE rfl _ _ rfl w.heap.size _ 0 [] rfl (own_empty (Nat.le_refl _) (heap_alloc_new w _) rfl) A 0 c w.heap.size [] rfl (Flat.nil _ _ _) rfl (by simp) ?c1 ?c2 ?c3 ?_)
  case c1 => unfold maxLen; omega
  case c2 => omega
  case c3 => simp
  intro v' w1 hown hgrow hat
  obtain ⟨A', c', rfl, h1, h2, h3⟩ := own_slice hown
  go_wp2_with fail
  go_ret
  exact ⟨A', c', rfl, h1, h2, h3, Below.grown (Below.alloc (Below.refl _ _) (Nat.le_refl _) _) hgrow (by simp) (fun k hk => by simp [Value.ownBlock] at hk; omega)⟩

theorem out_set {w w1 : World} {l : List Entry} {g cap K : Nat} {e e' : Entry} (h : w1.ownsRow w.heap.size 49 4 (.slice (some ⟨g, 0, none⟩) l.length cap) l.length (l.flatMap enc)) (hb : Below w.heap.size w w1) (hg : w.heap.size ≤ g)
    (he : l[K]? = some e) (j : Nat) (hj : j < 4) (u : Value) (hu : (enc e).set j u = enc e') : OutLog w (l.set K e') (.returned (.slice (some ⟨g, 0, none⟩) l.length cap)) (w1.setCell ⟨g, K * 4 + j, none⟩ u) := by
  have hs := (h.stored (K * 4 + j) u).1
  rw [flat_set l K e e' he j hj u hu] at hs
  exact ⟨_, cap, by rw [List.length_set], by rw [List.length_set]; exact (own_bounds hs).1, (own_bounds hs).2, Flat.of_own hs, hb.setCell hg u⟩
theorem setAt_eq {l : List Entry} {K : Nat} {e : Entry} (h : l[K]? = some e) (f : Entry → Entry) : setAt l K f = l.set K (f e) := by unfold setAt; rw [h]

set_option maxHeartbeats 1000000 in
theorem change_0 (A : Option Addr) (c : Nat) (l : List Entry) (a h n : Int) (t : ByteArray) (w : World) (hl : Log w w.heap.size A l) (hn : l.length ≤ 1000) (h0 : 0 < l.length) (ha : 0 ≤ a) (ha' : a < 256) (hh : 0 ≤ h) (hh' : h < 256) (hm : h % 6 = 0) :
    Calls Try.prog 28 #[.slice A l.length c, .int .u8 a, .int .u8 h, .int .i64 n, .string t] w (OutLog w (setAt l (place l a) fun e => { e with index := n })) := by
  have hmod := Int.emod_nonneg a (show (l.length : Int) ≠ 0 by omega)
  have hmod' := Int.emod_lt_of_pos a (show 0 < (l.length : Int) by omega)
  obtain ⟨K, hK⟩ : ∃ K : Nat, a % (l.length : Int) = (K : Int) := ⟨_, (Int.toNat_of_nonneg hmod).symm⟩
  have hp : Hid (place l a = K) := Lib.hid (by unfold place; rw [hK]; simp)
  have hKl : K < l.length := by omega
  obtain ⟨e, he⟩ : ∃ e, l[K]? = some e := ⟨_, List.getElem?_eq_getElem hKl⟩
  have HE := Lib.hid he
  clear he hmod hmod'
  go_enter Try.func28, Try.ntmps28
  go_wp2_with (at_builtin; refine wpList_app elemE rfl _ _ rfl w.heap.size _ 0 [] rfl (own_empty (Nat.le_refl _) (heap_alloc_new w _) rfl) A l.length c w.heap.size (l.flatMap enc) rfl (hl.1.keep (kept_alloc (Nat.le_refl _) _)) (flat_length l) (one_enc l) ?c1 ?c2 ?c3 ?_)
  case c1 => unfold maxLen; omega
  case c2 => omega
  case c3 => simp
  intro v' w1 hown hgrow hat
  have hb : Below w.heap.size w w1 := Below.grown (Below.alloc (Below.refl _ _) (Nat.le_refl _) _) hgrow (by simp) (fun k hk => by simp [Value.ownBlock] at hk; omega)
  try simp only [Nat.zero_add, List.nil_append] at hown
  obtain ⟨g, cap, rfl, hg1, hg2⟩ := hown.form h0
  have hc0 : w1.cell? ⟨g, K * 4, none⟩ = some (.int .i64 e.index) := by
    rw [hown.cellAt _ (by omega)]; exact flat_get l K e HE.out 0 (by omega)
  have hz0 := hown.frozenAt (K * 4)
  clear hgrow hat
  have HO := Lib.hid hown
  clear hown hl
  go_wp2_with fail
  go_ret
  rw [hp.out, setAt_eq HE.out]
  exact out_set HO.out hb hg1 HE.out 0 (by omega) _ rfl

set_option maxHeartbeats 1000000 in
theorem change_1 (A : Option Addr) (c : Nat) (l : List Entry) (a h n : Int) (t : ByteArray) (w : World) (hl : Log w w.heap.size A l) (hn : l.length ≤ 1000) (h0 : 0 < l.length) (ha : 0 ≤ a) (ha' : a < 256) (hh : 0 ≤ h) (hh' : h < 256) (hm : h % 6 = 1) :
    Calls Try.prog 28 #[.slice A l.length c, .int .u8 a, .int .u8 h, .int .i64 n, .string t] w (OutLog w (setAt l (place l a) fun e => { e with kind := n })) := by
  have hmod := Int.emod_nonneg a (show (l.length : Int) ≠ 0 by omega)
  have hmod' := Int.emod_lt_of_pos a (show 0 < (l.length : Int) by omega)
  obtain ⟨K, hK⟩ : ∃ K : Nat, a % (l.length : Int) = (K : Int) := ⟨_, (Int.toNat_of_nonneg hmod).symm⟩
  have hp : Hid (place l a = K) := Lib.hid (by unfold place; rw [hK]; simp)
  have hKl : K < l.length := by omega
  obtain ⟨e, he⟩ : ∃ e, l[K]? = some e := ⟨_, List.getElem?_eq_getElem hKl⟩
  have HE := Lib.hid he
  clear he hmod hmod'
  go_enter Try.func28, Try.ntmps28
  go_wp2_with (at_builtin; refine wpList_app elemE rfl _ _ rfl w.heap.size _ 0 [] rfl (own_empty (Nat.le_refl _) (heap_alloc_new w _) rfl) A l.length c w.heap.size (l.flatMap enc) rfl (hl.1.keep (kept_alloc (Nat.le_refl _) _)) (flat_length l) (one_enc l) ?c1 ?c2 ?c3 ?_)
  case c1 => unfold maxLen; omega
  case c2 => omega
  case c3 => simp
  intro v' w1 hown hgrow hat
  have hb : Below w.heap.size w w1 := Below.grown (Below.alloc (Below.refl _ _) (Nat.le_refl _) _) hgrow (by simp) (fun k hk => by simp [Value.ownBlock] at hk; omega)
  try simp only [Nat.zero_add, List.nil_append] at hown
  obtain ⟨g, cap, rfl, hg1, hg2⟩ := hown.form h0
  have hc0 : w1.cell? ⟨g, K * 4 + 1, none⟩ = some (.int .i64 e.kind) := by
    rw [hown.cellAt _ (by omega)]; exact flat_get l K e HE.out 1 (by omega)
  have hz0 := hown.frozenAt (K * 4 + 1)
  clear hgrow hat
  have HO := Lib.hid hown
  clear hown hl
  go_wp2_with fail
  go_ret
  rw [hp.out, setAt_eq HE.out]
  exact out_set HO.out hb hg1 HE.out 1 (by omega) _ rfl

set_option maxHeartbeats 1000000 in
theorem change_2 (A : Option Addr) (c : Nat) (l : List Entry) (a h n : Int) (t : ByteArray) (w : World) (hl : Log w w.heap.size A l) (hn : l.length ≤ 1000) (h0 : 0 < l.length) (ha : 0 ≤ a) (ha' : a < 256) (hh : 0 ≤ h) (hh' : h < 256) (hm : h % 6 = 2) :
    Calls Try.prog 28 #[.slice A l.length c, .int .u8 a, .int .u8 h, .int .i64 n, .string t] w (OutLog w (setAt l (place l a) fun e => { e with text := t })) := by
  have hmod := Int.emod_nonneg a (show (l.length : Int) ≠ 0 by omega)
  have hmod' := Int.emod_lt_of_pos a (show 0 < (l.length : Int) by omega)
  obtain ⟨K, hK⟩ : ∃ K : Nat, a % (l.length : Int) = (K : Int) := ⟨_, (Int.toNat_of_nonneg hmod).symm⟩
  have hp : Hid (place l a = K) := Lib.hid (by unfold place; rw [hK]; simp)
  have hKl : K < l.length := by omega
  obtain ⟨e, he⟩ : ∃ e, l[K]? = some e := ⟨_, List.getElem?_eq_getElem hKl⟩
  have HE := Lib.hid he
  clear he hmod hmod'
  go_enter Try.func28, Try.ntmps28
  go_wp2_with (at_builtin; refine wpList_app elemE rfl _ _ rfl w.heap.size _ 0 [] rfl (own_empty (Nat.le_refl _) (heap_alloc_new w _) rfl) A l.length c w.heap.size (l.flatMap enc) rfl (hl.1.keep (kept_alloc (Nat.le_refl _) _)) (flat_length l) (one_enc l) ?c1 ?c2 ?c3 ?_)
  case c1 => unfold maxLen; omega
  case c2 => omega
  case c3 => simp
  intro v' w1 hown hgrow hat
  have hb : Below w.heap.size w w1 := Below.grown (Below.alloc (Below.refl _ _) (Nat.le_refl _) _) hgrow (by simp) (fun k hk => by simp [Value.ownBlock] at hk; omega)
  try simp only [Nat.zero_add, List.nil_append] at hown
  obtain ⟨g, cap, rfl, hg1, hg2⟩ := hown.form h0
  have hc0 : w1.cell? ⟨g, K * 4 + 2, none⟩ = some (.string e.text) := by
    rw [hown.cellAt _ (by omega)]; exact flat_get l K e HE.out 2 (by omega)
  have hz0 := hown.frozenAt (K * 4 + 2)
  clear hgrow hat
  have HO := Lib.hid hown
  clear hown hl
  go_wp2_with fail
  go_ret
  rw [hp.out, setAt_eq HE.out]
  exact out_set HO.out hb hg1 HE.out 2 (by omega) _ rfl

set_option maxHeartbeats 1000000 in
theorem change_3 (A : Option Addr) (c : Nat) (l : List Entry) (a h n : Int) (t : ByteArray) (w : World) (hl : Log w w.heap.size A l) (hn : l.length ≤ 1000) (h0 : 0 < l.length) (ha : 0 ≤ a) (ha' : a < 256) (hh : 0 ≤ h) (hh' : h < 256) (hm : h % 6 = 3) :
    Calls Try.prog 28 #[.slice A l.length c, .int .u8 a, .int .u8 h, .int .i64 n, .string t] w (OutLog w (setAt l (place l a) fun e => { e with hash := bits .xor .u64 e.hash (IntKind.u64.wrap n) })) := by
  have hmod := Int.emod_nonneg a (show (l.length : Int) ≠ 0 by omega)
  have hmod' := Int.emod_lt_of_pos a (show 0 < (l.length : Int) by omega)
  obtain ⟨K, hK⟩ : ∃ K : Nat, a % (l.length : Int) = (K : Int) := ⟨_, (Int.toNat_of_nonneg hmod).symm⟩
  have hp : Hid (place l a = K) := Lib.hid (by unfold place; rw [hK]; simp)
  have hKl : K < l.length := by omega
  obtain ⟨e, he⟩ : ∃ e, l[K]? = some e := ⟨_, List.getElem?_eq_getElem hKl⟩
  have HE := Lib.hid he
  clear he hmod hmod'
  go_enter Try.func28, Try.ntmps28
  go_wp2_with (at_builtin; refine wpList_app elemE rfl _ _ rfl w.heap.size _ 0 [] rfl (own_empty (Nat.le_refl _) (heap_alloc_new w _) rfl) A l.length c w.heap.size (l.flatMap enc) rfl (hl.1.keep (kept_alloc (Nat.le_refl _) _)) (flat_length l) (one_enc l) ?c1 ?c2 ?c3 ?_)
  case c1 => unfold maxLen; omega
  case c2 => omega
  case c3 => simp
  intro v' w1 hown hgrow hat
  have hb : Below w.heap.size w w1 := Below.grown (Below.alloc (Below.refl _ _) (Nat.le_refl _) _) hgrow (by simp) (fun k hk => by simp [Value.ownBlock] at hk; omega)
  try simp only [Nat.zero_add, List.nil_append] at hown
  obtain ⟨g, cap, rfl, hg1, hg2⟩ := hown.form h0
  have hc0 : w1.cell? ⟨g, K * 4 + 3, none⟩ = some (.int .u64 e.hash) := by
    rw [hown.cellAt _ (by omega)]; exact flat_get l K e HE.out 3 (by omega)
  have hz0 := hown.frozenAt (K * 4 + 3)
  clear hgrow hat
  have HO := Lib.hid hown
  clear hown hl
  go_wp2_with fail
  go_ret
  rw [hp.out, setAt_eq HE.out]
  exact out_set HO.out hb hg1 HE.out 3 (by omega) _ rfl

end Audit
end Go.Proofs.Ytbomaagbjeiliaa
