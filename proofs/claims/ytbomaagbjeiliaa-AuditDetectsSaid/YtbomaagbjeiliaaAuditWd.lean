/-
  The walks over package audit, fourth part: slices.Clone at logs, Append.
-/
import Derived.Test.YtbomaagbjeiliaaAuditWc
import Derived.Test.YtbomaagbjeiliaaKitApp
import Derived.StillTailTactics
namespace Go.Proofs.Ytbomaagbjeiliaa
set_option linter.unusedVariables false
open Go.ChangeShapes Go.WideShapes Go.RowKit
open Hash HashW
open Kit hiding keep_cell below_step below_drewN
namespace Audit

theorem elemE : Elem Try.prog 37 49 4 40 := elem_mk (z := .agg #[.int .i64 0, .int .i64 0, .string ByteArray.empty, .int .u64 0]) Try.underlying37 (by kernel_rfl) rfl (by decide)

/-- A log of the call's own comes back. -/
def OwnLog (w : World) (l : List Entry) (en : Ending) (w' : World) : Prop :=
  ∃ v, en = .returned v ∧ w'.ownsRow w.heap.size 49 4 v l.length (l.flatMap enc) ∧ Below w.heap.size w w'

theorem one_enc (l : List Entry) : ∀ u ∈ l.flatMap enc, u.oneCell' = true := by
  intro u hu
  obtain ⟨e, _, he⟩ := List.mem_flatMap.1 hu
  simp [enc] at he
  rcases he with rfl | rfl | rfl | rfl <;> rfl

set_option maxHeartbeats 1000000 in
theorem clone_any (A : Option Addr) (c : Nat) (l : List Entry) (w : World) (h : Log w w.heap.size A l) (hl : l.length ≤ 1000000) :
    Calls Try.prog 45 #[.slice A l.length c] w (OwnLog w l) := by
  cases A with
  | none =>
    have hn : l = [] := by
      rcases l with _ | ⟨x, r⟩
      · rfl
      · obtain ⟨b, off, e, _⟩ := h.1 (by simp [enc])
        cases e
    subst hn
    have he := fun w => Lib.run_eql_slice_nil (P := Try.prog) w 37 49 none 0 c 0 0 Try.underlying37
    go_enter Try.func45, Try.ntmps45
    go_wp2_with fail
    go_ret
    exact ⟨_, rfl, World.ownsRow_nil _ _ _ _, Below.refl _ _⟩
  | some a =>
    have he := fun w => Lib.run_eql_slice_nil (P := Try.prog) w 37 49 (some a) l.length c 0 0 Try.underlying37
    go_enter Try.func45, Try.ntmps45
    go_wp2_with (at_builtin; refine wpList_app elemE rfl _ _ rfl w.heap.size _ 0 [] rfl (own_empty (Nat.le_refl _) (heap_alloc_new w _) rfl) (some a) l.length c w.heap.size (l.flatMap enc) rfl (h.1.keep (kept_alloc (Nat.le_refl _) _)) (flat_length l) (one_enc l) ?c1 ?c2 ?c3 ?_)
    case c1 => unfold maxLen; omega
    case c2 => omega
    case c3 => simp
    intro v' w1 hown hgrow hat
    go_wp2_with fail
    go_ret
    refine ⟨v', rfl, by simpa using hown, ?_⟩
    exact Below.grown (Below.alloc (Below.refl _ _) (Nat.le_refl _) _) hgrow (by simp) (fun k hk => by simp [Value.ownBlock] at hk; omega)

def newEntry (l : List Entry) (k : Int) (t : ByteArray) : Entry := ⟨l.length, k, t, hashI (last l) l.length k t.data.toList⟩

set_option maxHeartbeats 1000000 in
theorem append_long (A : Option Addr) (c : Nat) (l : List Entry) (k : Int) (t : ByteArray) (ht : 200 < t.size) (ht' : t.size ≤ maxLen) (w : World) :
    Calls Try.prog 37 #[.slice A l.length c, .int .i64 k, .string t] w fun en w' => en = .returned (.tuple #[.slice none 0 0, .int .i64 1]) ∧ w = w' := by
  unfold maxLen at ht'
  go_enter Try.func37, Try.ntmps37
  go_wp2_with fail
  go_ret2
  exact ⟨rfl, rfl⟩

set_option maxHeartbeats 1000000 in
theorem append_bad (A : Option Addr) (c : Nat) (l : List Entry) (k : Int) (t : ByteArray) (ht : t.size ≤ 200) (w : World) (h : Log w w.heap.size A l) (hl : l.length ≤ 1000000) (hv : (verify 0 0 l).2 = false) :
    Calls Try.prog 37 #[.slice A l.length c, .int .i64 k, .string t] w fun en w' => en = .returned (.tuple #[.slice none 0 0, .int .i64 24]) ∧ Below w.heap.size w w' := by
  go_enter Try.func37, Try.ntmps37
  go_wp2_with fail
  refine (verify_any A c l _ h (by unfold maxLen; omega)).mono ?_
  rintro e w1 ⟨rfl, hb1⟩
  go_wp2_with fail
  go_ret2
  exact ⟨rfl, hb1⟩

def Appended (w : World) (l : List Entry) (en : Ending) (w' : World) : Prop :=
  ∃ v, en = .returned (.tuple #[v, .int .i64 0]) ∧ w'.ownsRow w.heap.size 49 4 v l.length (l.flatMap enc) ∧ Below w.heap.size w w'

set_option maxHeartbeats 1000000 in
theorem append_ok (A : Option Addr) (c : Nat) (l : List Entry) (k : Int) (t : ByteArray) (ht : t.size ≤ 200) (w : World) (h : Log w w.heap.size A l) (hl : l.length ≤ 999999) (hv : (verify 0 0 l).2 = true) :
    Calls Try.prog 37 #[.slice A l.length c, .int .i64 k, .string t] w (Appended w (l ++ [newEntry l k t])) := by
  have ht' : t.size ≤ maxLen := by unfold maxLen; omega
  have hl' : l.length ≤ maxLen := by unfold maxLen; omega
  go_enter Try.func37, Try.ntmps37
  go_wp2_with fail
  refine (verify_any A c l _ h hl').mono ?_
  rintro e w1 ⟨rfl, hb1⟩
  go_wp2_with fail
  have h1 : Log w1 w1.heap.size A l := ⟨(h.1.below hb1).more hb1.size, h.2⟩
  refine (clone_any A c l _ h1 (by omega)).mono ?_
  rintro e w2 ⟨v, rfl, hown, hb2⟩
  have h2 : Log w2 w2.heap.size A l := ⟨(h1.1.below hb2).more hb2.size, h.2⟩
  go_wp2_with fail
  refine (last_any A c l _ h2 hl').mono ?_
  rintro e w' ⟨rfl, rfl⟩
  go_wp2_with fail
  refine (hash_any _ _ _ _ ht' _).mono ?_
  rintro e w3 ⟨rfl, hb3⟩
  have hown3 := own_below hown hb3
  have hb23 := below_step (w := w1) hb2 hb3
  have hb03 := below_step (w := w) hb1 hb23
  have hd := hb1.size
  have hc := hb03.size
  clear h h1 h2 hb2 hb23 hown hb1 hb3
  go_wp2_with (at_builtin; refine wpList_app elemE rfl _ _ rfl w.heap.size _ l.length _ rfl ((own_base hown3 hd).alloc _) (some ⟨w3.heap.size, 0, none⟩) 1 1 _ (enc (newEntry l k t)) rfl (flat_new w3 (enc (newEntry l k t)) _) rfl (fun u hu => one_enc [newEntry l k t] u (by simpa using hu)) ?c1 ?c2 ?c3 ?_)
  case c1 => unfold maxLen; omega
  case c2 => omega
  case c3 => simp; omega
  intro v' w4 hown4 hgrow hat
  go_wp2_with fail
  go_ret2
  refine ⟨v', rfl, by simpa using hown4, ?_⟩
  exact below_app (Below.alloc hb03 hc _) ((own_base hown3 hd).alloc _) (Nat.le_refl _) hgrow

structure Line where
  kind : Int
  text : ByteArray
def encL (x : Line) : List Value := [.int .i64 x.kind, .string x.text]
def Lines (w : World) (B : Nat) (A : Option Addr) (l : List Line) : Prop := Flat w B A (l.flatMap encL) ∧ ∀ e ∈ l, e.text.size ≤ maxLen
theorem flatL_length (l : List Line) : (l.flatMap encL).length = l.length * 2 := by
  induction l with
  | nil => rfl
  | cons e r ih => simp [encL] at ih ⊢; omega
theorem flatL_get (l : List Line) (k : Nat) (e : Line) (h : l[k]? = some e) (j : Nat) (hj : j < 2) : (l.flatMap encL)[k * 2 + j]? = (encL e)[j]? := by
  induction l generalizing k with
  | nil => simp at h
  | cons x r ih =>
    cases k with
    | zero =>
      simp at h
      subst h
      rw [List.flatMap_cons, List.getElem?_append_left (by simp [encL]; omega)]
      simp
    | succ k =>
      have := ih k (by simpa using h)
      rw [List.flatMap_cons, List.getElem?_append_right (by simp [encL]; omega), ← this]
      congr 1
      simp [encL]; omega
theorem Lines.below {w w' : World} {B : Nat} {A : Option Addr} {l : List Line} (h : Lines w B A l) (hb : Below B w w') : Lines w' B A l := ⟨h.1.below hb, h.2⟩
theorem Lines.at_ {w : World} {B : Nat} {A : Option Addr} {l : List Line} {k : Nat} (h : Lines w B A l) (hk : k < l.length) :
    ∃ b off kd t, A = some ⟨b, off, none⟩ ∧ b < B ∧ l[k]? = some ⟨kd, t⟩ ∧ t.size ≤ maxLen ∧ w.cell? ⟨b, off + k * 2, none⟩ = some (.int .i64 kd) ∧ w.cell? ⟨b, off + k * 2 + 1, none⟩ = some (.string t) := by
  obtain ⟨b, off, rfl, hb, hc⟩ := h.1.at_ (by rw [flatL_length]; omega)
  have he : l[k]? = some l[k] := List.getElem?_eq_getElem hk
  have hg := flatL_get l k _ he
  refine ⟨b, off, l[k].kind, l[k].text, rfl, hb, he, h.2 _ (List.getElem_mem hk), ?_, ?_⟩
  · exact hc (k * 2) _ (hg 0 (by omega))
  · rw [Nat.add_assoc]; exact hc (k * 2 + 1) _ (hg 1 (by omega))

theorem append_ok' (A : Option Addr) (c n : Nat) (l : List Entry) (k : Int) (t : ByteArray) (hn : l.length = n) (ht : t.size ≤ 200) (w : World) (h : Log w w.heap.size A l) (hl : l.length ≤ 999999) (hv : (verify 0 0 l).2 = true) :
    Calls Try.prog 37 #[.slice A n c, .int .i64 k, .string t] w (Appended w (l ++ [newEntry l k t])) := by
  subst hn
  exact append_ok A c l k t ht w h hl hv

def trunc (t : ByteArray) : ByteArray := t.extract 0 (min t.size 200)
def build (ls : List Line) : List Entry := ls.foldl (fun l x => l ++ [newEntry l x.kind (trunc x.text)]) []
theorem build_nil : build [] = [] := rfl
theorem build_snoc (ls : List Line) (x : Line) : build (ls ++ [x]) = build ls ++ [newEntry (build ls) x.kind (trunc x.text)] := by
  unfold build; rw [List.foldl_append]; rfl
theorem build_take (ls : List Line) (k : Nat) (x : Line) (h : ls[k]? = some x) : build (ls.take (k + 1)) = build (ls.take k) ++ [newEntry (build (ls.take k)) x.kind (trunc x.text)] := by
  rw [List.take_add_one, h]; exact build_snoc _ _
theorem build_length (ls : List Line) : (build ls).length = ls.length := by
  suffices h : ∀ n, ∀ ls : List Line, ls.length = n → (build ls).length = n from h _ ls rfl
  intro n
  induction n with
  | zero => intro ls h; cases ls with | nil => rfl | cons => simp at h
  | succ n ih =>
    intro ls h
    obtain ⟨a, x, rfl⟩ : ∃ a x, ls = a ++ [x] := ⟨ls.dropLast, ls.getLast (by intro e; rw [e] at h; simp at h), (List.dropLast_concat_getLast _).symm⟩
    rw [build_snoc, List.length_append, ih a (by simpa using h)]; rfl
theorem trunc_size (t : ByteArray) : (trunc t).size ≤ 200 := by unfold trunc; rw [ByteArray.size_extract]; omega
theorem build_text (ls : List Line) : ∀ e ∈ build ls, e.text.size ≤ 200 := by
  suffices h : ∀ n, ∀ ls : List Line, ls.length = n → ∀ e ∈ build ls, e.text.size ≤ 200 from h _ ls rfl
  intro n
  induction n with
  | zero => intro ls h; cases ls with | nil => simp [build] | cons => simp at h
  | succ n ih =>
    intro ls h
    obtain ⟨a, x, rfl⟩ : ∃ a x, ls = a ++ [x] := ⟨ls.dropLast, ls.getLast (by intro e; rw [e] at h; simp at h), (List.dropLast_concat_getLast _).symm⟩
    intro e he
    rw [build_snoc, List.mem_append] at he
    rcases he with he | he
    · exact ih a (by simpa using h) e he
    · simp at he
      rw [he]
      exact trunc_size _

/-- A log that verifies, and one more entry. -/
theorem verify_snoc (q : Int) (i : Nat) (l : List Entry) (e : Entry) : (verify q i (l ++ [e])).2 = ((verify q i l).2 && good (lastH q l) (i + l.length : Nat) e) := by
  induction l generalizing q i with
  | nil =>
    simp [verify, lastH]
    cases good q i e <;> rfl
  | cons x r ih =>
    simp only [List.cons_append, verify, lastH]
    cases hg : good q i x with
    | false => simp
    | true =>
      simp only [if_true, ih]
      rw [show i + 1 + r.length = i + (x :: r).length by simp; omega]
theorem verify_new (l : List Entry) (k : Int) (t : ByteArray) (ht : t.size ≤ 200) (h : (verify 0 0 l).2 = true) : (verify 0 0 (l ++ [newEntry l k t])).2 = true := by
  rw [verify_snoc, h]
  simp [good, newEntry, ht, last]
theorem build_verify (ls : List Line) : (verify 0 0 (build ls)).2 = true := by
  suffices h : ∀ n, ∀ ls : List Line, ls.length = n → (verify 0 0 (build ls)).2 = true from h _ ls rfl
  intro n
  induction n with
  | zero => intro ls h; cases ls with | nil => rfl | cons => simp at h
  | succ n ih =>
    intro ls h
    obtain ⟨a, x, rfl⟩ : ∃ a x, ls = a ++ [x] := ⟨ls.dropLast, ls.getLast (by intro e; rw [e] at h; simp at h), (List.dropLast_concat_getLast _).symm⟩
    rw [build_snoc]
    exact verify_new _ _ _ (trunc_size _) (ih a (by simpa using h))

set_option maxHeartbeats 1000000 in
theorem log_any (A : Option Addr) (c : Nat) (ls : List Line) (w : World) (h : Lines w w.heap.size A ls) (hl : ls.length ≤ 1000) :
    Calls Try.prog 27 #[.slice A ls.length c] w (OwnLog w (build ls)) := by
  go_enter Try.func27, Try.ntmps27
  go_wp2_with fail
  go_loopw [3, 4] (fun v i wr => ∃ (k : Nat), k ≤ ls.length ∧ i = .int .i64 k ∧ wr.ownsRow w.heap.size 49 4 v k ((build (ls.take k)).flatMap enc) ∧ Below w.heap.size w wr) (fun _ i _ => ls.length - (intOf i).toNat)
  case atStart => exact ⟨0, Nat.zero_le _, rfl, World.ownsRow_nil _ _ _ _, Below.refl _ _⟩
  case round =>
    obtain ⟨k, hk, rfl, hown, hb⟩ := hrel
    have hz := hb.size
    obtain ⟨A', c', rfl, hc1, hc2, hfl⟩ := own_slice hown
    by_cases hlt : k < ls.length
    · obtain ⟨b, off, kd, t, rfl, hbb, he, ht, c0, c1⟩ := (h.below hb).at_ hlt
      have HE := Lib.hid he
      clear he
      go_wp2_with fail
      have hlog : Log wr.drew wr.drew.heap.size A' (build (ls.take k)) := ⟨hfl, fun e he => by have := build_text _ e he; unfold maxLen; omega⟩
      have hlen : (build (ls.take k)).length = k := by rw [build_length, List.length_take]; omega
      have hver := build_verify (ls.take k)
      have HLEN := Lib.hid hlen
      have HVER := Lib.hid hver
      clear hlen hver
      have hb' : Below w.heap.size w wr.drew := by repeat' (first | (with_reducible exact Below.refl _ _) | (with_reducible assumption) | (with_reducible refine Below.alloc ?_ ?_ _) | (with_reducible refine Below.drew ?_) | (with_reducible refine below_drewN ?_ _) | (with_reducible refine Below.setCell ?_ ?_ _) | (with_reducible exact Below.size (by assumption)) | go_size)
      by_cases hs : t.size ≤ 200
      · have h1 : (0 : Int) ≤ (t.size : Int) := by omega
        have h2 : (t.size : Int) ≤ 200 := by omega
        have hn : ¬ ((200 : Int) < (t.size : Int)) := by omega
        have hsl : ∀ w : World, (Instr.slice 9 (.string t) none (some (.int .i64 (t.size : Int))) none).run Try.prog w = .ok (.string t) w := fun w => by
          rw [run_slice_string_h w _ t Try.underlying9 _ _ (by omega) (by omega)]
          simp
        have ht2 : Hid (trunc t = t) := Lib.hid (by unfold trunc; rw [Nat.min_eq_left hs]; simp)
        go_region_held3 (fun w' => w'.cell? ⟨b, off + k * 2, none⟩ = some (.int .i64 kd) ∧ w'.cell? ⟨b, off + k * 2 + 1, none⟩ = some (.string t) ∧ Below w.heap.size w w') (first | assumption | (refine ⟨by simp [*], by simp [*], by repeat' (first | (with_reducible exact Below.refl _ _) | (with_reducible assumption) | (with_reducible refine Below.alloc ?_ ?_ _) | (with_reducible refine Below.drew ?_) | (with_reducible refine below_drewN ?_ _) | (with_reducible refine Below.setCell ?_ ?_ _) | (with_reducible exact Below.size (by assumption)) | go_size)⟩; done) | (refine ⟨keep_cell hb2 c0, keep_cell hb2 c1, below_step hb' hb2⟩; done)) (first | (go_at_call 37; refine (append_ok' A' c' k (build (ls.take k)) kd t HLEN.out hs _ hlog (by rw [HLEN.out]; omega) HVER.out).mono ?_; rintro e w' ⟨v, rfl, hown2, hb2⟩))
        have hown3 := own_base hown2 hb'.size
        have hb3 := below_step hb' hb2
        clear hb2 hown2
        go_wp2_with fail
        go_roundw
        case rel => exact ⟨k + 1, by omega, by go_num, by rw [build_take _ _ _ HE.out, ht2.out]; simpa [HLEN.out] using hown3, hb3⟩
        case measure => simp [intOf]; omega
      · have h1 : (200 : Int) ≤ (t.size : Int) := by omega
        have hn : (200 : Int) < (t.size : Int) := by omega
        have hsl : ∀ w : World, (Instr.slice 9 (.string t) none (some (.int .i64 200)) none).run Try.prog w = .ok (.string (t.extract 0 200)) w := fun w => by
          rw [run_slice_string_h w _ t Try.underlying9 _ _ (by omega) (by omega)]
          rfl
        have ht2 : Hid (trunc t = t.extract 0 200) := Lib.hid (by unfold trunc; rw [Nat.min_eq_right (by omega)])
        have ht3 : (t.extract 0 200).size ≤ 200 := by rw [ByteArray.size_extract]; omega
        go_region_held3 (fun w' => w'.cell? ⟨b, off + k * 2, none⟩ = some (.int .i64 kd) ∧ w'.cell? ⟨b, off + k * 2 + 1, none⟩ = some (.string t) ∧ Below w.heap.size w w') (first | assumption | (refine ⟨by simp [*], by simp [*], by repeat' (first | (with_reducible exact Below.refl _ _) | (with_reducible assumption) | (with_reducible refine Below.alloc ?_ ?_ _) | (with_reducible refine Below.drew ?_) | (with_reducible refine below_drewN ?_ _) | (with_reducible refine Below.setCell ?_ ?_ _) | (with_reducible exact Below.size (by assumption)) | go_size)⟩; done) | (refine ⟨keep_cell hb2 c0, keep_cell hb2 c1, below_step hb' hb2⟩; done)) (first | (go_at_call 37; refine (append_ok' A' c' k (build (ls.take k)) kd (t.extract 0 200) HLEN.out ht3 _ hlog (by rw [HLEN.out]; omega) HVER.out).mono ?_; rintro e w' ⟨v, rfl, hown2, hb2⟩))
        have hown3 := own_base hown2 hb'.size
        have hb3 := below_step hb' hb2
        clear hb2 hown2
        go_wp2_with fail
        go_roundw
        case rel => exact ⟨k + 1, by omega, by go_num, by rw [build_take _ _ _ HE.out, ht2.out]; simpa [HLEN.out] using hown3, hb3⟩
        case measure => simp [intOf]; omega
    · obtain rfl : k = ls.length := by omega
      go_wp2_with fail
      go_ret
      exact ⟨_, rfl, by rw [build_length]; simpa using hown, hb⟩

end Audit
end Go.Proofs.Ytbomaagbjeiliaa
