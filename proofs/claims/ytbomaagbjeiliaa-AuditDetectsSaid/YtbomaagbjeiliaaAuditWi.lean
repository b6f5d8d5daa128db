/-
  The reference's Extends; the opening of a slice of lines.
-/
import Derived.Test.YtbomaagbjeiliaaAuditWh
namespace Go.Proofs.Ytbomaagbjeiliaa
set_option linter.unusedVariables false
open Go.ChangeShapes Go.WideShapes Go.RowKit
open Hash HashW
open Kit hiding keep_cell below_step below_drewN
namespace Audit

set_option maxHeartbeats 2000000 in
theorem extends_ref (p f : Int) (A : Option Addr) (c : Nat) (l : List Entry) (w : World) (h : Log w w.heap.size A l) (hl : l.length ≤ 1000000) (hf : 0 ≤ f) (hf' : f ≤ 1000000) :
    Calls Try.prog 33 #[.int .u64 p, .int .i64 f, .slice A l.length c] w fun en w' => en = .returned (.tuple #[.int .u64 (extend p f l).1, .bool (extend p f l).2]) ∧ Below w.heap.size w w' := by
  go_enter Try.func33, Try.ntmps33
  go_wp2_with fail
  go_loopw [0, 8] (fun p' i wr => ∃ (k : Nat) (q : Int), k ≤ l.length ∧ i = .int .i64 k ∧ p' = .int .u64 q ∧ extend p f l = extend q (f + k) (l.drop k) ∧ (∀ j, k = j + 1 → ∀ e, l[j]? = some e → e.index = f + j) ∧ Below w.heap.size w wr) (fun _ i _ => l.length - (intOf i).toNat)
  case atStart => exact ⟨0, p, Nat.zero_le _, rfl, rfl, by simp, by simp, Below.refl _ _⟩
  case round =>
    obtain ⟨k, q, hk, rfl, rfl, hv, hi, hb⟩ := hrel
    have HV := Lib.hid hv
    have HI := Lib.hid hi
    have hz := hb.size
    clear hv hi
    by_cases hlt : k < l.length
    · obtain ⟨b, off, x, kd, t, hs, rfl, hbb, he, ht, c0, c1, c2, c3⟩ := (h.below hb).at_ hlt
      have HE := Lib.hid he
      clear he
      have hn : Hid (∀ j, k + 1 = j + 1 → good q (f + k) ⟨x, kd, t, hs⟩ = true → ∀ e, l[j]? = some e → e.index = f + j) := Lib.hid (by
        intro j hj hg e he
        obtain rfl : k = j := by omega
        rw [HE.out] at he
        injection he with he
        subst he
        simp [good] at hg
        exact hg.1)
      rcases Nat.eq_zero_or_pos k with h0 | h0
      · subst h0
        simp only [Nat.zero_mul, Nat.add_zero] at c0 c1 c2 c3
        cases hg : good q (f + (0 : Nat)) ⟨x, kd, t, hs⟩
        · have HF : Hid (extend p f l = (0, false)) := Lib.hid (by rw [HV.out, extend_step HE.out, hg]; rfl)
          simp only [Int.natCast_zero, Int.add_zero] at hg
          go_wp2_with fail
          refine (good_ref q f ⟨x, kd, t, hs⟩ ht _).mono ?_
          rintro e w1 ⟨rfl, hb1⟩
          have c4 := keep_cell hb1 c3
          replace hb1 := below_step (w := w) (by repeat' (first | (with_reducible exact Below.refl _ _) | (with_reducible assumption) | (with_reducible refine Below.alloc ?_ ?_ _) | (with_reducible refine Below.drew ?_) | (with_reducible refine below_drewN ?_ _) | (with_reducible refine Below.setCell ?_ ?_ _) | (with_reducible exact Below.size (by assumption)) | go_size)) hb1
          go_wp2_with fail
          go_ret2
          exact ⟨by rw [HF.out]; rfl, hb1⟩
        · have HF : Hid (extend p f l = extend hs (f + ((0 + 1 : Nat) : Int)) (l.drop (0 + 1))) := Lib.hid (by rw [HV.out, extend_step HE.out, hg]; simp)
          have HG := Lib.hid hg
          simp only [Int.natCast_zero, Int.add_zero] at hg
          go_wp2_with fail
          refine (good_ref q f ⟨x, kd, t, hs⟩ ht _).mono ?_
          rintro e w1 ⟨rfl, hb1⟩
          have c4 := keep_cell hb1 c3
          replace hb1 := below_step (w := w) (by repeat' (first | (with_reducible exact Below.refl _ _) | (with_reducible assumption) | (with_reducible refine Below.alloc ?_ ?_ _) | (with_reducible refine Below.drew ?_) | (with_reducible refine below_drewN ?_ _) | (with_reducible refine Below.setCell ?_ ?_ _) | (with_reducible exact Below.size (by assumption)) | go_size)) hb1
          go_wp2_with fail
          go_roundw
          case rel => exact ⟨0 + 1, hs, by omega, by go_num, rfl, HF.out, fun j hj => hn.out j hj HG.out, hb1⟩
          case measure => simp [intOf]; omega
      · obtain ⟨b', off', x', kd', t', hs', hA, hbb', he', ht', d0, d1, d2, d3⟩ := (h.below hb).at_ (k := k - 1) (by omega)
        obtain ⟨rfl, rfl⟩ : b' = b ∧ off' = off := by injection hA with hA; injection hA with h1 h2; exact ⟨h1.symm, h2.symm⟩
        have hx : x' = f + ((k - 1 : Nat) : Int) := HI.out (k - 1) (by omega) _ he'
        have hx2 : (x' == 9223372036854775807) = false := by rw [beq_eq_false_iff_ne]; omega
        have hx3 : IntKind.i64.wrap (x' + 1) = f + k := by rw [IntKind.wrap_i64]; omega
        have e1 : ((k : Int) - 1).toNat = k - 1 := by omega
        have hpos : (0 : Int) < (k : Int) := by omega
        have hr1 : 0 ≤ x' := by omega
        have hr2 : x' ≤ 3000000 := by omega
        have hx4 : x' + 1 = f + k := by omega
        clear hx hA he' d1 d2 d3
        cases hg : good q (f + k) ⟨x, kd, t, hs⟩
        · have HF : Hid (extend p f l = (0, false)) := Lib.hid (by rw [HV.out, extend_step HE.out, hg]; rfl)
          go_wp2_with fail
          refine (good_ref q (f + k) ⟨x, kd, t, hs⟩ ht _).mono ?_
          rintro e w1 ⟨rfl, hb1⟩
          have c4 := keep_cell hb1 c3
          replace hb1 := below_step (w := w) (by repeat' (first | (with_reducible exact Below.refl _ _) | (with_reducible assumption) | (with_reducible refine Below.alloc ?_ ?_ _) | (with_reducible refine Below.drew ?_) | (with_reducible refine below_drewN ?_ _) | (with_reducible refine Below.setCell ?_ ?_ _) | (with_reducible exact Below.size (by assumption)) | go_size)) hb1
          go_wp2_with fail
          go_ret2
          exact ⟨by rw [HF.out]; rfl, hb1⟩
        · have HF : Hid (extend p f l = extend hs (f + ((k + 1 : Nat) : Int)) (l.drop (k + 1))) := Lib.hid (by rw [HV.out, extend_step HE.out, hg]; simp [Int.add_assoc])
          have HG := Lib.hid hg
          go_wp2_with fail
          refine (good_ref q (f + k) ⟨x, kd, t, hs⟩ ht _).mono ?_
          rintro e w1 ⟨rfl, hb1⟩
          have c4 := keep_cell hb1 c3
          replace hb1 := below_step (w := w) (by repeat' (first | (with_reducible exact Below.refl _ _) | (with_reducible assumption) | (with_reducible refine Below.alloc ?_ ?_ _) | (with_reducible refine Below.drew ?_) | (with_reducible refine below_drewN ?_ _) | (with_reducible refine Below.setCell ?_ ?_ _) | (with_reducible exact Below.size (by assumption)) | go_size)) hb1
          go_wp2_with fail
          go_roundw
          case rel => exact ⟨k + 1, hs, by omega, by go_num, rfl, HF.out, fun j hj => hn.out j hj HG.out, hb1⟩
          case measure => simp [intOf]; omega
    · have HF : Hid (extend p f l = (q, true)) := Lib.hid (by rw [HV.out, List.drop_eq_nil_of_le (by omega)]; rfl)
      go_wp2_with fail
      go_ret2
      exact ⟨by rw [HF.out]; rfl, hb⟩

/-! ### the contracts at a length that is spelled otherwise -/
theorem verify_any' (A : Option Addr) (c n : Nat) (l : List Entry) (w : World) (hn : l.length = n) (h : Log w w.heap.size A l) (hl : n ≤ 1000) :
    Calls Try.prog 29 #[.slice A n c] w fun en w' => en = .returned (.tuple #[.int .i64 (verify 0 0 l).1, .bool (verify 0 0 l).2]) ∧ Below w.heap.size w w' := by
  subst hn
  exact verify_any A c l w h (by unfold maxLen; omega)
theorem verify_ref' (A : Option Addr) (c n : Nat) (l : List Entry) (w : World) (hn : l.length = n) (h : Log w w.heap.size A l) (hl : n ≤ 1000) :
    Calls Try.prog 30 #[.slice A n c] w fun en w' => en = .returned (.tuple #[.int .i64 (verify 0 0 l).1, .bool (verify 0 0 l).2]) ∧ Below w.heap.size w w' := by
  subst hn
  exact verify_ref A c l w h (by unfold maxLen; omega)
theorem last_any' (A : Option Addr) (c n : Nat) (l : List Entry) (w : World) (hn : l.length = n) (h : Log w w.heap.size A l) (hl : n ≤ 1000) :
    Calls Try.prog 32 #[.slice A n c] w fun en w' => en = .returned (.int .u64 (last l)) ∧ w = w' := by
  subst hn
  exact last_any A c l w h (by unfold maxLen; omega)
theorem last_ref' (A : Option Addr) (c n : Nat) (l : List Entry) (w : World) (hn : l.length = n) (h : Log w w.heap.size A l) (hl : n ≤ 1000) :
    Calls Try.prog 34 #[.slice A n c] w fun en w' => en = .returned (.int .u64 (last l)) ∧ w = w' := by
  subst hn
  exact last_ref A c l w h (by unfold maxLen; omega)
theorem extends_any' (p : Int) (f : Nat) (A : Option Addr) (c n : Nat) (l : List Entry) (w : World) (hn : l.length = n) (h : Log w w.heap.size A l) (hl : n ≤ 1000) (hf : f ≤ 1000) :
    Calls Try.prog 31 #[.int .u64 p, .int .i64 (f : Int), .slice A n c] w fun en w' => en = .returned (.tuple #[.int .u64 (extend p f l).1, .bool (extend p f l).2]) ∧ Below w.heap.size w w' := by
  subst hn
  exact extends_any p f A c l w h (by omega) (by omega) (by omega)
theorem extends_ref' (p : Int) (f : Nat) (A : Option Addr) (c n : Nat) (l : List Entry) (w : World) (hn : l.length = n) (h : Log w w.heap.size A l) (hl : n ≤ 1000) (hf : f ≤ 1000) :
    Calls Try.prog 33 #[.int .u64 p, .int .i64 (f : Int), .slice A n c] w fun en w' => en = .returned (.tuple #[.int .u64 (extend p f l).1, .bool (extend p f l).2]) ∧ Below w.heap.size w w' := by
  subst hn
  exact extends_ref p f A c l w h (by omega) (by omega) (by omega)
theorem Log.drew {w : World} {A : Option Addr} {l : List Entry} (h : Log w w.heap.size A l) : Log w.drew w.drew.heap.size A l := h
theorem Log.take {w : World} {B : Nat} {A : Option Addr} {l : List Entry} (h : Log w B A l) (k : Nat) : Log w B A (l.take k) :=
  ⟨by have := h.1.take (k * 4); rwa [flat_take] at this, fun e he => h.2 e (List.mem_of_mem_take he)⟩
theorem Log.drop {w : World} {B : Nat} {A : Option Addr} {l : List Entry} (h : Log w B A l) (k c : Nat) (hc : l.length ≤ c) : Log w B (if c = k then A else A.map (·.add (k * 4))) (l.drop k) := by
  refine ⟨?_, fun e he => h.2 e (List.mem_of_mem_drop he)⟩
  by_cases hk : l.length ≤ k
  · rw [List.drop_eq_nil_of_le hk]
    exact Flat.nil _ _ _
  · rw [if_neg (by omega)]
    obtain ⟨b, off, rfl, _, _⟩ := h.1.at_ (by rw [flat_length]; omega)
    have := Flat.drop h.1 (k * 4)
    rw [flat_drop] at this
    have he : (some (⟨b, off, none⟩ : Addr)).map (·.add (k * 4)) = some ⟨b, off + k * 4, none⟩ := by simp only [Option.map_some, Addr.add]; split <;> simp_all
    rw [he]
    exact this

/-! ### a slice of lines that came in -/
def rLine : Rel Line := fun _ _ x cs => cs = encL x ∧ x.text.size ≤ maxLen ∧ (Lit.int .i64 x.kind).wf = true
theorem opens_line : Opens Try.prog 63 2 rLine := by
  refine ⟨by kernel_rfl, fun H enc w base spare held fuel cs x h => ?_⟩
  obtain ⟨hl, hf⟩ := open_fields Try.underlying63 (by kernel_rfl) (by kernel_rfl) h
  obtain ⟨v0, n0, y0, e0, t0⟩ := hf 0 _ rfl
  obtain ⟨v1, n1, y1, e1, t1⟩ := hf 1 _ rfl
  obtain ⟨k, h0, _, hk⟩ := DataW.trod_int Try.underlying3 t0
  obtain ⟨s, h1, _, hs⟩ := DataW.trod_string Try.underlying9 t1
  refine ⟨⟨k, s⟩, ?_, hs, hk⟩
  match cs, hl with
  | [a, b], _ => simp at e0 e1 h0 h1; subst e0 e1 h0 h1; rfl
theorem opens_lines : Opens Try.prog 36 1 (rSlice 2 rLine) := opens_slice Try.underlying36 (by kernel_rfl) opens_line
theorem lines_of {w : World} {A : Option Addr} {n c : Nat} {l : List Line} (h : rSlice 2 rLine w w.heap.size l [.slice A n c]) : n = l.length ∧ Lines w w.heap.size A l := by
  obtain ⟨h1, _, _, h4⟩ := rSlice.flat encL (fun x vs hx => hx.1) h
  exact ⟨h1, h4, rSlice.all (fun x vs hx => hx.2.1) h⟩
theorem kinds_of {w : World} {cs : List Value} {l : List Line} (h : rSlice 2 rLine w w.heap.size l cs) : ∀ x ∈ l, (Lit.int .i64 x.kind).wf = true := rSlice.all (fun x vs hx => hx.2.2) h

end Audit
end Go.Proofs.Ytbomaagbjeiliaa
