/-
  The walks over the laws of audit: change in one word, awake.
-/
import Derived.Test.YtbomaagbjeiliaaAuditWg
namespace Go.Proofs.Ytbomaagbjeiliaa
set_option linter.unusedVariables false
open Go.ChangeShapes Go.WideShapes Go.RowKit
open Hash HashW
open Kit hiding keep_cell below_step below_drewN
attribute [local go_sem ↓] Go.wp_at_zero Go.wp_at_succ
namespace Audit

def changeP (l : List Entry) (a h n : Int) (t : ByteArray) : List Entry :=
  if l.length = 0 then [] else
  if h % 6 = 0 then setAt l (place l a) (fun e => { e with index := n }) else
  if h % 6 = 1 then setAt l (place l a) (fun e => { e with kind := n }) else
  if h % 6 = 2 then setAt l (place l a) (fun e => { e with text := t }) else
  if h % 6 = 3 then setAt l (place l a) (fun e => { e with hash := bits .xor .u64 e.hash (IntKind.u64.wrap n) }) else
  if h % 6 = 4 then l.eraseIdx (place l a) else swapAt l (place l a) (other l n)

theorem change_any (A : Option Addr) (c : Nat) (l : List Entry) (a h n : Int) (t : ByteArray) (w : World) (hl : Log w w.heap.size A l) (hn : l.length ≤ 1000) (ha : 0 ≤ a) (ha' : a < 256) (hh : 0 ≤ h) (hh' : h < 256) :
    Calls Try.prog 28 #[.slice A l.length c, .int .u8 a, .int .u8 h, .int .i64 n, .string t] w (OutLog w (changeP l a h n t)) := by
  unfold changeP
  by_cases h0 : l.length = 0
  · obtain rfl : l = [] := List.eq_nil_of_length_eq_zero h0
    exact change_nil A c a h n t w
  · rw [if_neg h0]
    by_cases h1 : h % 6 = 0
    · rw [if_pos h1]; exact change_0 A c l a h n t w hl hn (by omega) ha ha' hh hh' h1
    · rw [if_neg h1]
      by_cases h2 : h % 6 = 1
      · rw [if_pos h2]; exact change_1 A c l a h n t w hl hn (by omega) ha ha' hh hh' h2
      · rw [if_neg h2]
        by_cases h3 : h % 6 = 2
        · rw [if_pos h3]; exact change_2 A c l a h n t w hl hn (by omega) ha ha' hh hh' h3
        · rw [if_neg h3]
          by_cases h4 : h % 6 = 3
          · rw [if_pos h4]; exact change_3 A c l a h n t w hl hn (by omega) ha ha' hh hh' h4
          · rw [if_neg h4]
            by_cases h5 : h % 6 = 4
            · rw [if_pos h5]; exact change_4 A c l a h n t w hl hn (by omega) ha ha' hh hh' h5
            · rw [if_neg h5]; exact change_5 A c l a h n t w hl hn (by omega) ha ha' hh hh' (by omega)

theorem setAt_length (l : List Entry) (k : Nat) (f : Entry → Entry) : (setAt l k f).length = l.length := by unfold setAt; split <;> simp
theorem swapAt_length (l : List Entry) (k j : Nat) : (swapAt l k j).length = l.length := by unfold swapAt; split <;> simp
theorem changeP_length (l : List Entry) (a h n : Int) (t : ByteArray) : (changeP l a h n t).length ≤ l.length := by
  unfold changeP
  repeat' split
  · simp
  · rw [setAt_length]; exact Nat.le_refl _
  · rw [setAt_length]; exact Nat.le_refl _
  · rw [setAt_length]; exact Nat.le_refl _
  · rw [setAt_length]; exact Nat.le_refl _
  · exact List.length_eraseIdx_le _ _
  · rw [swapAt_length]; exact Nat.le_refl _
theorem changeP_text (l : List Entry) (a h n : Int) (t : ByteArray) (m : Nat) (hl : ∀ e ∈ l, e.text.size ≤ m) (ht : t.size ≤ m) : ∀ e ∈ changeP l a h n t, e.text.size ≤ m := by
  have hset : ∀ k (f : Entry → Entry), (∀ e, e.text.size ≤ m → (f e).text.size ≤ m) → ∀ e ∈ setAt l k f, e.text.size ≤ m := by
    intro k f hf e he
    unfold setAt at he
    split at he
    · rename_i x hx
      rcases List.mem_or_eq_of_mem_set he with h | h
      · exact hl e h
      · rw [h]; exact hf x (hl x (List.mem_of_getElem? hx))
    · exact hl e he
  unfold changeP
  repeat' split
  · simp
  · exact hset _ _ (fun e h => h)
  · exact hset _ _ (fun e h => h)
  · exact hset _ _ (fun e h => ht)
  · exact hset _ _ (fun e h => h)
  · exact fun e he => hl e (List.mem_of_mem_eraseIdx he)
  · intro e he
    unfold swapAt at he
    split at he
    · rename_i x y hx hy
      rcases List.mem_or_eq_of_mem_set he with h | h
      · rcases List.mem_or_eq_of_mem_set h with h | h
        · exact hl e h
        · rw [h]; exact hl y (List.mem_of_getElem? hy)
      · rw [h]; exact hl x (List.mem_of_getElem? hx)
    · exact hl e he

/-! ### awake -/
def s1 : ByteArray := ⟨#[115, 116, 97, 114, 116]⟩
def s2 : ByteArray := ⟨#[110, 101, 120, 116]⟩
def l1 : List Entry := [newEntry [] 1 s1]
def l2 : List Entry := l1 ++ [newEntry l1 2 s2]

theorem own_log {w : World} {base n : Nat} {A : Option Addr} {c : Nat} {l : List Entry} (h : w.ownsRow base 49 4 (.slice A n c) n (l.flatMap enc)) (ht : ∀ e ∈ l, e.text.size ≤ 200) : Log w w.heap.size A l :=
  ⟨Flat.of_own h, fun e he => by have := ht e he; unfold maxLen; omega⟩
theorem Log.step {w w' : World} {A : Option Addr} {l : List Entry} (h : Log w w.heap.size A l) (hb : Below w.heap.size w w') : Log w' w'.heap.size A l := ⟨(h.1.below hb).more hb.size, h.2⟩

theorem extend_verify (q : Int) (i : Nat) (l : List Entry) (h : (verify q i l).2 = true) : extend q i l = (lastH q l, true) := by
  induction l generalizing q i with
  | nil => rfl
  | cons e r ih =>
    simp only [verify, extend, lastH] at h ⊢
    cases hg : good q i e with
    | false => rw [hg] at h; simp at h
    | true =>
      rw [hg] at h
      simp only [if_true] at h ⊢
      exact ih _ _ h
theorem v1 : (verify 0 0 l1).2 = true := verify_new [] 1 s1 (by decide) rfl
theorem v2 : (verify 0 0 l2).2 = true := verify_new l1 2 s2 (by decide) v1
theorem t2 : ∀ e ∈ l2, e.text.size ≤ 200 := by
  intro e he
  simp [l2, l1] at he
  rcases he with rfl | rfl <;> decide
theorem f21 : ((fork l2 l1 : Nat) : Int) = 1 := by
  have : same (newEntry [] 1 s1) (newEntry [] 1 s1) = true := (same_iff _ _).2 rfl
  simp [l2, l1, fork, this]

set_option maxHeartbeats 2000000 in
theorem awake_any (w : World) : Calls Try.prog 26 #[] w fun e w' => e = .returned (.bool true) ∧ Below w.heap.size w w' := by
  go_enter Try.func26, Try.ntmps26
  go_wp2_with fail
  have hlog0 : Log w w.heap.size none [] := ⟨Flat.nil _ _ _, by simp⟩
  refine (append_ok none 0 [] 1 s1 (by decide) w hlog0 (by simp) rfl).mono ?_
  rintro e w1 ⟨v, rfl, hown, hb1⟩
  obtain ⟨A, c, rfl, hc1, hc2, hfl⟩ := own_slice hown
  go_wp2_with fail
  have hlog1 : Log w1 w1.heap.size A l1 := ⟨hfl, fun e he => by simp [l1] at he; rw [he]; decide⟩
  obtain ⟨b, off, x, kd, t, hs, rfl, hbb, he, ht, c0, c1, c2, c3⟩ := hlog1.at_ (k := 0) (by decide)
  have hhs : hs = hashI 0 0 1 s1.data.toList := by simp [l1, newEntry] at he; rw [← he.2.2.2]; rfl
  subst hhs
  simp only [Nat.zero_mul, Nat.add_zero] at c3
  clear he c0 c1 c2 hfl hown hbb
  go_region_held3 (fun w' => w'.cell? ⟨b, off + 3, none⟩ = some (.int .u64 (hashI 0 0 1 s1.data.toList)) ∧ Below w.heap.size w w') (first | assumption | (refine ⟨by simp [*], by repeat' (first | (with_reducible exact Below.refl _ _) | (with_reducible assumption) | (with_reducible refine Below.alloc ?_ ?_ _) | (with_reducible refine Below.drew ?_) | (with_reducible refine below_drewN ?_ _) | (with_reducible refine Below.setCell ?_ ?_ _) | (with_reducible exact Below.size (by assumption)) | go_size)⟩; done) | (refine ⟨keep_cell hb2 c3, below_step hb1.drew hb2⟩; done)) (first | (go_at_call 42; refine (hash_ref 0 0 1 s1 (by decide) _).mono ?_; rintro e w' ⟨rfl, hb2⟩))
  go_wp2_with fail
  have hb02 : Below w.heap.size w w' := by simp [*]
  have hlog1' : Log w' w'.heap.size (some ⟨b, off, none⟩) l1 := Log.step (w := w1.drew) hlog1 hb2
  clear hlog1 hb2 c3 hlog0
  refine (append_ok' (some ⟨b, off, none⟩) c 1 l1 2 s2 rfl (by decide) w' hlog1' (by decide) v1).mono ?_
  rintro e w2 ⟨v, rfl, hown2, hb3⟩
  obtain ⟨A2, cc, hveq, hd1, hd2, hfl2⟩ := own_slice hown2
  have hveq' : v = .slice A2 2 cc := hveq
  have hown2' : w2.ownsRow w'.heap.size 49 4 (.slice A2 2 cc) 2 (l2.flatMap enc) := by rw [← hveq']; exact hown2
  clear hveq hown2
  subst hveq'
  have hlog2 : Log w2 w2.heap.size A2 l2 := own_log hown2' t2
  replace hb3 := below_step hb02 hb3
  obtain ⟨b2, off2, x2, kd2, tt2, hs2, rfl, hbb2, he2, ht2, d0, d1, d2, d3⟩ := hlog2.at_ (k := 1) (by decide)
  have hl2 : hs2 = last l2 := (last_get (l := l2) (e := ⟨x2, kd2, tt2, hs2⟩) he2).symm
  subst hl2
  have hcc : (2 : Int) ≤ (cc : Int) := by have : l2.length ≤ cc := hd1; have h2 : l2.length = 2 := rfl; omega
  have hcc1 : (1 : Int) ≤ (cc : Int) := by omega
  have hlog21 : Log w2 w2.heap.size (some ⟨b2, off2, none⟩) l1 := ⟨by have := hlog2.1.take 4; exact this, fun e he => hlog2.2 e (by simp [l2, he])⟩
  simp only [Nat.one_mul] at d3
  have hf := f21
  have hv := v2
  have he := extend_verify 0 0 l2 v2
  have hfl : extend 0 0 l2 = (last l2, true) := he
  clear he he2 d0 d1 d2 hbb2 hfl2 hown2' hlog1'
  go_wp2_with fail
  go_region_held3 (fun w' => w'.cell? ⟨b2, off2 + 4 + 3, none⟩ = some (.int .u64 (last l2)) ∧ Below w.heap.size w w') (first | assumption | (refine ⟨by simp [*], by repeat' (first | (with_reducible exact Below.refl _ _) | (with_reducible assumption) | (with_reducible refine Below.alloc ?_ ?_ _) | (with_reducible refine Below.drew ?_) | (with_reducible refine below_drewN ?_ _) | (with_reducible refine Below.setCell ?_ ?_ _) | (with_reducible exact Below.size (by assumption)) | go_size)⟩; done) | (refine ⟨keep_cell hb4 d3, below_step hb3.drew hb4⟩; done)) (first | (go_at_call 32; refine (last_any _ cc l2 _ (show Log w2.drew w2.drew.heap.size _ _ from hlog2) (by decide)).mono ?_; rintro e w' ⟨rfl, rfl⟩) | (go_at_call 35; refine (fork_any _ _ cc cc l2 l1 _ (show Log w2.drew w2.drew.heap.size _ _ from hlog2) (show Log w2.drew w2.drew.heap.size _ _ from hlog21) (by decide) (by decide)).mono ?_; rintro e w' ⟨rfl, hb4⟩))
  go_wp2_with fail
  refine (verify_any _ cc l2 _ (Log.step (w := w2.drew) hlog2 hb4) (by decide)).mono ?_
  rintro e w3 ⟨rfl, hb5⟩
  go_wp2_with fail
  refine (extends_any 0 0 _ cc l2 _ (Log.step (Log.step (w := w2.drew) hlog2 hb4) hb5) (by decide) (by decide) (by decide)).mono ?_
  rintro e w4 ⟨rfl, hb6⟩
  have d4 := keep_cell hb6 (keep_cell hb5 (keep_cell (W := w2.drew) hb4 d3))
  have hb7 := below_step (below_step (below_step hb3.drew hb4) hb5) hb6
  clear hlog2 hlog21 hb4 hb5 hb6 hb3
  go_wp2_with fail
  go_ret
  exact ⟨rfl, hb7⟩

end Audit
end Go.Proofs.Ytbomaagbjeiliaa
