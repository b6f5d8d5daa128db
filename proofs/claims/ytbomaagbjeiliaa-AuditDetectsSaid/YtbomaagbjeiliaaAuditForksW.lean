/-
  AuditForks: its walk: for every list of lines and every two texts the law returns true, and nothing that was there is written. Conditions: none.
-/
import Derived.Test.YtbomaagbjeiliaaAuditWi
namespace Go.Proofs.Ytbomaagbjeiliaa
set_option linter.unusedVariables false
open Go.ChangeShapes Go.WideShapes Go.RowKit
open Hash HashW Audit
open Kit hiding keep_cell below_step below_drewN
attribute [local go_sem ↓] Go.wp_at_zero Go.wp_at_succ
namespace AuditForksW

theorem last_new (l : List Entry) (k : Int) (t : ByteArray) : last (l ++ [newEntry l k t]) = hashI (last l) l.length k t.data.toList := by
  unfold last; rw [lastH_snoc]; rfl
theorem last_eq (l : List Entry) (k : Int) (s t : ByteArray) (h : textI s.data.toList = textI t.data.toList) : last (l ++ [newEntry l k s]) = last (l ++ [newEntry l k t]) := by
  rw [last_new, last_new]; unfold hashI; rw [h]
theorem last_ne (l : List Entry) (k : Int) (s t : ByteArray) (h : textI s.data.toList ≠ textI t.data.toList) : last (l ++ [newEntry l k s]) ≠ last (l ++ [newEntry l k t]) := by
  rw [last_new, last_new]
  exact fun e => h (combineI_right (textI_u64 _) (textI_u64 _) e)
theorem fork_same (l : List Entry) (a b : Entry) (h : same a b = false) : fork (l ++ [a]) (l ++ [b]) = l.length := by
  induction l with
  | nil => simp [fork, h]
  | cons x r ih =>
    have hx : same x x = true := (same_iff x x).2 rfl
    simp only [List.cons_append, fork, hx, if_true, ih, List.length_cons]
theorem same_new (l : List Entry) (k : Int) (s t : ByteArray) (h : textI s.data.toList ≠ textI t.data.toList) : same (newEntry l k s) (newEntry l k t) = false := by
  cases hs : same (newEntry l k s) (newEntry l k t) with
  | false => rfl
  | true =>
    have he := (same_iff _ _).1 hs
    have ht : (newEntry l k s).text = (newEntry l k t).text := by rw [he]
    exact absurd (by rw [show s = t from ht]) h

theorem lines_step {w w1 : World} {A : Option Addr} {l : List Line} (h : Lines w w.heap.size A l) (hb : Below w.heap.size w w1) : Lines w1 w1.heap.size A l := ⟨(h.1.below hb).more hb.size, h.2⟩

set_option maxHeartbeats 2000000 in
theorem walk (w : World) (A0 : Option Addr) (n0 c0 : Nat) (a0 : List Audit.Line) (w0 : Kit.rSlice 2 Audit.rLine w w.heap.size a0 [.slice A0 n0 c0]) (a1 : Int) (w1 : (Lit.int .i64 a1).wf = true) (a2 : ByteArray) (w2 : a2.size ≤ maxLen) (a3 : ByteArray) (w3 : a3.size ≤ maxLen) :
    Calls Try.prog 11 #[.slice A0 n0 c0, .int .i64 a1, .string a2, .string a3] w fun e w' => e = .returned (.bool true) ∧ Below w.heap.size w w' := by
  obtain ⟨rfl, hlines⟩ := lines_of w0
  clear w0 w1
  by_cases h40 : 40 < a0.length
  · go_enter Try.func11, Try.ntmps11
    go_wp2_with fail
    refine (Audit.awake_any _).mono ?_
    rintro e wd1 ⟨rfl, hb1⟩
    go_wp2_with fail
    go_ret
    exact ⟨rfl, hb1⟩
  · by_cases h2 : 200 < a2.size
    · go_enter Try.func11, Try.ntmps11
      go_wp2_with fail
      refine (Audit.awake_any _).mono ?_
      rintro e wd1 ⟨rfl, hb1⟩
      go_wp2_with fail
      go_ret
      exact ⟨rfl, hb1⟩
    · by_cases h3 : 200 < a3.size
      · go_enter Try.func11, Try.ntmps11
        go_wp2_with fail
        refine (Audit.awake_any _).mono ?_
        rintro e wd1 ⟨rfl, hb1⟩
        go_wp2_with fail
        go_ret
        exact ⟨rfl, hb1⟩
      · have k2 : a2.size ≤ 200 := by omega
        have k3 : a3.size ≤ 200 := by omega
        go_enter Try.func11, Try.ntmps11
        go_wp2_with fail
        refine (Audit.awake_any _).mono ?_
        rintro e wd1 ⟨rfl, hb1⟩
        have hl1 := lines_step hlines hb1
        go_wp2_with fail
        (with_reducible refine (log_any A0 c0 a0 wd1 hl1 (by omega)).mono ?_)
        rintro e wd2 ⟨v, rfl, hown, hb2⟩
        obtain ⟨A, c, rfl, hc1, hc2, hfl⟩ := own_slice hown
        have hlog := own_log hown (build_text a0)
        have HLEN := Lib.hid (build_length a0)
        have HV := Lib.hid (build_verify a0)
        have hn : (build a0).length ≤ 40 := by rw [HLEN.out]; omega
        have hneq : Hid ((((build a0).length : Int) != (a0.length : Int)) = false) := Lib.hid (by rw [HLEN.out]; simp)
        replace hb2 := below_step hb1 hb2
        generalize build a0 = b at *
        clear hown hfl hc1 hc2 HLEN hb1 hl1
        go_wp2_with fail
        (with_reducible refine (append_ok A c b a1 a2 k2 wd2 hlog (by omega) HV.out).mono ?_)
        rintro e wd3 ⟨v3, rfl, hown3, hb3⟩
        have hlog3 := hlog.step hb3
        replace hb3 := below_step hb2 hb3
        go_wp2_with fail
        (with_reducible refine (append_ok A c b a1 a3 k3 wd3 hlog3 (by omega) HV.out).mono ?_)
        rintro e wd4 ⟨v4, rfl, hown4, hb4⟩
        have hown3' := own_below hown3 hb4
        replace hb4 := below_step hb3 hb4
        obtain ⟨A3, c3, rfl, _, _, hf3⟩ := own_slice hown3'
        obtain ⟨A4, c4, rfl, _, _, hf4⟩ := own_slice hown4
        have ht : ∀ e ∈ b, e.text.size ≤ maxLen := hlog.2
        have hq3 : Log wd4 wd4.heap.size A3 (b ++ [newEntry b a1 a2]) := ⟨hf3, fun e he => by
          rcases List.mem_append.1 he with h | h
          · exact ht e h
          · simp at h; rw [h]; exact w2⟩
        have hq4 : Log wd4 wd4.heap.size A4 (b ++ [newEntry b a1 a3]) := ⟨hf4, fun e he => by
          rcases List.mem_append.1 he with h | h
          · exact ht e h
          · simp at h; rw [h]; exact w3⟩
        have H3 := Lib.hid (show (b ++ [newEntry b a1 a2]).length ≤ 41 by simp; omega)
        have H4 := Lib.hid (show (b ++ [newEntry b a1 a3]).length ≤ 41 by simp; omega)
        have hne := hneq.out
        have heq := Lib.hid (last_eq b a1 a2 a3)
        have hdif := Lib.hid (last_ne b a1 a2 a3)
        have hfk := Lib.hid (fun h => fork_same b _ _ (same_new b a1 a2 a3 h))
        generalize b ++ [newEntry b a1 a2] = x3 at *
        generalize b ++ [newEntry b a1 a3] = x4 at *
        clear hown3 hown3' hown4 hf3 hf4 hb2 hb3 hlog hlog3 hlines ht
        go_wp2_with fail
        (with_reducible refine (text_any a2 w2 _).mono ?_)
        rintro e wd5 ⟨rfl, hb5⟩
        have hq3 := hq3.step hb5
        have hq4 := hq4.step hb5
        replace hb5 := below_step hb4 hb5
        go_wp2_with fail
        (with_reducible refine (text_any a3 w3 _).mono ?_)
        rintro e wd6 ⟨rfl, hb6⟩
        have hq3 := hq3.step hb6
        have hq4 := hq4.step hb6
        replace hb6 := below_step hb5 hb6
        by_cases hte : textI a2.data.toList = textI a3.data.toList
        · have hb : (textI a2.data.toList == textI a3.data.toList) = true := by rw [beq_iff_eq]; exact hte
          have hl := heq.out hte
          clear hte
          go_wp2_with fail
          (with_reducible refine (last_any A3 c3 x3 _ hq3 (by have := H3.out; unfold maxLen; omega)).mono ?_)
          rintro e w' ⟨rfl, rfl⟩
          go_wp2_with fail
          (with_reducible refine (last_any A4 c4 x4 _ hq4 (by have := H4.out; unfold maxLen; omega)).mono ?_)
          rintro e w' ⟨rfl, rfl⟩
          go_wp2_with fail
          go_ret
          exact ⟨rfl, hb6⟩
        · have hb : (textI a2.data.toList == textI a3.data.toList) = false := by rw [beq_eq_false_iff_ne]; exact hte
          have hl : (last x3 != last x4) = true := by rw [bne_iff_ne]; exact hdif.out hte
          have hfe : ((fork x3 x4 : Nat) : Int) = (b.length : Int) := by rw [hfk.out hte]
          clear hte
          go_wp2_with fail
          (with_reducible refine (fork_any A3 A4 c3 c4 x3 x4 _ hq3 hq4 (by have := H3.out; omega) (by have := H4.out; omega)).mono ?_)
          rintro e wd7 ⟨rfl, hb7⟩
          have hq3 := hq3.step hb7
          have hq4 := hq4.step hb7
          replace hb7 := below_step hb6 hb7
          go_wp2_with fail
          (with_reducible refine (last_any A3 c3 x3 _ hq3 (by have := H3.out; unfold maxLen; omega)).mono ?_)
          rintro e w' ⟨rfl, rfl⟩
          go_wp2_with fail
          (with_reducible refine (last_any A4 c4 x4 _ hq4 (by have := H4.out; unfold maxLen; omega)).mono ?_)
          rintro e w' ⟨rfl, rfl⟩
          go_wp2_with fail
          go_ret
          exact ⟨rfl, hb7⟩

end AuditForksW
end Go.Proofs.Ytbomaagbjeiliaa
