/-
  AuditChains: its walk: for every list of lines and every change of the log that they make, the program and the reference agree on the log and on the changed log. Conditions: none.
-/
import Derived.Test.YtbomaagbjeiliaaAuditPartsW
namespace Go.Proofs.Ytbomaagbjeiliaa
set_option linter.unusedVariables false
open Go.ChangeShapes Go.WideShapes Go.RowKit
open Hash HashW Audit
open Kit hiding keep_cell below_step below_drewN
attribute [local go_sem ↓] Go.wp_at_zero Go.wp_at_succ
namespace AuditChainsW
open AuditPartsW (u8_wf)

/-- What is known of a world in the loop: the two logs, and the array that holds them. -/
structure St (w : World) (A B : Option Addr) (ca cb : Nat) (la lb : List Entry) (g : Nat) (W : World) : Prop where
  below : Below w.heap.size w W
  ca : W.cell? ⟨g, 0, none⟩ = some (.slice A la.length ca)
  cb : W.cell? ⟨g, 1, none⟩ = some (.slice B lb.length cb)
  logA : Log W W.heap.size A la
  logB : Log W W.heap.size B lb
theorem St.step {w W W1 : World} {A B : Option Addr} {ca cb g : Nat} {la lb : List Entry} (h : St w A B ca cb la lb g W) (hb : Below W.heap.size W W1) : St w A B ca cb la lb g W1 :=
  ⟨below_step h.below hb, keep_cell hb h.ca, keep_cell hb h.cb, h.logA.step hb, h.logB.step hb⟩
theorem St.drew {w W : World} {A B : Option Addr} {ca cb g : Nat} {la lb : List Entry} (h : St w A B ca cb la lb g W) : St w A B ca cb la lb g W.drew :=
  ⟨h.below.drew, h.ca, h.cb, h.logA, h.logB⟩
theorem lines_step {w w1 : World} {A : Option Addr} {l : List Line} (h : Lines w w.heap.size A l) (hb : Below w.heap.size w w1) : Lines w1 w1.heap.size A l := ⟨(h.1.below hb).more hb.size, h.2⟩

set_option maxHeartbeats 8000000 in
theorem walk (w : World) (A0 : Option Addr) (n0 c0 : Nat) (a0 : List Audit.Line) (w0 : Kit.rSlice 2 Audit.rLine w w.heap.size a0 [.slice A0 n0 c0]) (a1 : Int) (w1 : (Lit.int .u8 a1).wf = true) (a2 : Int) (w2 : (Lit.int .u8 a2).wf = true) (a3 : Int) (w3 : (Lit.int .i64 a3).wf = true) (a4 : ByteArray) (w4 : a4.size ≤ maxLen) :
    Calls Try.prog 8 #[.slice A0 n0 c0, .int .u8 a1, .int .u8 a2, .int .i64 a3, .string a4] w fun e w' => e = .returned (.bool true) ∧ Below w.heap.size w w' := by
  obtain ⟨rfl, hlines⟩ := lines_of w0
  obtain ⟨p1, q1⟩ := u8_wf w1
  obtain ⟨p2, q2⟩ := u8_wf w2
  clear w0 w1 w2 w3
  by_cases h40 : 40 < a0.length
  · go_enter Try.func8, Try.ntmps8
    go_wp2_with fail
    refine (Audit.awake_any _).mono ?_
    rintro e wd1 ⟨rfl, hb1⟩
    go_wp2_with fail
    go_ret
    exact ⟨rfl, hb1⟩
  · by_cases h300 : 300 < a4.size
    · go_enter Try.func8, Try.ntmps8
      go_wp2_with fail
      refine (Audit.awake_any _).mono ?_
      rintro e wd1 ⟨rfl, hb1⟩
      go_wp2_with fail
      go_ret
      exact ⟨rfl, hb1⟩
    · go_enter Try.func8, Try.ntmps8
      go_wp2_with fail
      refine (Audit.awake_any _).mono ?_
      rintro e wd1 ⟨rfl, hb1⟩
      have hl1 := lines_step hlines hb1
      go_wp2_with fail
      (with_reducible refine (log_any A0 c0 a0 wd1 hl1 (by omega)).mono ?_)
      rintro e wd2 ⟨v, rfl, hown, hb2⟩
      obtain ⟨A, c, rfl, hc1, hc2, hfl⟩ := own_slice hown
      have hlog := own_log hown (build_text a0)
      have HLEN := Lib.hid (build_length a0)
      have hb40 : (build a0).length ≤ 40 := by rw [HLEN.out]; omega
      replace hb2 := below_step hb1 hb2
      clear hown hfl hb1 HLEN
      go_wp2_with fail
      (with_reducible refine (change_any A c (build a0) a1 a2 a3 a4 wd2 hlog (by omega) p1 q1 p2 q2).mono ?_)
      rintro e wd3 ⟨B, d, rfl, hd1, hd2, hfb, hb3⟩
      have hlA := hlog.step hb3
      replace hb3 := below_step hb2 hb3
      have hbl := changeP_length (build a0) a1 a2 a3 a4
      have hbt := changeP_text (build a0) a1 a2 a3 a4 maxLen (fun e he => hlog.2 e he) w4
      have hlB : Log wd3 wd3.heap.size B (changeP (build a0) a1 a2 a3 a4) := ⟨hfb, hbt⟩
      generalize changeP (build a0) a1 a2 a3 a4 = b at *
      generalize build a0 = a at *
      have hbn : b.length ≤ 40 := by omega
      obtain ⟨K, hK⟩ : ∃ K : Nat, a1 % ((a.length : Int) + 1) = (K : Int) := ⟨_, (Int.toNat_of_nonneg (Int.emod_nonneg a1 (by omega))).symm⟩
      have hKa : K ≤ a.length := by have := Int.emod_lt_of_pos a1 (show (0 : Int) < (a.length : Int) + 1 by omega); omega
      obtain ⟨J, hJ⟩ : ∃ J : Nat, a1 % ((b.length : Int) + 1) = (J : Int) := ⟨_, (Int.toNat_of_nonneg (Int.emod_nonneg a1 (by omega))).symm⟩
      have hJb : J ≤ b.length := by have := Int.emod_lt_of_pos a1 (show (0 : Int) < (b.length : Int) + 1 by omega); omega
      have hst : ∀ (cs : Array Value), cs = #[.slice A a.length c, .slice B b.length d] → St w A B c d a b wd3.heap.size (wd3.alloc (.cells cs 37)) := by
        rintro cs rfl
        exact ⟨hb3.alloc hb3.size _, by simp [go_sem], by simp [go_sem], ⟨(hlA.1.keep (kept_alloc (Nat.le_refl _) _)).more (by simp), hlA.2⟩, ⟨(hlB.1.keep (kept_alloc (Nat.le_refl _) _)).more (by simp), hlB.2⟩⟩
      have hs0 := hst _ rfl
      clear hst hbl hlog hfb hlines hb2 hb3 hbt hlA hlB hl1
      unfold maxLen at hc2 hd2
      have j1 : (K : Int) ≤ (a.length : Int) := by omega
      have j2 : (a.length : Int) ≤ (c : Int) := by omega
      have j3 : (K : Int) ≤ (c : Int) := by omega
      have i1 : (J : Int) ≤ (b.length : Int) := by omega
      have i2 : (b.length : Int) ≤ (d : Int) := by omega
      have i3 : (J : Int) ≤ (d : Int) := by omega
      go_wp2_with fail
      refine wp_loop_rounds 3 ?_
      rw [rounds_succ]
      have cc0 := hs0.ca
      go_wp2_with fail
      (with_reducible refine (verify_any A c a _ hs0.logA (by unfold maxLen; omega)).mono ?_)
      rintro e x01 ⟨rfl, hb⟩
      have hs1 := hs0.step hb
      clear hs0 hb
      go_wp2_with fail
      (with_reducible refine (verify_ref A c a _ hs1.logA (by unfold maxLen; omega)).mono ?_)
      rintro e x02 ⟨rfl, hb⟩
      have hs2 := hs1.step hb
      clear hs1 hb
      have hT0 := Lib.hid (show (a.take K).length = K by rw [List.length_take]; omega)
      have hD0 := Lib.hid (show (a.drop K).length = a.length - K by rw [List.length_drop])
      have ht0 := (hs2.logA.take K).drew
      have hd0 := (hs2.logA.drop K c (by omega)).drew
      obtain ⟨X0, hX0⟩ : ∃ X, (if c = K then A else A.map (·.add (K * 4))) = X := ⟨_, rfl⟩
      rw [hX0] at hd0
      go_wp2_with fail
      go_region_held3 (fun w' => Below w.heap.size w w') (first | assumption | (exact hs2.below.drew) | (exact below_step hs2.below.drew hb)) (first | (go_at_call 32; (with_reducible refine (last_any' A c K (a.take K) _ hT0.out ht0 (by omega)).mono ?_); rintro e w' ⟨rfl, rfl⟩) | (go_at_call 31; (with_reducible refine (extends_any' _ K _ _ _ (a.drop K) _ hD0.out hd0 (by omega) (by omega)).mono ?_); rintro e x03 ⟨rfl, hb⟩))
      have hs3 := hs2.drew.step hb
      clear hs2 hb ht0 hd0
      have ht0 := (hs3.logA.take K).drew
      have hd0 := (hs3.logA.drop K c (by omega)).drew
      rw [hX0] at hd0
      go_wp2_with fail
      go_region_held3 (fun w' => Below w.heap.size w w') (first | assumption | (exact hs3.below.drew) | (exact below_step hs3.below.drew hb)) (first | (go_at_call 34; (with_reducible refine (last_ref' A c K (a.take K) _ hT0.out ht0 (by omega)).mono ?_); rintro e w' ⟨rfl, rfl⟩) | (go_at_call 33; (with_reducible refine (extends_ref' _ K _ _ _ (a.drop K) _ hD0.out hd0 (by omega) (by omega)).mono ?_); rintro e x04 ⟨rfl, hb⟩))
      have hs4 := hs3.drew.step hb
      clear hs3 hb ht0 hd0 hX0
      go_wp2_with fail
      rw [rounds_succ]
      have cc1 := hs4.cb
      go_wp2_with fail
      (with_reducible refine (verify_any B d b _ hs4.logB (by unfold maxLen; omega)).mono ?_)
      rintro e x11 ⟨rfl, hb⟩
      have hs5 := hs4.step hb
      clear hs4 hb
      go_wp2_with fail
      (with_reducible refine (verify_ref B d b _ hs5.logB (by unfold maxLen; omega)).mono ?_)
      rintro e x12 ⟨rfl, hb⟩
      have hs6 := hs5.step hb
      clear hs5 hb
      have hT1 := Lib.hid (show (b.take J).length = J by rw [List.length_take]; omega)
      have hD1 := Lib.hid (show (b.drop J).length = b.length - J by rw [List.length_drop])
      have ht1 := (hs6.logB.take J).drew
      have hd1 := (hs6.logB.drop J d (by omega)).drew
      obtain ⟨X1, hX1⟩ : ∃ X, (if d = J then B else B.map (·.add (J * 4))) = X := ⟨_, rfl⟩
      rw [hX1] at hd1
      go_wp2_with fail
      go_region_held3 (fun w' => Below w.heap.size w w') (first | assumption | (exact hs6.below.drew) | (exact below_step hs6.below.drew hb)) (first | (go_at_call 32; (with_reducible refine (last_any' B d J (b.take J) _ hT1.out ht1 (by omega)).mono ?_); rintro e w' ⟨rfl, rfl⟩) | (go_at_call 31; (with_reducible refine (extends_any' _ J _ _ _ (b.drop J) _ hD1.out hd1 (by omega) (by omega)).mono ?_); rintro e x13 ⟨rfl, hb⟩))
      have hs7 := hs6.drew.step hb
      clear hs6 hb ht1 hd1
      have ht1 := (hs7.logB.take J).drew
      have hd1 := (hs7.logB.drop J d (by omega)).drew
      rw [hX1] at hd1
      go_wp2_with fail
      go_region_held3 (fun w' => Below w.heap.size w w') (first | assumption | (exact hs7.below.drew) | (exact below_step hs7.below.drew hb)) (first | (go_at_call 34; (with_reducible refine (last_ref' B d J (b.take J) _ hT1.out ht1 (by omega)).mono ?_); rintro e w' ⟨rfl, rfl⟩) | (go_at_call 33; (with_reducible refine (extends_ref' _ J _ _ _ (b.drop J) _ hD1.out hd1 (by omega) (by omega)).mono ?_); rintro e x14 ⟨rfl, hb⟩))
      have hs8 := hs7.drew.step hb
      clear hs7 hb ht1 hd1 hX1
      go_wp2_with fail
      rw [rounds_succ]
      go_wp2_with fail
      (with_reducible refine (fork_any A B c d a b _ hs8.logA hs8.logB (by omega) (by omega)).mono ?_)
      rintro e y1 ⟨rfl, hb⟩
      have hs9 := hs8.step hb
      clear hs8 hb
      go_wp2_with fail
      (with_reducible refine (fork_ref A B c d a b _ hs9.logA hs9.logB (by omega) (by omega)).mono ?_)
      rintro e y2 ⟨rfl, hb⟩
      have hs10 := hs9.step hb
      go_wp2_with fail
      go_ret
      exact ⟨rfl, hs10.below⟩

end AuditChainsW
end Go.Proofs.Ytbomaagbjeiliaa
