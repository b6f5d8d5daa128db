/-
  AuditParts: its walk: for every list of lines and every change of the log that they make, the law returns true, and nothing that was there is written. Conditions: none.
-/
import Derived.Test.YtbomaagbjeiliaaAuditWi
namespace Go.Proofs.Ytbomaagbjeiliaa
set_option linter.unusedVariables false
open Go.ChangeShapes Go.WideShapes Go.RowKit
open Hash HashW Audit
open Kit hiding keep_cell below_step below_drewN
attribute [local go_sem ↓] Go.wp_at_zero Go.wp_at_succ
namespace AuditPartsW

theorem u8_wf {x : Int} (h : (Lit.int .u8 x).wf = true) : 0 ≤ x ∧ x < 256 := by
  simp [Lit.wf, IntKind.min, IntKind.max, IntKind.bits, IntKind.signed] at h
  omega

theorem lastH_append (q : Int) (x y : List Entry) : lastH q (x ++ y) = lastH (lastH q x) y := by
  induction x generalizing q with
  | nil => rfl
  | cons e r ih => exact ih _
theorem verify_append (q : Int) (i : Nat) (x y : List Entry) : (verify q i (x ++ y)).2 = ((verify q i x).2 && (extend (lastH q x) (i + x.length : Nat) y).2) := by
  induction x generalizing q i with
  | nil =>
    simp only [List.nil_append, verify, lastH, List.length_nil, Nat.add_zero, Bool.true_and]
    induction y generalizing q i with
    | nil => rfl
    | cons e r ih =>
      simp only [verify, extend]
      cases good q i e with
      | false => rfl
      | true => simp only [if_true]; exact ih _ _
  | cons e r ih =>
    simp only [List.cons_append, verify, lastH]
    cases good q i e with
    | false => simp
    | true =>
      simp only [if_true]
      rw [ih, show i + 1 + r.length = i + (e :: r).length by simp; omega]
theorem extend_verify' (q i : Int) (l : List Entry) (h : (extend q i l).2 = true) : (extend q i l).1 = lastH q l := by
  induction l generalizing q i with
  | nil => rfl
  | cons e r ih =>
    simp only [extend, lastH] at h ⊢
    cases hg : good q i e with
    | false => rw [hg] at h; simp at h
    | true =>
      rw [hg] at h
      simp only [if_true] at h ⊢
      exact ih _ _ h
/-- The law: a log verifies iff its two parts do. -/
theorem parts (b : List Entry) (K : Nat) (hK : K ≤ b.length) : (verify 0 0 b).2 = ((verify 0 0 (b.take K)).2 && (extend (last (b.take K)) K (b.drop K)).2) := by
  have h := verify_append 0 0 (b.take K) (b.drop K)
  rw [List.take_append_drop, List.length_take, Nat.min_eq_left hK, Nat.zero_add] at h
  exact h
theorem parts_last (b : List Entry) (K : Nat) (h : (extend (last (b.take K)) K (b.drop K)).2 = true) : (extend (last (b.take K)) K (b.drop K)).1 = last b := by
  rw [extend_verify' _ _ _ h]
  unfold last
  rw [← lastH_append, List.take_append_drop]

set_option maxHeartbeats 2000000 in
theorem walk (w : World) (A0 : Option Addr) (n0 c0 : Nat) (a0 : List Audit.Line) (w0 : Kit.rSlice 2 Audit.rLine w w.heap.size a0 [.slice A0 n0 c0]) (a1 : Int) (w1 : (Lit.int .u8 a1).wf = true) (a2 : Int) (w2 : (Lit.int .u8 a2).wf = true) (a3 : Int) (w3 : (Lit.int .u8 a3).wf = true) (a4 : Int) (w4 : (Lit.int .i64 a4).wf = true) (a5 : ByteArray) (w5 : a5.size ≤ maxLen) :
    Calls Try.prog 10 #[.slice A0 n0 c0, .int .u8 a1, .int .u8 a2, .int .u8 a3, .int .i64 a4, .string a5] w fun e w' => e = .returned (.bool true) ∧ Below w.heap.size w w' := by
  obtain ⟨rfl, hlines⟩ := lines_of w0
  obtain ⟨p1, q1⟩ := u8_wf w1
  obtain ⟨p2, q2⟩ := u8_wf w2
  obtain ⟨p3, q3⟩ := u8_wf w3
  clear w0 w1 w2 w3
  by_cases h40 : 40 < a0.length
  · go_enter Try.func10, Try.ntmps10
    go_wp2_with fail
    refine (Audit.awake_any _).mono ?_
    rintro e wd1 ⟨rfl, hb1⟩
    go_wp2_with fail
    go_ret
    exact ⟨rfl, hb1⟩
  · by_cases h300 : 300 < a5.size
    · go_enter Try.func10, Try.ntmps10
      go_wp2_with fail
      refine (Audit.awake_any _).mono ?_
      rintro e wd1 ⟨rfl, hb1⟩
      go_wp2_with fail
      go_ret
      exact ⟨rfl, hb1⟩
    · go_enter Try.func10, Try.ntmps10
      go_wp2_with fail
      refine (Audit.awake_any _).mono ?_
      rintro e wd1 ⟨rfl, hb1⟩
      have hl1 : Lines wd1 wd1.heap.size A0 a0 := ⟨(hlines.1.below hb1).more hb1.size, hlines.2⟩
      go_wp2_with fail
      with_reducible refine (log_any A0 c0 a0 wd1 hl1 (by omega)).mono ?_
      rintro e wd2 ⟨v, rfl, hown, hb2⟩
      obtain ⟨A, c, rfl, hc1, hc2, hfl⟩ := own_slice hown
      have hlog := own_log hown (build_text a0)
      have HLEN := Lib.hid (build_length a0)
      replace hb2 := below_step hb1 hb2
      clear hown hfl
      go_wp2_with fail
      with_reducible refine (change_any A c (build a0) a2 a3 a4 a5 wd2 hlog (by rw [HLEN.out]; omega) p2 q2 p3 q3).mono ?_
      rintro e wd3 ⟨B, d, rfl, hd1, hd2, hfb, hb3⟩
      replace hb3 := below_step hb2 hb3
      have hbl := changeP_length (build a0) a2 a3 a4 a5
      have hb40 : (build a0).length ≤ 40 := by rw [HLEN.out]; omega
      have hbt := changeP_text (build a0) a2 a3 a4 a5 maxLen (fun e he => hlog.2 e he) w5
      generalize changeP (build a0) a2 a3 a4 a5 = b at *
      have hbn : b.length ≤ 40 := by omega
      clear HLEN hb40
      have hlb : Log wd3 wd3.heap.size B b := ⟨hfb, hbt⟩
      obtain ⟨K, hK⟩ : ∃ K : Nat, a1 % ((b.length : Int) + 1) = (K : Int) := ⟨_, (Int.toNat_of_nonneg (Int.emod_nonneg a1 (by omega))).symm⟩
      have hKb : K ≤ b.length := by have := Int.emod_lt_of_pos a1 (show (0 : Int) < (b.length : Int) + 1 by omega); omega
      clear hbl hlog hc1 hc2 hfb hlines hb2 hb1 hbt
      have k2 : (b.length : Int) ≤ (d : Int) := by omega
      have k3 : (K : Int) ≤ (d : Int) := by omega
      unfold maxLen at hd2
      have k1 : (K : Int) ≤ (b.length : Int) := by omega
      go_wp2_with fail
      with_reducible refine (verify_any B d b wd3 hlb (by unfold maxLen; omega)).mono ?_
      rintro e wd4 ⟨rfl, hb4⟩
      replace hlb := hlb.step hb4
      replace hb4 := below_step hb3 hb4
      clear hb3
      go_wp2_with fail
      with_reducible refine (verify_any' B d K (b.take K) wd4 (by rw [List.length_take]; omega) (hlb.take K) (by omega)).mono ?_
      rintro e wd5 ⟨rfl, hb5⟩
      replace hlb := hlb.step hb5
      replace hb5 := below_step hb4 hb5
      clear hb4
      go_wp2_with fail
      have hlt := (hlb.take K).drew
      have hld := (hlb.drop K d hd1).drew
      obtain ⟨B2, hB2⟩ : ∃ B2, (if d = K then B else B.map (·.add (K * 4))) = B2 := ⟨_, rfl⟩
      rw [hB2] at hld
      have hlt1 : (b.take K).length = K := by rw [List.length_take]; omega
      have hld1 : (b.drop K).length = b.length - K := by rw [List.length_drop]
      have HT := Lib.hid hlt1
      have HD := Lib.hid hld1
      have hpar := parts b K hKb
      have hpl := parts_last b K
      have hll := hlb.drew
      clear hlt1 hld1 hlb
      generalize hb0 : (verify 0 0 b).2 = v0 at *
      generalize hb1 : (verify 0 0 (b.take K)).2 = v1 at *
      generalize hb2 : extend (last (b.take K)) K (b.drop K) = ex at *
      obtain ⟨x1, x2⟩ := ex
      go_region_held3 (fun w' => Below w.heap.size w w') (first | assumption | (exact hb5.drew) | (exact below_step hb5.drew hb6)) (first | (go_at_call 32; (with_reducible refine (last_any' B d K (b.take K) _ HT.out hlt (by omega)).mono ?_); rintro e w' ⟨rfl, rfl⟩) | (go_at_call 31; (with_reducible refine (extends_any' _ K _ _ _ (b.drop K) _ HD.out hld (by omega) (by omega)).mono ?_); rintro e w' ⟨rfl, hb6⟩))
      have hll6 := hll.step (w := wd5.drew) hb6
      have hb7 := below_step hb5.drew hb6
      clear hB2 hb6 hll hld hlt hb5
      cases v1 <;> cases x2
      · have hp : v0 = false := hpar
        clear hpar
        subst hp
        clear hpl
        go_wp2_with fail
        go_ret
        exact ⟨rfl, hb7⟩
      · have hp : v0 = false := hpar
        clear hpar
        subst hp
        clear hpl
        go_wp2_with fail
        go_ret
        exact ⟨rfl, hb7⟩
      · have hp : v0 = false := hpar
        clear hpar
        subst hp
        clear hpl
        go_wp2_with fail
        go_ret
        exact ⟨rfl, hb7⟩
      · have hp : v0 = true := hpar
        clear hpar
        subst hp
        have hx : x1 = last b := hpl rfl
        subst hx
        clear hpl
        go_wp2_with fail
        (with_reducible refine (last_any B d b _ hll6 (by unfold maxLen; omega)).mono ?_)
        rintro e w' ⟨rfl, rfl⟩
        go_wp2_with fail
        go_ret
        exact ⟨rfl, hb7⟩

end AuditPartsW
end Go.Proofs.Ytbomaagbjeiliaa
