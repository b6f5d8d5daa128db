/-
  AuditDetects: its walk, the case 4. Conditions: none.
-/
import Derived.Test.YtbomaagbjeiliaaAuditLaw
import Derived.Test.YtbomaagbjeiliaaAuditChainsW
namespace Go.Proofs.Ytbomaagbjeiliaa
set_option linter.unusedVariables false
open Go.ChangeShapes Go.WideShapes Go.RowKit
open Hash HashW Audit
open Kit hiding keep_cell below_step below_drewN
attribute [local go_sem ↓] Go.wp_at_zero Go.wp_at_succ
namespace AuditDetectsW
open AuditPartsW (u8_wf)
open AuditForksW (lines_step)

set_option maxHeartbeats 4000000 in
theorem walk_4 (w : World) (A0 : Option Addr) (c0 : Nat) (a0 : List Audit.Line) (hlines : Lines w w.heap.size A0 a0) (hkinds : ∀ x ∈ a0, (Lit.int .i64 x.kind).wf = true) (a1 : Int) (p1 : 0 ≤ a1) (q1 : a1 < 256) (a2 : Int) (p2 : 0 ≤ a2) (q2 : a2 < 256) (a3 : Int) (w3 : (Lit.int .i64 a3).wf = true) (a4 : ByteArray) (w4 : a4.size ≤ maxLen) (h40 : ¬ 40 < a0.length) (h300 : ¬ 300 < a4.size) (h0 : ¬ a0.length = 0) (hm : a2 % 6 = 4) :
    Calls Try.prog 9 #[.slice A0 a0.length c0, .int .u8 a1, .int .u8 a2, .int .i64 a3, .string a4] w fun e w' => e = .returned (.bool true) ∧ Below w.heap.size w w' := by
  go_enter Try.func9, Try.ntmps9
  go_wp2_with fail
  refine (Audit.awake_any _).mono ?_
  rintro e wd1 ⟨rfl, hb1⟩
  have hl1 := lines_step hlines hb1
  go_wp2_with fail
  (with_reducible refine (log_any A0 c0 a0 wd1 hl1 (by omega)).mono ?_)
  rintro e wd2 ⟨v, rfl, hown, hb2⟩
  obtain ⟨A, c, rfl, hc1, hc2, hfl⟩ := own_slice hown
  have hlog := own_log hown (build_text a0)
  have HLEN := Lib.hid (build_length a0)
  have hn : (build a0).length ≤ 40 := by rw [HLEN.out]; omega
  have hneq : (((build a0).length : Int) != (a0.length : Int)) = false := by rw [HLEN.out]; simp
  have hpos : 0 < (build a0).length := by rw [HLEN.out]; omega
  have HV := Lib.hid (build_verify a0)
  have HKD := Lib.hid (build_kind a0 hkinds)
  have HTX := Lib.hid (build_text a0)
  replace hb2 := below_step hb1 hb2
  clear hown hfl hb1 hl1 HLEN hkinds hlines
  generalize build a0 = l at *
  have hmod := Int.emod_nonneg a1 (show (l.length : Int) ≠ 0 by omega)
  have hmod' := Int.emod_lt_of_pos a1 (show 0 < (l.length : Int) by omega)
  obtain ⟨K, hK⟩ : ∃ K : Nat, a1 % (l.length : Int) = (K : Int) := ⟨_, (Int.toNat_of_nonneg hmod).symm⟩
  have hp : Hid (place l a1 = K) := Lib.hid (by unfold place; rw [hK]; simp)
  have hKl : K < l.length := by omega
  obtain ⟨e, he⟩ : ∃ e, l[K]? = some e := ⟨_, List.getElem?_eq_getElem hKl⟩
  have HE := Lib.hid he
  have hk1 : (K : Int) < (l.length : Int) := by omega
  have hL0 : ((l.length : Int) == 0) = false := by rw [beq_eq_false_iff_ne]; omega
  clear he hmod hmod'
  go_wp2_with fail
  (with_reducible refine (change_4 A c l a1 a2 a3 a4 wd2 hlog (by omega) hpos p1 q1 p2 q2 hm).mono ?_)
  rintro en wd3 ⟨B, d, rfl, hd1, hd2, hfb, hb3⟩
  have hlA := hlog.step hb3
  replace hb3 := below_step hb2 hb3
  have hlaw := Lib.hid (fun h => law_erase (K := K) HV.out h)
  have hlaw2 := Lib.hid (fun h => law_erase_last (K := K) HV.out h)
  have htx : ∀ x ∈ l.eraseIdx (place l a1), x.text.size ≤ maxLen := fun x hx => hlA.2 x (List.mem_of_mem_eraseIdx hx)
  have hlB : Log wd3 wd3.heap.size B (l.eraseIdx (place l a1)) := ⟨hfb, htx⟩
  have hlen : (l.eraseIdx (place l a1)).length ≤ 40 := Nat.le_trans (List.length_eraseIdx_le _ _) hn
  rw [hp.out] at *
  generalize l.eraseIdx K = b at *
  clear hfb hb2 hlog htx
  by_cases hw : K + 1 < l.length
  · have hw1 : (K : Int) < (l.length : Int) - 1 := by omega
    have hv := hlaw.out hw
    go_wp2_with fail
    (with_reducible refine (verify_any B d b _ hlB (by unfold maxLen; omega)).mono ?_)
    rintro en wd5 ⟨rfl, hb5⟩
    replace hb5 := below_step hb3 hb5
    go_wp2_with fail
    go_ret
    exact ⟨rfl, hb5⟩
  · have hw1 : decide ((K : Int) < (l.length : Int) - 1) = false := by simp; omega
    have hv := hlaw2.out (by omega)
    go_wp2_with fail
    (with_reducible refine (verify_any B d b _ hlB (by unfold maxLen; omega)).mono ?_)
    rintro en wd5 ⟨rfl, hb5⟩
    replace hb5 := below_step hb3 hb5
    go_wp2_with fail
    go_ret
    exact ⟨rfl, hb5⟩

end AuditDetectsW
end Go.Proofs.Ytbomaagbjeiliaa
