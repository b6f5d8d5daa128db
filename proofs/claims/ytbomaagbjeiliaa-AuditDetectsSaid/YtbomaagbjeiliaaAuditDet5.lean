/-
  AuditDetects: its walk, the case 5. Conditions: none.
-/
import Derived.Test.YtbomaagbjeiliaaAuditLaw
import Derived.Test.YtbomaagbjeiliaaAuditChainsW
namespace Go.Proofs.Ytbomaagbjeiliaa
set_option linter.unusedVariables false
open Go.ChangeShapes Go.WideShapes Go.RowKit
open Hash HashW Audit
open Kit hiding keep_cell below_step below_drewN
attribute [local go_sem ↓] Go.wp_at_zero Go.wp_at_succ
namespace AuditDetectsW
open AuditPartsW (u8_wf)
open AuditForksW (lines_step)

set_option maxHeartbeats 4000000 in
theorem walk_5 (w : World) (A0 : Option Addr) (c0 : Nat) (a0 : List Audit.Line) (hlines : Lines w w.heap.size A0 a0) (hkinds : ∀ x ∈ a0, (Lit.int .i64 x.kind).wf = true) (a1 : Int) (p1 : 0 ≤ a1) (q1 : a1 < 256) (a2 : Int) (p2 : 0 ≤ a2) (q2 : a2 < 256) (a3 : Int) (w3 : (Lit.int .i64 a3).wf = true) (a4 : ByteArray) (w4 : a4.size ≤ maxLen) (h40 : ¬ 40 < a0.length) (h300 : ¬ 300 < a4.size) (h0 : ¬ a0.length = 0) (hm : a2 % 6 = 5) :
    Calls Try.prog 9 #[.slice A0 a0.length c0, .int .u8 a1, .int .u8 a2, .int .i64 a3, .string a4] w fun e w' => e = .returned (.bool true) ∧ Below w.heap.size w w' := by
  go_enter Try.func9, Try.ntmps9
  go_wp2_with fail
  refine (Audit.awake_any _).mono ?_
  rintro e wd1 ⟨rfl, hb1⟩
  have hl1 := lines_step hlines hb1
  go_wp2_with fail
  (with_reducible refine (log_any A0 c0 a0 wd1 hl1 (by omega)).mono ?_)
  rintro e wd2 ⟨v, rfl, hown, hb2⟩
  obtain ⟨A, c, rfl, hc1, hc2, hfl⟩ := own_slice hown
  have hlog := own_log hown (build_text a0)
  have HLEN := Lib.hid (build_length a0)
  have hn : (build a0).length ≤ 40 := by rw [HLEN.out]; omega
  have hneq : (((build a0).length : Int) != (a0.length : Int)) = false := by rw [HLEN.out]; simp
  have hpos : 0 < (build a0).length := by rw [HLEN.out]; omega
  have HV := Lib.hid (build_verify a0)
  have HKD := Lib.hid (build_kind a0 hkinds)
  have HTX := Lib.hid (build_text a0)
  replace hb2 := below_step hb1 hb2
  clear hown hfl hb1 hl1 HLEN hkinds hlines
  generalize build a0 = l at *
  have hmod := Int.emod_nonneg a1 (show (l.length : Int) ≠ 0 by omega)
  have hmod' := Int.emod_lt_of_pos a1 (show 0 < (l.length : Int) by omega)
  obtain ⟨K, hK⟩ : ∃ K : Nat, a1 % (l.length : Int) = (K : Int) := ⟨_, (Int.toNat_of_nonneg hmod).symm⟩
  have hp : Hid (place l a1 = K) := Lib.hid (by unfold place; rw [hK]; simp)
  have hKl : K < l.length := by omega
  obtain ⟨e, he⟩ : ∃ e, l[K]? = some e := ⟨_, List.getElem?_eq_getElem hKl⟩
  have HE := Lib.hid he
  have hk1 : (K : Int) < (l.length : Int) := by omega
  have hL0 : ((l.length : Int) == 0) = false := by rw [beq_eq_false_iff_ne]; omega
  clear he hmod hmod'
  go_wp2_with fail
  (with_reducible refine (change_5 A c l a1 a2 a3 a4 wd2 hlog (by omega) hpos p1 q1 p2 q2 hm).mono ?_)
  rintro en wd3 ⟨B, d, rfl, hd1, hd2, hfb, hb3⟩
  have hlA := hlog.step hb3
  replace hb3 := below_step hb2 hb3
  have hu := Int.emod_nonneg (IntKind.u64.wrap a3) (show (l.length : Int) ≠ 0 by omega)
  have hu' := Int.emod_lt_of_pos (IntKind.u64.wrap a3) (show 0 < (l.length : Int) by omega)
  obtain ⟨J, hJ⟩ : ∃ J : Nat, IntKind.u64.wrap a3 % (l.length : Int) = (J : Int) := ⟨_, (Int.toNat_of_nonneg hu).symm⟩
  have hq : Hid (other l a3 = J) := Lib.hid (by unfold other; rw [hJ]; simp)
  have hJl : J < l.length := by omega
  have hw0 := (Hash.U64.wrap a3).1
  have htx : ∀ x ∈ swapAt l (place l a1) (other l a3), x.text.size ≤ maxLen := fun x hx => by
    unfold swapAt at hx
    split at hx
    · rename_i y z hy hz
      rcases List.mem_or_eq_of_mem_set hx with h | h
      · rcases List.mem_or_eq_of_mem_set h with h | h
        · exact hlA.2 x h
        · rw [h]; exact hlA.2 z (List.mem_of_getElem? hz)
      · rw [h]; exact hlA.2 y (List.mem_of_getElem? hy)
    · exact hlA.2 x hx
  have hlB : Log wd3 wd3.heap.size B (swapAt l (place l a1) (other l a3)) := ⟨hfb, htx⟩
  have hlen : (swapAt l (place l a1) (other l a3)).length ≤ 40 := by rw [swapAt_length]; exact hn
  have hls := Lib.hid (fun h => law_swap (K := K) (J := J) HV.out hKl hJl h)
  have hl0 := Lib.hid (law_swap_same hKl)
  rw [hp.out, hq.out] at *
  clear hfb hb2 hlog htx hu hu'
  by_cases hKJ : K = J
  · subst hKJ
    rw [hl0.out] at *
    have hf : ((fork l l : Nat) : Int) = (l.length : Int) := by rw [fork_self]
    have hv := HV.out
    go_wp2_with fail
    (with_reducible refine (fork_any A B c d l l _ hlA hlB (by omega) (by omega)).mono ?_)
    rintro en wd4 ⟨rfl, hb4⟩
    have hlB4 := hlB.step hb4
    replace hb4 := below_step hb3 hb4
    clear hlA hlB hb3
    go_wp2_with fail
    (with_reducible refine (verify_any B d l _ hlB4 (by unfold maxLen; omega)).mono ?_)
    rintro en wd5 ⟨rfl, hb5⟩
    replace hb5 := below_step hb4 hb5
    go_wp2_with fail
    go_ret
    exact ⟨rfl, hb5⟩
  · have hpa := hls.out hKJ
    generalize swapAt l K J = b at *
    rcases Nat.lt_or_gt_of_ne hKJ with hlt | hlt
    · obtain ⟨hm1, hm2⟩ : min K J = K ∧ ¬ ((J : Int) < (K : Int)) := ⟨by omega, by omega⟩
      have hlt' : (K : Int) < (J : Int) := by omega
      rw [hm1] at hpa
      have hf : ((fork l b : Nat) : Int) = (K : Int) := by rw [hpa.fork]
      have hne : ((K : Int) == (l.length : Int)) = false := by rw [beq_eq_false_iff_ne]; omega
      have hv := hpa.ver
      clear hpa hm1
      go_wp2_with fail
      (with_reducible refine (fork_any A B c d l b _ hlA hlB (by omega) (by omega)).mono ?_)
      rintro en wd4 ⟨rfl, hb4⟩
      have hlB4 := hlB.step hb4
      replace hb4 := below_step hb3 hb4
      clear hlA hlB hb3
      go_wp2_with fail
      (with_reducible refine (verify_any B d b _ hlB4 (by unfold maxLen; omega)).mono ?_)
      rintro en wd5 ⟨rfl, hb5⟩
      replace hb5 := below_step hb4 hb5
      go_wp2_with fail
      go_ret
      exact ⟨rfl, hb5⟩
    · obtain ⟨hm1, hm2⟩ : min K J = J ∧ ¬ ((K : Int) < (J : Int)) := ⟨by omega, by omega⟩
      have hlt' : (J : Int) < (K : Int) := by omega
      rw [hm1] at hpa
      have hf : ((fork l b : Nat) : Int) = (J : Int) := by rw [hpa.fork]
      have hne : ((J : Int) == (l.length : Int)) = false := by rw [beq_eq_false_iff_ne]; omega
      have hv := hpa.ver
      clear hpa hm1
      go_wp2_with fail
      (with_reducible refine (fork_any A B c d l b _ hlA hlB (by omega) (by omega)).mono ?_)
      rintro en wd4 ⟨rfl, hb4⟩
      have hlB4 := hlB.step hb4
      replace hb4 := below_step hb3 hb4
      clear hlA hlB hb3
      go_wp2_with fail
      (with_reducible refine (verify_any B d b _ hlB4 (by unfold maxLen; omega)).mono ?_)
      rintro en wd5 ⟨rfl, hb5⟩
      replace hb5 := below_step hb4 hb5
      go_wp2_with fail
      go_ret
      exact ⟨rfl, hb5⟩

end AuditDetectsW
end Go.Proofs.Ytbomaagbjeiliaa
