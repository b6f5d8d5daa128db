/-
  AuditDetects: its walk, the case 2. Conditions: none.
-/
import Derived.Test.YtbomaagbjeiliaaAuditLaw
import Derived.Test.YtbomaagbjeiliaaAuditChainsW
namespace Go.Proofs.Ytbomaagbjeiliaa
set_option linter.unusedVariables false
open Go.ChangeShapes Go.WideShapes Go.RowKit
open Hash HashW Audit
open Kit hiding keep_cell below_step below_drewN
attribute [local go_sem ↓] Go.wp_at_zero Go.wp_at_succ
namespace AuditDetectsW
open AuditPartsW (u8_wf)
open AuditForksW (lines_step)

set_option maxHeartbeats 4000000 in
theorem walk_2 (w : World) (A0 : Option Addr) (c0 : Nat) (a0 : List Audit.Line) (hlines : Lines w w.heap.size A0 a0) (hkinds : ∀ x ∈ a0, (Lit.int .i64 x.kind).wf = true) (a1 : Int) (p1 : 0 ≤ a1) (q1 : a1 < 256) (a2 : Int) (p2 : 0 ≤ a2) (q2 : a2 < 256) (a3 : Int) (w3 : (Lit.int .i64 a3).wf = true) (a4 : ByteArray) (w4 : a4.size ≤ maxLen) (h40 : ¬ 40 < a0.length) (h300 : ¬ 300 < a4.size) (h0 : ¬ a0.length = 0) (hm : a2 % 6 = 2) :
    Calls Try.prog 9 #[.slice A0 a0.length c0, .int .u8 a1, .int .u8 a2, .int .i64 a3, .string a4] w fun e w' => e = .returned (.bool true) ∧ Below w.heap.size w w' := by
  go_enter Try.func9, Try.ntmps9
  go_wp2_with fail
  refine (Audit.awake_any _).mono ?_
  rintro e wd1 ⟨rfl, hb1⟩
  have hl1 := lines_step hlines hb1
  go_wp2_with fail
  (with_reducible refine (log_any A0 c0 a0 wd1 hl1 (by omega)).mono ?_)
  rintro e wd2 ⟨v, rfl, hown, hb2⟩
  obtain ⟨A, c, rfl, hc1, hc2, hfl⟩ := own_slice hown
  have hlog := own_log hown (build_text a0)
  have HLEN := Lib.hid (build_length a0)
  have hn : (build a0).length ≤ 40 := by rw [HLEN.out]; omega
  have hneq : (((build a0).length : Int) != (a0.length : Int)) = false := by rw [HLEN.out]; simp
  have hpos : 0 < (build a0).length := by rw [HLEN.out]; omega
  have HV := Lib.hid (build_verify a0)
  have HKD := Lib.hid (build_kind a0 hkinds)
  have HTX := Lib.hid (build_text a0)
  replace hb2 := below_step hb1 hb2
  clear hown hfl hb1 hl1 HLEN hkinds hlines
  generalize build a0 = l at *
  have hmod := Int.emod_nonneg a1 (show (l.length : Int) ≠ 0 by omega)
  have hmod' := Int.emod_lt_of_pos a1 (show 0 < (l.length : Int) by omega)
  obtain ⟨K, hK⟩ : ∃ K : Nat, a1 % (l.length : Int) = (K : Int) := ⟨_, (Int.toNat_of_nonneg hmod).symm⟩
  have hp : Hid (place l a1 = K) := Lib.hid (by unfold place; rw [hK]; simp)
  have hKl : K < l.length := by omega
  obtain ⟨e, he⟩ : ∃ e, l[K]? = some e := ⟨_, List.getElem?_eq_getElem hKl⟩
  have HE := Lib.hid he
  have hk1 : (K : Int) < (l.length : Int) := by omega
  have hL0 : ((l.length : Int) == 0) = false := by rw [beq_eq_false_iff_ne]; omega
  clear he hmod hmod'
  go_wp2_with fail
  (with_reducible refine (change_2 A c l a1 a2 a3 a4 wd2 hlog (by omega) hpos p1 q1 p2 q2 hm).mono ?_)
  rintro en wd3 ⟨B, d, rfl, hd1, hd2, hfb, hb3⟩
  have hlA := hlog.step hb3
  replace hb3 := below_step hb2 hb3
  obtain ⟨ex, ek, et, eh⟩ := e
  have hset : setAt l (place l a1) (fun e => { e with text := a4 }) = l.set K ⟨ex, ek, a4, eh⟩ := by rw [hp.out, setAt_eq HE.out]
  rw [hset] at hd1 hfb
  have hset2 := Lib.hid hset
  clear hset
  rw [hset2.out]
  have hlaw := Lib.hid (fun h => law_text (e := ⟨ex, ek, et, eh⟩) a4 HV.out HE.out h)
  have htx : ∀ x ∈ l.set K ⟨ex, ek, a4, eh⟩, x.text.size ≤ maxLen := fun x hx => by
    rcases List.mem_or_eq_of_mem_set hx with h | h
    · exact hlA.2 x h
    · rw [h]; exact w4
  have hlB : Log wd3 wd3.heap.size B (l.set K ⟨ex, ek, a4, eh⟩) := ⟨hfb, htx⟩
  have hlen : (l.set K ⟨ex, ek, a4, eh⟩).length ≤ 40 := by rw [List.length_set]; exact hn
  have hlen2 : K < (l.set K ⟨ex, ek, a4, eh⟩).length := by rw [List.length_set]; exact hKl
  have hk2 : (K : Int) < ((l.set K ⟨ex, ek, a4, eh⟩).length : Int) := by omega
  obtain ⟨b1, off1, x1, kd1, t1, h1, rfl, hbb1, he1, ht1, c0', c1, c2, c3⟩ := hlA.at_ hKl
  obtain ⟨b2, off2, x2, kd2, t2, h2, rfl, hbb2, he2, ht2, d0, d1', d2', d3⟩ := hlB.at_ hlen2
  have ht1' : et = t1 := by have := HE.out; rw [he1] at this; injection this with this; injection this with _ _ h _; exact h.symm
  have ht2' : a4 = t2 := by rw [List.getElem?_set_self hKl] at he2; injection he2 with he2; injection he2
  subst ht1' ht2'
  generalize l.set K ⟨ex, ek, a4, eh⟩ = b at *
  clear hfb hb2 hlog hset2 htx he1 he2 c0' c1 c3 d0 d1' d3 hbb1 hbb2
  have hb3' : Below wd3.heap.size wd3 wd3.drew := (Below.refl _ _).drew
  have hlB' := hlB
  by_cases hw1 : textI et.data.toList = textI a4.data.toList
  · have hw1' : (textI et.data.toList != textI a4.data.toList) = false := by rw [bne_eq_false_iff_eq]; exact hw1
    by_cases hw2 : 200 < a4.size
    · have hv := hlaw.out (.inr hw2)
      have hw2' : (200 : Int) < (a4.size : Int) := by omega
      clear hw1
      go_wp2_with fail
      go_region_held3 (fun w' => w'.cell? ⟨b1, off1 + K * 4 + 2, none⟩ = some (.string et) ∧ w'.cell? ⟨b2, off2 + K * 4 + 2, none⟩ = some (.string a4) ∧ Below wd3.heap.size wd3 w') (first | assumption | (refine ⟨by simp [*], by simp [*], hb3'⟩; done) | (exact ⟨keep_cell hb (by simp [*]), keep_cell hb (by simp [*]), below_step (by simp [*]) hb⟩)) (first | (go_at_call 18; (with_reducible refine (text_any _ (by assumption) _).mono ?_); rintro en w' ⟨rfl, hb⟩))
      have hfin : Below wd3.heap.size wd3 w' := by simp [*]
      have hlB4 := hlB.step hfin
      have hb4 := below_step hb3 hfin
      clear hb hlA hlB hlB' hfin
      go_wp2_with fail
      (with_reducible refine (verify_any _ d b _ hlB4 (by unfold maxLen; omega)).mono ?_)
      rintro en wd5 ⟨rfl, hb5⟩
      replace hb5 := below_step hb4 hb5
      go_wp2_with fail
      go_ret
      exact ⟨rfl, hb5⟩
    · have hw2' : decide ((200 : Int) < (a4.size : Int)) = false := by simp; omega
      clear hw1 hlaw
      go_wp2_with fail
      go_region_held3 (fun w' => w'.cell? ⟨b1, off1 + K * 4 + 2, none⟩ = some (.string et) ∧ w'.cell? ⟨b2, off2 + K * 4 + 2, none⟩ = some (.string a4) ∧ Below wd3.heap.size wd3 w') (first | assumption | (refine ⟨by simp [*], by simp [*], hb3'⟩; done) | (exact ⟨keep_cell hb (by simp [*]), keep_cell hb (by simp [*]), below_step (by simp [*]) hb⟩)) (first | (go_at_call 18; (with_reducible refine (text_any _ (by assumption) _).mono ?_); rintro en w' ⟨rfl, hb⟩))
      have hfin : Below wd3.heap.size wd3 w' := by simp [*]
      have hlB4 := hlB.step hfin
      have hb4 := below_step hb3 hfin
      clear hb hlA hlB hlB' hfin
      go_wp2_with fail
      (with_reducible refine (verify_any _ d b _ hlB4 (by unfold maxLen; omega)).mono ?_)
      rintro en wd5 ⟨rfl, hb5⟩
      replace hb5 := below_step hb4 hb5
      cases hvv : (verify 0 0 b).2
      · go_wp2_with fail
        go_ret
        exact ⟨rfl, hb5⟩
      · go_wp2_with fail
        go_ret
        exact ⟨rfl, hb5⟩
  · have hw1' : (textI et.data.toList != textI a4.data.toList) = true := by rw [bne_iff_ne]; exact hw1
    have hw1e : (textI et.data.toList == textI a4.data.toList) = false := by rw [beq_eq_false_iff_ne]; exact hw1
    have hv := hlaw.out (.inl hw1)
    clear hlaw
    have hB3 : Below wd3.heap.size wd3 wd3.drew := (Below.refl _ _).drew
    go_wp2_with fail
    (first | (go_region_with ((go_at_call 18; (with_reducible refine (text_any _ (by assumption) _).mono ?_); rintro en w' ⟨rfl, hb⟩; have c2 := keep_cell hb c2; have d2' := keep_cell hb d2'; have hB3 := below_step hB3 hb; clear hb))) | fail)
    all_goals
      have hfin := hB3
      have hb := True.intro
      have hlB4 := hlB.step hfin
      have hb4 := below_step hb3 hfin
      clear hb hlA hlB hlB' hfin
      go_wp2_with fail
      (with_reducible refine (verify_any _ d b _ hlB4 (by unfold maxLen; omega)).mono ?_)
      rintro en wd5 ⟨rfl, hb5⟩
      replace hb5 := below_step hb4 hb5
      go_wp2_with fail
      go_ret
      exact ⟨rfl, hb5⟩

end AuditDetectsW
end Go.Proofs.Ytbomaagbjeiliaa
