/-
  AuditDetects: its walk: for every list of lines and every change of the log that they make, the law returns true, and nothing that was there is written. Conditions: none.
-/
import Derived.Test.YtbomaagbjeiliaaAuditDet0
import Derived.Test.YtbomaagbjeiliaaAuditDet1
import Derived.Test.YtbomaagbjeiliaaAuditDet2
import Derived.Test.YtbomaagbjeiliaaAuditDet3
import Derived.Test.YtbomaagbjeiliaaAuditDet4
import Derived.Test.YtbomaagbjeiliaaAuditDet5
namespace Go.Proofs.Ytbomaagbjeiliaa
set_option linter.unusedVariables false
open Go.ChangeShapes Go.WideShapes Go.RowKit
open Hash HashW Audit
open Kit hiding keep_cell below_step below_drewN
namespace AuditDetectsW
open AuditPartsW (u8_wf)
open AuditForksW (lines_step)

set_option maxHeartbeats 2000000 in
theorem walk (w : World) (A0 : Option Addr) (n0 c0 : Nat) (a0 : List Audit.Line) (w0 : Kit.rSlice 2 Audit.rLine w w.heap.size a0 [.slice A0 n0 c0]) (a1 : Int) (w1 : (Lit.int .u8 a1).wf = true) (a2 : Int) (w2 : (Lit.int .u8 a2).wf = true) (a3 : Int) (w3 : (Lit.int .i64 a3).wf = true) (a4 : ByteArray) (w4 : a4.size ≤ maxLen) :
    Calls Try.prog 9 #[.slice A0 n0 c0, .int .u8 a1, .int .u8 a2, .int .i64 a3, .string a4] w fun e w' => e = .returned (.bool true) ∧ Below w.heap.size w w' := by
  obtain ⟨rfl, hlines⟩ := lines_of w0
  have hkinds := kinds_of w0
  obtain ⟨p1, q1⟩ := u8_wf w1
  obtain ⟨p2, q2⟩ := u8_wf w2
  by_cases h40 : 40 < a0.length
  · clear hkinds
    go_enter Try.func9, Try.ntmps9
    go_wp2_with fail
    refine (Audit.awake_any _).mono ?_
    rintro e wd1 ⟨rfl, hb1⟩
    go_wp2_with fail
    go_ret
    exact ⟨rfl, hb1⟩
  · by_cases h300 : 300 < a4.size
    · clear hkinds
      go_enter Try.func9, Try.ntmps9
      go_wp2_with fail
      refine (Audit.awake_any _).mono ?_
      rintro e wd1 ⟨rfl, hb1⟩
      go_wp2_with fail
      go_ret
      exact ⟨rfl, hb1⟩
    · by_cases h0 : a0.length = 0
      · obtain rfl : a0 = [] := List.eq_nil_of_length_eq_zero h0
        clear hkinds
        go_enter Try.func9, Try.ntmps9
        go_wp2_with fail
        refine (Audit.awake_any _).mono ?_
        rintro e wd1 ⟨rfl, hb1⟩
        have hl1 := lines_step hlines hb1
        go_wp2_with fail
        refine (log_any A0 c0 [] wd1 hl1 (by simp)).mono ?_
        rintro e wd2 ⟨v, rfl, hown, hb2⟩
        obtain ⟨A, c, rfl, hc1, hc2, hfl⟩ := own_slice hown
        replace hb2 := below_step hb1 hb2
        have hz : (build []).length = 0 := rfl
        go_wp2_with fail
        go_ret
        exact ⟨rfl, hb2⟩
      · by_cases m0 : a2 % 6 = 0
        · exact walk_0 w A0 c0 a0 hlines hkinds a1 p1 q1 a2 p2 q2 a3 w3 a4 w4 h40 h300 h0 m0
        by_cases m1 : a2 % 6 = 1
        · exact walk_1 w A0 c0 a0 hlines hkinds a1 p1 q1 a2 p2 q2 a3 w3 a4 w4 h40 h300 h0 m1
        by_cases m2 : a2 % 6 = 2
        · exact walk_2 w A0 c0 a0 hlines hkinds a1 p1 q1 a2 p2 q2 a3 w3 a4 w4 h40 h300 h0 m2
        by_cases m3 : a2 % 6 = 3
        · exact walk_3 w A0 c0 a0 hlines hkinds a1 p1 q1 a2 p2 q2 a3 w3 a4 w4 h40 h300 h0 m3
        by_cases m4 : a2 % 6 = 4
        · exact walk_4 w A0 c0 a0 hlines hkinds a1 p1 q1 a2 p2 q2 a3 w3 a4 w4 h40 h300 h0 m4
        · exact walk_5 w A0 c0 a0 hlines hkinds a1 p1 q1 a2 p2 q2 a3 w3 a4 w4 h40 h300 h0 (by omega)

end AuditDetectsW
end Go.Proofs.Ytbomaagbjeiliaa
