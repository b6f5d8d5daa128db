/-
  HashPlaces: its walk: for every four numbers and every name of an actor the law returns true, and nothing that was there is written. Conditions: none.
-/
import Derived.Test.YtbomaagbjeiliaaHashWc
namespace Go.Proofs.Ytbomaagbjeiliaa.HashPlacesW
set_option linter.unusedVariables false
open Hash HashW
open Go.ChangeShapes Go.WideShapes Go.RowKit

set_option maxHeartbeats 1000000 in
theorem walk (w : World) (a0 : Int) (w0 : (Lit.int .i64 a0).wf = true) (a1 : Int) (w1 : (Lit.int .i64 a1).wf = true) (a2 : Int) (w2 : (Lit.int .i64 a2).wf = true) (a3 : Int) (w3 : (Lit.int .i64 a3).wf = true) (a4 b4 : ByteArray) (w4 : a4.size ≤ maxLen) (x4 : b4.size ≤ maxLen) :
    Calls Try.prog 7 #[.int .i64 a0, .int .i64 a1, .int .i64 a2, .int .i64 a3, .agg #[.string a4, .string b4]] w fun e w' => e = .returned (.bool true) ∧ Below w.heap.size w w' := by
  have hk : ∀ wd : World, Below (w.alloc (.cells #[.string a4, .string b4] 33)).heap.size (w.alloc (.cells #[.string a4, .string b4] 33)) wd →
      wd.cell? ⟨w.heap.size, 0, none⟩ = some (.string a4) ∧ wd.cell? ⟨w.heap.size, 1, none⟩ = some (.string b4) ∧ Below w.heap.size w wd :=
    fun wd hb => ⟨keep_cell hb (by simp [go_sem]), keep_cell hb (by simp [go_sem]), below_step (w := w) (by repeat' (first | (with_reducible exact Below.refl _ _) | (with_reducible assumption) | (with_reducible refine Below.alloc ?_ ?_ _) | (with_reducible refine Below.drew ?_) | (with_reducible refine below_drewN ?_ _) | (with_reducible refine Below.setCell ?_ ?_ _) | go_size)) hb⟩
  by_cases hl : 500 < a4.size
  · go_enter Try.func7, Try.ntmps7
    go_wp2_with fail
    refine (awake_any _).mono ?_
    rintro e wd1 ⟨rfl, hb1⟩
    obtain ⟨c0, c1, hb⟩ := hk _ hb1
    clear hk
    go_wp2_with fail
    go_ret
    exact ⟨rfl, hb⟩
  · by_cases hl2 : 500 < b4.size
    · go_enter Try.func7, Try.ntmps7
      go_wp2_with fail
      refine (awake_any _).mono ?_
      rintro e wd1 ⟨rfl, hb1⟩
      obtain ⟨c0, c1, hb⟩ := hk _ hb1
      clear hk
      go_wp2_with fail
      go_ret
      exact ⟨rfl, hb⟩
    · go_enter Try.func7, Try.ntmps7
      go_wp2_with fail
      refine (awake_any _).mono ?_
      rintro e wd1 ⟨rfl, hb1⟩
      obtain ⟨c0, c1, hb⟩ := hk _ hb1
      clear hk hb1
      go_wp2_with fail
      go_region_held3 (fun w' => w'.cell? ⟨w.heap.size, 0, none⟩ = some (.string a4) ∧ w'.cell? ⟨w.heap.size, 1, none⟩ = some (.string b4) ∧ Below w.heap.size w w')
        (first | assumption | (refine ⟨by simp [*], by simp [*], by repeat' (first | (with_reducible exact Below.refl _ _) | (with_reducible assumption) | (with_reducible refine Below.alloc ?_ ?_ _) | (with_reducible refine Below.drew ?_) | (with_reducible refine below_drewN ?_ _) | (with_reducible refine Below.setCell ?_ ?_ _) | go_size)⟩; done) | (refine ⟨keep_cell hb2 ?_, keep_cell hb2 ?_, below_step ?_ hb2⟩ <;> (simp [*]; done)))
        (first | (go_at_call 20; refine (position_any _ _ _).mono ?_; rintro e w' ⟨rfl, hb2⟩) | (go_at_call 22; refine (position_ref _ _ _).mono ?_; rintro e w' ⟨rfl, rfl⟩) | (go_at_call 21; refine (token_any _ _ _).mono ?_; rintro e w' ⟨rfl, hb2⟩) | (go_at_call 23; refine (token_ref _ _ _).mono ?_; rintro e w' ⟨rfl, rfl⟩) | (go_at_call 24; refine (actor_any _ _ w4 x4 _).mono ?_; rintro e w' ⟨rfl, hb2⟩) | (go_at_call 25; refine (actor_ref _ _ w4 x4 _).mono ?_; rintro e w' ⟨rfl, hb2⟩))
      all_goals (go_wp2_with fail; go_ret; refine ⟨rfl, ?_⟩; simp [*])
end Go.Proofs.Ytbomaagbjeiliaa.HashPlacesW
