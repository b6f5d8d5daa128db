/-
  ConsB: where a function's model gives a value, the function returns what reads as it (printed by wip/tools/auto.py). Condition of each: the model gives a value.
-/
import Derived.Test.YtjpiiejdaiaocaaDoorConsBM
import Derived.Test.YtjpiiejdaiaocaaDoorTy
import Derived.Test.YtjpiiejdaiaocaaDoorAbsU
import Derived.Test.YtjpiiejdaiaocaaDoorConsA
namespace Go.Proofs.YtjpiiejdaiaocaaDoor
open Go.ChangeShapes Go.WideShapes Go.RowKit
open Abs
set_option linter.unusedVariables false
set_option linter.unusedSimpArgs false
set_option maxRecDepth 10000
namespace Md
def c_Consoleformat (x : Consoleformat) : List CV := [.val (Sv x.word), .val (Sv x.words), cI x.min, cI x.max]
theorem get_Arr8Consoleformat (x : Arr8Consoleformat) (i : Int) (h : 0 ≤ i ∧ i < 8) : ∃ j : Nat, i = (j : Int) ∧ Nat.blt j 8 = true ∧ ((c_Arr8Consoleformat x).drop (j * 4)).take 4 = c_Consoleformat (x.get i) ∧ Nat.ble (j * 4 + 4) (c_Arr8Consoleformat x).length = true := by
  rcases (by omega : i = 0 ∨ i = 1 ∨ i = 2 ∨ i = 3 ∨ i = 4 ∨ i = 5 ∨ i = 6 ∨ i = 7) with rfl | rfl | rfl | rfl | rfl | rfl | rfl | rfl
  · exact ⟨0, rfl, rfl, rfl, rfl⟩
  · exact ⟨1, rfl, rfl, rfl, rfl⟩
  · exact ⟨2, rfl, rfl, rfl, rfl⟩
  · exact ⟨3, rfl, rfl, rfl, rfl⟩
  · exact ⟨4, rfl, rfl, rfl, rfl⟩
  · exact ⟨5, rfl, rfl, rfl, rfl⟩
  · exact ⟨6, rfl, rfl, rfl, rfl⟩
  · exact ⟨7, rfl, rfl, rfl, rfl⟩
theorem sq_ConsoleCommand (x y : ConsoleCommand) (w : World) : (Op.equalIn 10000 25 (.agg ([.int .i64 x.Kind, Sv x.Topic, Sv x.Actor.fType, Sv x.Actor.Key, Sv x.Method, .int .i64 x.Number] : List Value).toArray) (.agg ([.int .i64 y.Kind, Sv y.Topic, Sv y.Actor.fType, Sv y.Actor.Key, Sv y.Method, .int .i64 y.Number] : List Value).toArray)).run Tryd.prog w = .ok (decide (x = y)) w := by
  obtain ⟨x0, x1, ⟨x20, x21⟩, x3, x4⟩ := x
  obtain ⟨y0, y1, ⟨y20, y21⟩, y3, y4⟩ := y
  simp [go_sem]
  (repeat' split) <;> simp_all
set_option maxHeartbeats 2000000 in
theorem console_Valid_fn (k : Nat) (a0 : ConsoleCommand) (r : Bool) (h : console_Valid k a0 = some r) : FnC Tryd.prog 15 [.agg (c_ConsoleCommand a0)] [] (Det (vB r) []) := by
  unfold console_Valid at h
  refine fn_intro' 82 Tryd.func15 rfl rfl rfl (aw_seq (aw_region (aops_step1 rfl (st_box 0 rfl rfl rfl rfl) (s_sa ?_))))
  refine aops_nil (aw_seq (aw_seq (aw_region (s_fd ?_))))
  refine s_ld ?_
  refine s_cm ?_
  refine s_mv ?_
  refine aops_mid 4 (⟨82, [], [(1, .one (.ptr 0 0)), (13, vB ((decide (a0.Kind < 1)) || (decide (a0.Kind > 7))))], [(0, some (.box (c_ConsoleCommand a0)))]⟩ : ASt) ?_ ?_
  · rcases Md.bool_or ((decide (a0.Kind < 1))) with q1 | q1
    · skip
      iterate 3 refine np q1 ?_
      refine s_py q1 ?_
      refine aops_nil ?_
      exact wq q1
    refine y_fd q1 ?_
    refine y_ld q1 ?_
    refine y_cm q1 ?_
    refine s_pn q1 ?_
    refine aops_nil ?_
    exact wq q1
  refine aops_nil ?_
  refine aw_cond rfl (fun c2 => ?_) (fun c2 => ?_)
  · replace h := Md.cond_t h c2
    refine aw_seq (aw_region (s_sa ?_))
    refine aops_nil ?_
    cases Option.some.inj h
    exact aw_ret ⟨rfl, rv r1⟩
  replace h := Md.cond_f h c2
  refine aw_skip ?_
  obtain ⟨x3, hx3, h⟩ := Md.bind_s h
  obtain ⟨g4, h⟩ := Md.ifp_s h
  refine aw_seq ?_
  apply aw_draw 5 ((⟨[], .agg (c_Arr8Consoleformat x3)⟩ : Add) :: ⟨[], .one (.ptr 0 _)⟩ :: ⟨[], vI a0.Kind⟩ :: ⟨[], .agg (c_Consoleformat (x3.get a0.Kind))⟩ :: ⟨[(1, some (.box [.val (Sv []), .val (Sv []), cI 0, cI 0]))], .one (.ptr 1 _)⟩ :: []) (by decide) rfl ?hk1x ?hf1x ?ho1x ?hr1x
  case ho1x =>
   refine ob [] (fun S hle hfr => .inl ⟨w0, ev_call_v (console_formats_fn k x3 hx3) (map_ev (.nil)) [] (by repeat' (first | exact .nil | refine .cons ?_ ?_ | refine .one ?_ | refine .agg ?_ | exact .mk rfl | exact .lend (hle.heap _ _ rfl) (by simp) | exact .le (.nil _) rfl | exact .le (.emp _) rfl | exact .le (.any _) rfl | fail)) rfl rfl rfl (.inl rfl) (hle.d rfl)⟩) ?_
   refine ob [] (fun S hle hfr => .inl ⟨w0, ev_field (hle.e rfl) rfl (hle.d rfl)⟩) ?_
   refine ob [1] (fun S hle hfr => .inl ⟨w0, ev_load (hle.e rfl) (hle.heap _ _ rfl) rfl (hle.d rfl)⟩) ?_
   refine ob [0, 2, 1] (fun S hle hfr => .inl ⟨w0, ev_index_get (ds := (c_Consoleformat (x3.get a0.Kind))) (hle.e rfl) (hle.e rfl) (get_Arr8Consoleformat x3 _ g4) (hle.d rfl)⟩) ?_
   refine ob [] (fun S hle hfr => .inl ⟨w0, st_alloc (cs := [.val (Sv []), .val (Sv []), cI 0, cI 0]) 1 (hfr _ (List.mem_singleton.2 rfl)) rfl rfl rfl (hle.d rfl)⟩) ?_
   exact trivial
  case hk1x => rfl
  case hf1x => rfl
  refine s_st [_, _, _, _] ?_
  refine aops_nil (aw_seq (aw_seq (aw_region (s_fd ?_))))
  refine s_ld ?_
  refine aops_step1 rfl (ev_range 2 rfl rfl rfl) (aops_nil (aw_block ?_))
  obtain ⟨o5, ho5, h⟩ := Md.bind_s h
  refine aw_loop_x (ι := {p : Nat × Nat // console_Valid_loop1 k a0 x3 p.1 p.2 = some o5}) (fun p => (⟨82, [], [(1, .one (.ptr 0 0)), (3, .one (.ptr 1 0)), (20, .one (.itp 2))], [(0, some (.box (c_ConsoleCommand a0))), (1, some (.box (c_Consoleformat (x3.get a0.Kind)))), (2, some (itB ((x3.get a0.Kind).words) p.1.2))]⟩ : ASt)) (fun p => p.1.1) ⟨(k, 0), ho5⟩ wk 0 (ε := Unit) (fun x => (⟨82, [], [(1, .one (.ptr 0 0)), (3, .one (.ptr 1 0))], [(0, some (.box (c_ConsoleCommand a0))), (1, some (.box (c_Consoleformat (x3.get a0.Kind))))]⟩ : ASt)) (fun x => Sum.inl x = o5) (fun _ _ w h => aw_weak w h) ?_ ?_
  · intro x5_0 hI5
    subst hI5
    replace h := Md.onS_l h
    change AW _ _ (⟨82, [], [(1, .one (.ptr 0 0)), (3, .one (.ptr 1 0))], [(0, some (.box (c_ConsoleCommand a0))), (1, some (.box (c_Consoleformat (x3.get a0.Kind))))]⟩ : ASt) _
    obtain ⟨x6, hx6, h⟩ := Md.bind_s h
    refine aw_seq ?_
    apply aw_draw 5 ((⟨[], .agg (c_ConsoleCommand a0)⟩ : Add) :: ⟨[], .one (.ptr 1 _)⟩ :: ⟨[], .one (.val (Sv ((x3.get a0.Kind).words)))⟩ :: ⟨[], .agg (c_ConsoleCommand x6)⟩ :: ⟨[], .agg (c_ConsoleCommand a0)⟩ :: []) (by decide) rfl ?hk2x ?hf2x ?ho2x ?hr2x
    case ho2x =>
     refine ob [] (fun S hle hfr => .inl ⟨w0, ev_loads (ds := [_, _, _, _, _, _]) (hle.e rfl) (hle.heap _ _ rfl) rfl rfl (hle.d rfl)⟩) ?_
     refine ob [] (fun S hle hfr => .inl ⟨w0, ev_field (hle.e rfl) rfl (hle.d rfl)⟩) ?_
     refine ob [1] (fun S hle hfr => .inl ⟨w0, ev_load (hle.e rfl) (hle.heap _ _ rfl) rfl (hle.d rfl)⟩) ?_
     refine ob [0, 2, 1] (fun S hle hfr => .inl ⟨w0, ev_call_v (console_bare_fn k a0 ((x3.get a0.Kind).words) x6 hx6) (map_ev (.cons (hle.e rfl) (.cons (hle.e rfl) (.nil)))) [] (by repeat' (first | exact .nil | refine .cons ?_ ?_ | refine .one ?_ | refine .agg ?_ | exact .mk rfl | exact .lend (hle.heap _ _ rfl) (by simp) | exact .le (.nil _) rfl | exact .le (.emp _) rfl | exact .le (.any _) rfl | fail)) rfl rfl rfl (.inl rfl) (hle.d rfl)⟩) ?_
     refine ob [] (fun S hle hfr => .inl ⟨w0, ev_loads (ds := [_, _, _, _, _, _]) (hle.e rfl) (hle.heap _ _ rfl) rfl rfl (hle.d rfl)⟩) ?_
     exact trivial
    case hk2x => rfl
    case hf2x => rfl
    refine aops_step1 rfl (ev_agg_eq (vs := [.int .i64 x6.Kind, Sv x6.Topic, Sv x6.Actor.fType, Sv x6.Actor.Key, Sv x6.Method, .int .i64 x6.Number]) (us := [.int .i64 a0.Kind, Sv a0.Topic, Sv a0.Actor.fType, Sv a0.Actor.Key, Sv a0.Method, .int .i64 a0.Number]) (by kernel_rfl) rfl rfl (fun w => sq_ConsoleCommand x6 a0 w) rfl) (s_sa ?_)
    refine aops_nil ?_
    cases Option.some.inj h
    exact aw_ret ⟨rfl, rv r1⟩
  intro p5
  obtain ⟨⟨n5, s5_0⟩, l5⟩ := p5
  change AW _ _ (⟨82, [], [(1, .one (.ptr 0 0)), (3, .one (.ptr 1 0)), (20, .one (.itp 2))], [(0, some (.box (c_ConsoleCommand a0))), (1, some (.box (c_Consoleformat (x3.get a0.Kind)))), (2, some (itB ((x3.get a0.Kind).words) s5_0))]⟩ : ASt) _
  replace l5 : console_Valid_loop1 k a0 x3 n5 s5_0 = some o5 := l5
  rcases n5 with _ | n5
  · exact absurd (show none = some o5 from l5) nofun
  rw [console_Valid_loop1] at l5
  refine aw_seq (aw_region ?_)
  rcases Md.bool_or ((decide (s5_0 < ((x3.get a0.Kind).words).length))) with q7 | q7
  · replace l5 := Md.cond_t l5 q7
    obtain ⟨g8, l5⟩ := Md.ifp_s l5
    refine aops_step1 rfl (ev_next_yes rfl rfl (of_decide_eq_true q7) g8 rfl) (s_ex ?_)
    refine aops_nil (aw_seq (aw_yes rfl (rfl) (aw_skip (aw_block (aw_seq (aw_region (s_ex ?_)))))))
    refine s_sa ?_
    refine aops_nil (aw_block (aw_seq (aw_seq (aw_region (s_mv ?_)))))
    refine s_cm ?_
    refine s_mv ?_
    obtain ⟨o9, j9, l5⟩ := Md.bind_s l5
    refine aops_cut 5 (ε := Bool) (fun x9 => (⟨82, [], [(1, .one (.ptr 0 0)), (3, .one (.ptr 1 0)), (5, .one (.val (.int .i32 (((((x3.get a0.Kind).words).getD s5_0 0).toNat : Nat) : Int)))), (20, .one (.itp 2)), (32, vB x9)], [(0, some (.box (c_ConsoleCommand a0))), (1, some (.box (c_Consoleformat (x3.get a0.Kind)))), (2, some (itB ((x3.get a0.Kind).words) (s5_0 + 1)))]⟩ : ASt)) (fun x9 => x9 = o9) ?_ ?_
    · intro x9 hI9
      subst hI9
      change AOps _ _ _ (⟨82, [], [(1, .one (.ptr 0 0)), (3, .one (.ptr 1 0)), (5, .one (.val (.int .i32 (((((x3.get a0.Kind).words).getD s5_0 0).toNat : Nat) : Int)))), (20, .one (.itp 2)), (32, vB x9)], [(0, some (.box (c_ConsoleCommand a0))), (1, some (.box (c_Consoleformat (x3.get a0.Kind)))), (2, some (itB ((x3.get a0.Kind).words) (s5_0 + 1)))]⟩ : ASt) _
      refine s_sa ?_
      refine aops_nil ?_
      refine aw_cond rfl (fun c10 => ?_) (fun c10 => ?_)
      · replace l5 := Md.cond_t l5 c10
        refine aw_skip (aw_yes rfl (c10) (aw_seq (aw_region (s_sa ?_))))
        refine aops_nil ?_
        cases Option.some.inj l5
        replace h := Md.onS_r h
        cases Option.some.inj h
        exact aw_ret ⟨rfl, rv r1⟩
      replace l5 := Md.cond_f l5 c10
      refine aw_seq (aw_region (s_mv ?_))
      refine s_cm ?_
      refine s_mv ?_
      obtain ⟨o11, j11, l5⟩ := Md.bind_s l5
      refine aops_cut 6 (ε := Bool) (fun x11 => (⟨82, [], [(1, .one (.ptr 0 0)), (3, .one (.ptr 1 0)), (5, .one (.val (.int .i32 (((((x3.get a0.Kind).words).getD s5_0 0).toNat : Nat) : Int)))), (20, .one (.itp 2)), (24, vB x9), (41, vB x11)], [(0, some (.box (c_ConsoleCommand a0))), (1, some (.box (c_Consoleformat (x3.get a0.Kind)))), (2, some (itB ((x3.get a0.Kind).words) (s5_0 + 1)))]⟩ : ASt)) (fun x11 => x11 = o11) ?_ ?_
      · intro x11 hI11
        subst hI11
        change AOps _ _ _ (⟨82, [], [(1, .one (.ptr 0 0)), (3, .one (.ptr 1 0)), (5, .one (.val (.int .i32 (((((x3.get a0.Kind).words).getD s5_0 0).toNat : Nat) : Int)))), (20, .one (.itp 2)), (24, vB x9), (41, vB x11)], [(0, some (.box (c_ConsoleCommand a0))), (1, some (.box (c_Consoleformat (x3.get a0.Kind)))), (2, some (itB ((x3.get a0.Kind).words) (s5_0 + 1)))]⟩ : ASt) _
        refine s_sa ?_
        refine aops_nil ?_
        refine aw_cond rfl (fun c12 => ?_) (fun c12 => ?_)
        · replace l5 := Md.cond_t l5 c12
          refine aw_skip (aw_yes rfl (c12) (aw_seq (aw_region (s_sa ?_))))
          refine aops_nil ?_
          cases Option.some.inj l5
          replace h := Md.onS_r h
          cases Option.some.inj h
          exact aw_ret ⟨rfl, rv r1⟩
        replace l5 := Md.cond_f l5 c12
        refine aw_region (s_mv ?_)
        refine s_cm ?_
        refine s_mv ?_
        obtain ⟨o13, j13, l5⟩ := Md.bind_s l5
        refine aops_cut 5 (ε := Bool) (fun x13 => (⟨82, [], [(1, .one (.ptr 0 0)), (3, .one (.ptr 1 0)), (5, .one (.val (.int .i32 (((((x3.get a0.Kind).words).getD s5_0 0).toNat : Nat) : Int)))), (20, .one (.itp 2)), (24, vB x11), (49, vB x13)], [(0, some (.box (c_ConsoleCommand a0))), (1, some (.box (c_Consoleformat (x3.get a0.Kind)))), (2, some (itB ((x3.get a0.Kind).words) (s5_0 + 1)))]⟩ : ASt)) (fun x13 => x13 = o13) ?_ ?_
        · intro x13 hI13
          subst hI13
          change AOps _ _ _ (⟨82, [], [(1, .one (.ptr 0 0)), (3, .one (.ptr 1 0)), (5, .one (.val (.int .i32 (((((x3.get a0.Kind).words).getD s5_0 0).toNat : Nat) : Int)))), (20, .one (.itp 2)), (24, vB x11), (49, vB x13)], [(0, some (.box (c_ConsoleCommand a0))), (1, some (.box (c_Consoleformat (x3.get a0.Kind)))), (2, some (itB ((x3.get a0.Kind).words) (s5_0 + 1)))]⟩ : ASt) _
          refine s_sa ?_
          refine aops_nil ?_
          refine aw_cond rfl (fun c14 => ?_) (fun c14 => ?_)
          · replace l5 := Md.cond_t l5 c14
            refine aw_seq (aw_region (s_sa ?_))
            refine aops_nil ?_
            cases Option.some.inj l5
            replace h := Md.onS_r h
            cases Option.some.inj h
            exact aw_ret ⟨rfl, rv r1⟩
          replace l5 := Md.cond_f l5 c14
          refine aw_seq (aw_seq (aw_region (s_mv ?_)))
          refine s_cm ?_
          refine s_mv ?_
          refine aops_mid 6 (⟨82, [], [(1, .one (.ptr 0 0)), (3, .one (.ptr 1 0)), (5, .one (.val (.int .i32 (((((x3.get a0.Kind).words).getD s5_0 0).toNat : Nat) : Int)))), (20, .one (.itp 2)), (59, vB (((((((x3.get a0.Kind).words).getD s5_0 0).toNat : Nat) : Int) == 107) && (decide (((a0.Actor.Key.length : Nat) : Int) > 32))))], [(0, some (.box (c_ConsoleCommand a0))), (1, some (.box (c_Consoleformat (x3.get a0.Kind)))), (2, some (itB ((x3.get a0.Kind).words) (s5_0 + 1)))]⟩ : ASt) ?_ ?_
          · rcases Md.bool_or (((((((x3.get a0.Kind).words).getD s5_0 0).toNat : Nat) : Int) == 107)) with q15 | q15
            · skip
              iterate 2 refine y_fd q15 ?_
              refine y_ld q15 ?_
              refine aops_yes rfl rfl rfl rfl q15 (st_len_str rfl rfl) (y_cm q15 ?_)
              refine s_py q15 ?_
              refine aops_nil ?_
              exact wq q15
            iterate 5 refine np q15 ?_
            refine s_pn q15 ?_
            refine aops_nil ?_
            exact wq q15
          refine s_sa ?_
          refine aops_nil ?_
          refine aw_cond rfl (fun c16 => ?_) (fun c16 => ?_)
          · replace l5 := Md.cond_t l5 c16
            refine aw_skip (aw_yes rfl (c16) (aw_seq (aw_region (s_sa ?_))))
            refine aops_nil ?_
            cases Option.some.inj l5
            replace h := Md.onS_r h
            cases Option.some.inj h
            exact aw_ret ⟨rfl, rv r1⟩
          replace l5 := Md.cond_f l5 c16
          refine aw_region (s_mv ?_)
          refine s_cm ?_
          refine s_mv ?_
          refine aops_mid 13 (⟨82, [], [(1, .one (.ptr 0 0)), (3, .one (.ptr 1 0)), (20, .one (.itp 2)), (50, vB (((((((x3.get a0.Kind).words).getD s5_0 0).toNat : Nat) : Int) == 107) && (decide (((a0.Actor.Key.length : Nat) : Int) > 32)))), (75, vB (((((((x3.get a0.Kind).words).getD s5_0 0).toNat : Nat) : Int) == 110) && ((decide (a0.Number < ((x3.get a0.Kind).min))) || (decide (a0.Number > ((x3.get a0.Kind).max))))))], [(0, some (.box (c_ConsoleCommand a0))), (1, some (.box (c_Consoleformat (x3.get a0.Kind)))), (2, some (itB ((x3.get a0.Kind).words) (s5_0 + 1)))]⟩ : ASt) ?_ ?_
          · rcases Md.bool_or (((((((x3.get a0.Kind).words).getD s5_0 0).toNat : Nat) : Int) == 110)) with q17 | q17
            · skip
              refine y_fd q17 ?_
              refine y_ld q17 ?_
              refine y_fd q17 ?_
              refine y_ld q17 ?_
              refine y_cm q17 ?_
              refine y_mv q17 ?_
              refine aops_mid 6 (⟨82, [], [(1, .one (.ptr 0 0)), (3, .one (.ptr 1 0)), (20, .one (.itp 2)), (50, vB (((((((x3.get a0.Kind).words).getD s5_0 0).toNat : Nat) : Int) == 107) && (decide (((a0.Actor.Key.length : Nat) : Int) > 32)))), (62, vB ((((((x3.get a0.Kind).words).getD s5_0 0).toNat : Nat) : Int) == 110)), (74, vB ((decide (a0.Number < ((x3.get a0.Kind).min))) || (decide (a0.Number > ((x3.get a0.Kind).max)))))], [(0, some (.box (c_ConsoleCommand a0))), (1, some (.box (c_Consoleformat (x3.get a0.Kind)))), (2, some (itB ((x3.get a0.Kind).words) (s5_0 + 1)))]⟩ : ASt) ?_ ?_
              · rcases Md.bool_or ((decide (a0.Number < ((x3.get a0.Kind).min)))) with q18 | q18
                · skip
                  iterate 5 refine np q18 ?_
                  refine aops_yes rfl rfl rfl rfl q17 (st_pick_yes rfl (by first | rfl | exact q18) rfl rfl) (aops_nil ?_)
                  exact wq q18
                refine y_fd q18 ?_
                refine y_ld q18 ?_
                refine y_fd q18 ?_
                refine y_ld q18 ?_
                refine y_cm q18 ?_
                refine aops_yes rfl rfl rfl rfl q17 (st_pick_no rfl (by first | rfl | exact q18) rfl rfl) (aops_nil ?_)
                exact wq q18
              change AOps _ _ _ (⟨82, [], [(1, .one (.ptr 0 0)), (3, .one (.ptr 1 0)), (20, .one (.itp 2)), (50, vB (((((((x3.get a0.Kind).words).getD s5_0 0).toNat : Nat) : Int) == 107) && (decide (((a0.Actor.Key.length : Nat) : Int) > 32)))), (62, vB ((((((x3.get a0.Kind).words).getD s5_0 0).toNat : Nat) : Int) == 110)), (74, vB ((decide (a0.Number < ((x3.get a0.Kind).min))) || (decide (a0.Number > ((x3.get a0.Kind).max)))))], [(0, some (.box (c_ConsoleCommand a0))), (1, some (.box (c_Consoleformat (x3.get a0.Kind)))), (2, some (itB ((x3.get a0.Kind).words) (s5_0 + 1)))]⟩ : ASt) _
              refine s_py q17 ?_
              refine aops_nil ?_
              exact wq q17
            iterate 6 refine np q17 ?_
            iterate 5 refine aops_und rfl rfl rfl rfl rfl ?_
            refine np q17 ?_
            refine s_pn q17 ?_
            refine aops_nil ?_
            exact wq q17
          refine s_sa ?_
          refine aops_nil ?_
          refine aw_cond rfl (fun c19 => ?_) (fun c19 => ?_)
          · replace l5 := Md.cond_t l5 c19
            refine aw_seq (aw_region (s_sa ?_))
            refine aops_nil ?_
            cases Option.some.inj l5
            replace h := Md.onS_r h
            cases Option.some.inj h
            exact aw_ret ⟨rfl, rv r1⟩
          replace l5 := Md.cond_f l5 c19
          refine aw_skip ?_
          exact ⟨⟨(n5, (s5_0 + 1)), l5⟩, Nat.lt_succ_self _, wk⟩
        rcases Md.bool_or (((((((x3.get a0.Kind).words).getD s5_0 0).toNat : Nat) : Int) == 109)) with q13 | q13
        · replace j13 := Md.cond_t j13 q13
          refine y_fd q13 ?_
          refine y_ld q13 ?_
          obtain ⟨x20, hx20, j13⟩ := Md.bind_s j13
          refine aops_yes rfl rfl rfl rfl q13 (ev_call_v (console_Name_fn k a0.Method x20 hx20) rfl [] ai rfl rfl rfl (.inl rfl) rfl) (y_nt q13 ?_)
          refine s_py q13 ?_
          refine aops_nil ?_
          show ∃ _x : Bool, _ = _ ∧ Weak _ _
          exact ⟨(!x20), Option.some.inj j13, wk⟩
        replace j13 := Md.cond_f j13 q13
        iterate 4 refine np q13 ?_
        refine s_pn q13 ?_
        refine aops_nil ?_
        show ∃ _x : Bool, _ = _ ∧ Weak _ _
        exact ⟨false, Option.some.inj j13, wk⟩
      rcases Md.bool_or (((((((x3.get a0.Kind).words).getD s5_0 0).toNat : Nat) : Int) == 97)) with q11 | q11
      · replace j11 := Md.cond_t j11 q11
        iterate 2 refine y_fd q11 ?_
        refine y_ld q11 ?_
        obtain ⟨x21, hx21, j11⟩ := Md.bind_s j11
        refine aops_yes rfl rfl rfl rfl q11 (ev_call_v (console_Name_fn k a0.Actor.fType x21 hx21) rfl [] ai rfl rfl rfl (.inl rfl) rfl) (y_nt q11 ?_)
        refine s_py q11 ?_
        refine aops_nil ?_
        show ∃ _x : Bool, _ = _ ∧ Weak _ _
        exact ⟨(!x21), Option.some.inj j11, wk⟩
      replace j11 := Md.cond_f j11 q11
      iterate 5 refine np q11 ?_
      refine s_pn q11 ?_
      refine aops_nil ?_
      show ∃ _x : Bool, _ = _ ∧ Weak _ _
      exact ⟨false, Option.some.inj j11, wk⟩
    rcases Md.bool_or (((((((x3.get a0.Kind).words).getD s5_0 0).toNat : Nat) : Int) == 116)) with q9 | q9
    · replace j9 := Md.cond_t j9 q9
      refine y_fd q9 ?_
      refine y_ld q9 ?_
      obtain ⟨x22, hx22, j9⟩ := Md.bind_s j9
      refine aops_yes rfl rfl rfl rfl q9 (ev_call_v (console_Name_fn k a0.Topic x22 hx22) rfl [] ai rfl rfl rfl (.inl rfl) rfl) (y_nt q9 ?_)
      refine s_py q9 ?_
      refine aops_nil ?_
      show ∃ _x : Bool, _ = _ ∧ Weak _ _
      exact ⟨(!x22), Option.some.inj j9, wk⟩
    replace j9 := Md.cond_f j9 q9
    iterate 4 refine np q9 ?_
    refine s_pn q9 ?_
    refine aops_nil ?_
    show ∃ _x : Bool, _ = _ ∧ Weak _ _
    exact ⟨false, Option.some.inj j9, wk⟩
  replace l5 := Md.cond_f l5 q7
  refine aops_step1 rfl (ev_next_no rfl rfl (of_decide_eq_false q7) rfl) (s_ex ?_)
  refine aops_nil (aw_seq (aw_no rfl (rfl) (aw_exit ?_)))
  show ∃ _x : Unit, _ = _ ∧ Weak _ _
  exact ⟨(), Option.some.inj l5, wk⟩
set_option maxHeartbeats 2000000 in
theorem console_Format_fn (k : Nat) (a0 : ConsoleCommand) (r : (List UInt8)) (h : console_Format k a0 = some r) : FnC Tryd.prog 17 [.agg (c_ConsoleCommand a0)] [] (Det (.one (.val (Sv r))) []) := by
  unfold console_Format at h
  refine fn_intro' 60 Tryd.func17 rfl rfl rfl (aw_seq (aw_region (aops_step1 rfl (st_box 0 rfl rfl rfl rfl) (s_sa ?_))))
  refine aops_nil (aw_seq (aw_seq (aw_region (s_ls [_, _, _, _, _, _] ?_))))
  obtain ⟨x1, hx1, h⟩ := Md.bind_s h
  refine aops_step1 rfl (ev_call_v (console_Valid_fn k a0 x1 hx1) rfl [] ai rfl rfl rfl (.inl rfl) rfl) (s_nt ?_)
  refine aops_nil ?_
  refine aw_cond rfl (fun c2 => ?_) (fun c2 => ?_)
  · replace h := Md.cond_t h c2
    refine aw_seq (aw_region (s_sa ?_))
    refine aops_nil ?_
    cases Option.some.inj h
    exact aw_ret ⟨rfl, rv r1⟩
  replace h := Md.cond_f h c2
  refine aw_skip ?_
  obtain ⟨x3, hx3, h⟩ := Md.bind_s h
  obtain ⟨g4, h⟩ := Md.ifp_s h
  refine aw_seq ?_
  apply aw_draw 5 ((⟨[], .agg (c_Arr8Consoleformat x3)⟩ : Add) :: ⟨[], .one (.ptr 0 _)⟩ :: ⟨[], vI a0.Kind⟩ :: ⟨[], .agg (c_Consoleformat (x3.get a0.Kind))⟩ :: ⟨[(1, some (.box [.val (Sv []), .val (Sv []), cI 0, cI 0]))], .one (.ptr 1 _)⟩ :: []) (by decide) rfl ?hk1x ?hf1x ?ho1x ?hr1x
  case ho1x =>
   refine ob [] (fun S hle hfr => .inl ⟨w0, ev_call_v (console_formats_fn k x3 hx3) (map_ev (.nil)) [] (by repeat' (first | exact .nil | refine .cons ?_ ?_ | refine .one ?_ | refine .agg ?_ | exact .mk rfl | exact .lend (hle.heap _ _ rfl) (by simp) | exact .le (.nil _) rfl | exact .le (.emp _) rfl | exact .le (.any _) rfl | fail)) rfl rfl rfl (.inl rfl) (hle.d rfl)⟩) ?_
   refine ob [] (fun S hle hfr => .inl ⟨w0, ev_field (hle.e rfl) rfl (hle.d rfl)⟩) ?_
   refine ob [1] (fun S hle hfr => .inl ⟨w0, ev_load (hle.e rfl) (hle.heap _ _ rfl) rfl (hle.d rfl)⟩) ?_
   refine ob [0, 2, 1] (fun S hle hfr => .inl ⟨w0, ev_index_get (ds := (c_Consoleformat (x3.get a0.Kind))) (hle.e rfl) (hle.e rfl) (get_Arr8Consoleformat x3 _ g4) (hle.d rfl)⟩) ?_
   refine ob [] (fun S hle hfr => .inl ⟨w0, st_alloc (cs := [.val (Sv []), .val (Sv []), cI 0, cI 0]) 1 (hfr _ (List.mem_singleton.2 rfl)) rfl rfl rfl (hle.d rfl)⟩) ?_
   exact trivial
  case hk1x => rfl
  case hf1x => rfl
  refine s_st [_, _, _, _] ?_
  refine aops_nil (aw_seq (aw_region (s_fd ?_)))
  refine s_ld ?_
  refine s_sa ?_
  refine aops_nil (aw_seq (aw_seq (aw_region (s_fd ?_))))
  refine s_ld ?_
  refine aops_step1 rfl (ev_range 2 rfl rfl rfl) (aops_nil (aw_block ?_))
  obtain ⟨o5, ho5, h⟩ := Md.bind_s h
  refine aw_loop_x (ι := {p : Nat × (List UInt8) × Nat // console_Format_loop1 k a0 x3 p.1 p.2.1 p.2.2 = some o5}) (fun p => (⟨60, [], [(1, .one (.ptr 0 0)), (4, .one (.val (Sv p.1.2.1))), (18, .one (.itp 2))], [(0, some (.box (c_ConsoleCommand a0))), (2, some (itB ((x3.get a0.Kind).words) p.1.2.2))]⟩ : ASt)) (fun p => p.1.1) ⟨(k, ((x3.get a0.Kind).word), 0), ho5⟩ wk 0 (ε := (List UInt8)) (fun x => (⟨60, [], [(4, .one (.val (Sv x)))], []⟩ : ASt)) (fun x => x = o5) (fun _ _ w h => aw_weak w h) ?_ ?_
  · intro x5_0 hI5
    subst hI5
    change AW _ _ (⟨60, [], [(4, .one (.val (Sv x5_0)))], []⟩ : ASt) _
    refine aw_seq (aw_region (s_mv ?_))
    refine s_sa ?_
    refine aops_nil ?_
    cases Option.some.inj h
    exact aw_ret ⟨rfl, rv r1⟩
  intro p5
  obtain ⟨⟨n5, s5_0, s5_1⟩, l5⟩ := p5
  change AW _ _ (⟨60, [], [(1, .one (.ptr 0 0)), (4, .one (.val (Sv s5_0))), (18, .one (.itp 2))], [(0, some (.box (c_ConsoleCommand a0))), (2, some (itB ((x3.get a0.Kind).words) s5_1))]⟩ : ASt) _
  replace l5 : console_Format_loop1 k a0 x3 n5 s5_0 s5_1 = some o5 := l5
  rcases n5 with _ | n5
  · exact absurd (show none = some o5 from l5) nofun
  rw [console_Format_loop1] at l5
  refine aw_seq (aw_region ?_)
  rcases Md.bool_or ((decide (s5_1 < ((x3.get a0.Kind).words).length))) with q6 | q6
  · replace l5 := Md.cond_t l5 q6
    obtain ⟨g7, l5⟩ := Md.ifp_s l5
    refine aops_step1 rfl (ev_next_yes rfl rfl (of_decide_eq_true q6) g7 rfl) (s_ex ?_)
    refine aops_nil (aw_seq (aw_yes rfl (rfl) (aw_skip (aw_block (aw_seq (aw_region (s_ex ?_)))))))
    refine s_sa ?_
    refine aops_nil (aw_seq (aw_region (s_mv ?_)))
    obtain ⟨g8, l5⟩ := Md.ifp_s l5
    refine aops_step1 rfl (st_str_add rfl rfl rfl g8) (s_sa ?_)
    refine aops_nil (aw_seq (aw_region (s_mv ?_)))
    refine aops_nil (aw_block (aw_seq (aw_region (s_cm ?_))))
    refine s_sa ?_
    refine aops_nil ?_
    refine aw_cond rfl (fun c9 => ?_) (fun c9 => ?_)
    · replace l5 := Md.cond_t l5 c9
      refine aw_region (s_mv ?_)
      refine s_fd ?_
      refine s_ld ?_
      obtain ⟨g10, l5⟩ := Md.ifp_s l5
      refine aops_step1 rfl (st_str_add rfl rfl rfl g10) (s_sa ?_)
      refine aops_nil ?_
      exact ⟨⟨(n5, ((s5_0 ++ ([32] : List UInt8)) ++ a0.Topic), (s5_1 + 1)), l5⟩, Nat.lt_succ_self _, wk⟩
    replace l5 := Md.cond_f l5 c9
    refine aw_seq (aw_region (s_cm ?_))
    refine s_sa ?_
    refine aops_nil ?_
    refine aw_cond rfl (fun c11 => ?_) (fun c11 => ?_)
    · replace l5 := Md.cond_t l5 c11
      refine aw_region (s_mv ?_)
      iterate 2 refine s_fd ?_
      refine s_ld ?_
      obtain ⟨g12, l5⟩ := Md.ifp_s l5
      refine aops_step1 rfl (st_str_add rfl rfl rfl g12) (s_sa ?_)
      refine aops_nil ?_
      exact ⟨⟨(n5, ((s5_0 ++ ([32] : List UInt8)) ++ a0.Actor.fType), (s5_1 + 1)), l5⟩, Nat.lt_succ_self _, wk⟩
    replace l5 := Md.cond_f l5 c11
    refine aw_seq (aw_region (s_cm ?_))
    refine s_sa ?_
    refine aops_nil ?_
    refine aw_cond rfl (fun c13 => ?_) (fun c13 => ?_)
    · replace l5 := Md.cond_t l5 c13
      refine aw_region (s_mv ?_)
      iterate 2 refine s_fd ?_
      refine s_ld ?_
      obtain ⟨x14, hx14, l5⟩ := Md.bind_s l5
      refine aops_step1 rfl (ev_call_v (console_Quote_fn k a0.Actor.Key x14 hx14) rfl [] ai rfl rfl rfl (.inl rfl) rfl) ?_
      obtain ⟨g15, l5⟩ := Md.ifp_s l5
      refine aops_step1 rfl (st_str_add rfl rfl rfl g15) (s_sa ?_)
      refine aops_nil ?_
      exact ⟨⟨(n5, ((s5_0 ++ ([32] : List UInt8)) ++ x14), (s5_1 + 1)), l5⟩, Nat.lt_succ_self _, wk⟩
    replace l5 := Md.cond_f l5 c13
    refine aw_seq (aw_region (s_cm ?_))
    refine s_sa ?_
    refine aops_nil ?_
    refine aw_cond rfl (fun c16 => ?_) (fun c16 => ?_)
    · replace l5 := Md.cond_t l5 c16
      refine aw_region (s_mv ?_)
      refine s_fd ?_
      refine s_ld ?_
      obtain ⟨g17, l5⟩ := Md.ifp_s l5
      refine aops_step1 rfl (st_str_add rfl rfl rfl g17) (s_sa ?_)
      refine aops_nil ?_
      exact ⟨⟨(n5, ((s5_0 ++ ([32] : List UInt8)) ++ a0.Method), (s5_1 + 1)), l5⟩, Nat.lt_succ_self _, wk⟩
    replace l5 := Md.cond_f l5 c16
    refine aw_seq (aw_region (s_cm ?_))
    refine s_sa ?_
    refine aops_nil ?_
    refine aw_cond rfl (fun c18 => ?_) (fun c18 => ?_)
    · replace l5 := Md.cond_t l5 c18
      refine aw_region (s_mv ?_)
      refine s_fd ?_
      refine s_ld ?_
      obtain ⟨x19, hx19, l5⟩ := Md.bind_s l5
      refine aops_step1 rfl (ev_call_v (strconv_Itoa_fn k a0.Number x19 hx19) rfl [] ai rfl rfl rfl (.inl rfl) rfl) ?_
      obtain ⟨g20, l5⟩ := Md.ifp_s l5
      refine aops_step1 rfl (st_str_add rfl rfl rfl g20) (s_sa ?_)
      refine aops_nil ?_
      exact ⟨⟨(n5, ((s5_0 ++ ([32] : List UInt8)) ++ x19), (s5_1 + 1)), l5⟩, Nat.lt_succ_self _, wk⟩
    replace l5 := Md.cond_f l5 c18
    refine aw_skip ?_
    exact ⟨⟨(n5, (s5_0 ++ ([32] : List UInt8)), (s5_1 + 1)), l5⟩, Nat.lt_succ_self _, wk⟩
  replace l5 := Md.cond_f l5 q6
  refine aops_step1 rfl (ev_next_no rfl rfl (of_decide_eq_false q6) rfl) (s_ex ?_)
  refine aops_nil (aw_seq (aw_no rfl (rfl) (aw_exit ?_)))
  show ∃ _x : (List UInt8), _ = _ ∧ Weak _ _
  exact ⟨s5_0, Option.some.inj l5, wk⟩
set_option maxHeartbeats 2000000 in
theorem console_word_fn (k : Nat) (a0 : List UInt8) (r : (List UInt8)) (h : console_word k a0 = some r) : FnC Tryd.prog 47 [.one (.val (Sv a0))] [] (Det (.one (.val (Sv r))) []) := by
  unfold console_word at h
  refine fn_intro' 13 Tryd.func47 rfl rfl rfl (aw_seq (aw_region (s_sa ?_)))
  refine aops_nil (aw_seq (aw_region (s_mv ?_)))
  obtain ⟨x1, hx1, h⟩ := Md.bind_s h
  refine aops_step1 rfl (ev_call_v (strings_Cut_fn k a0 ([32] : List UInt8) x1 hx1) rfl [] ai rfl rfl rfl (.inl rfl) rfl) (s_mt ?_)
  iterate 3 refine s_ex ?_
  iterate 3 refine s_sa ?_
  refine aops_nil (aw_seq (aw_region (s_mv ?_)))
  refine s_sa ?_
  refine aops_nil ?_
  cases Option.some.inj h
  exact aw_ret ⟨rfl, rv r1⟩
set_option maxHeartbeats 2000000 in
theorem console_hex_fn (k : Nat) (a0 : UInt8) (r : Int) (h : console_hex k a0 = some r) : FnC Tryd.prog 59 [.one (.val (.int .u8 (a0.toNat : Int)))] [] (Det (vI r) []) := by
  unfold console_hex at h
  refine fn_intro' 5 Tryd.func59 rfl rfl rfl (aw_seq (aw_region (s_sa ?_)))
  refine aops_nil (aw_seq (aw_region (s_mv ?_)))
  obtain ⟨x1, hx1, h⟩ := Md.bind_s h
  refine aops_step1 rfl (ev_call_v (strings_IndexByte_fn k ([48, 49, 50, 51, 52, 53, 54, 55, 56, 57, 97, 98, 99, 100, 101, 102] : List UInt8) a0 x1 hx1) rfl [] ai rfl rfl rfl (.inl rfl) rfl) (s_sa ?_)
  refine aops_nil ?_
  cases Option.some.inj h
  exact aw_ret ⟨rfl, rv r1⟩
set_option maxHeartbeats 2000000 in
theorem console_escape_fn (k : Nat) (a0 : List UInt8) (r : UInt8 × Int × Int) (h : console_escape k a0 = some r) : FnC Tryd.prog 45 [.one (.val (Sv a0))] [] (Det (.tup [.one (.val (.int .u8 (r.1.toNat : Int))), vI r.2.1, vI r.2.2]) []) := by
  unfold console_escape at h
  refine fn_intro' 47 Tryd.func45 rfl rfl rfl (aw_seq (aw_region ?_))
  iterate 3 refine s_sa ?_
  refine aops_nil (aw_seq (aw_seq (aw_region (s_mv ?_))))
  refine aops_step1 rfl (st_len_str rfl rfl) (s_cm ?_)
  refine aops_nil ?_
  refine aw_cond rfl (fun c1 => ?_) (fun c1 => ?_)
  · replace h := Md.cond_t h c1
    refine aw_seq (aw_region ?_)
    iterate 3 refine s_sa ?_
    refine aops_nil ?_
    cases Option.some.inj h
    exact aw_ret ⟨rfl, rv (rn (.cons o1 (.cons o1 (.cons o1 .nil))))⟩
  replace h := Md.cond_f h c1
  refine aw_skip (aw_seq (aw_seq (aw_region (s_mv ?_))))
  obtain ⟨g2, h⟩ := Md.ifp_s h
  refine aops_step1 rfl (st_index_str rfl rfl rfl g2 rfl) (s_cm ?_)
  refine s_mv ?_
  obtain ⟨o3, j3, h⟩ := Md.bind_s h
  refine aops_cut 4 (ε := Bool) (fun x3 => (⟨47, [], [(0, .one (.val (Sv a0))), (16, vB x3)], []⟩ : ASt)) (fun x3 => x3 = o3) ?_ ?_
  · intro x3 hI3
    subst hI3
    change AOps _ _ _ (⟨47, [], [(0, .one (.val (Sv a0))), (16, vB x3)], []⟩ : ASt) _
    refine aops_nil ?_
    refine aw_cond rfl (fun c4 => ?_) (fun c4 => ?_)
    · replace h := Md.cond_t h c4
      refine aw_seq (aw_region (s_mv ?_))
      obtain ⟨g5, h⟩ := Md.ifp_s h
      refine aops_step1 rfl (st_index_str rfl rfl rfl g5 rfl) ?_
      iterate 3 refine s_sa ?_
      refine aops_nil ?_
      cases Option.some.inj h
      exact aw_ret ⟨rfl, rv (rn (.cons o1 (.cons o1 (.cons o1 .nil))))⟩
    replace h := Md.cond_f h c4
    refine aw_skip (aw_seq (aw_seq (aw_region (s_mv ?_))))
    obtain ⟨g6, h⟩ := Md.ifp_s h
    refine aops_step1 rfl (st_index_str rfl rfl rfl g6 rfl) (s_cm ?_)
    refine aops_nil ?_
    refine aw_cond rfl (fun c7 => ?_) (fun c7 => ?_)
    · replace h := Md.cond_t h c7
      refine aw_seq (aw_region ?_)
      iterate 3 refine s_sa ?_
      refine aops_nil ?_
      cases Option.some.inj h
      exact aw_ret ⟨rfl, rv (rn (.cons o1 (.cons o1 (.cons o1 .nil))))⟩
    replace h := Md.cond_f h c7
    refine aw_skip (aw_seq (aw_seq (aw_region (s_sa ?_))))
    refine aops_nil (aw_block ?_)
    obtain ⟨o8, ho8, h⟩ := Md.bind_s h
    refine aw_loop_x (ι := {p : Nat × Nat // console_escape_loop1 k a0 p.1 p.2 = some o8}) (fun p => (⟨47, [], [(0, .one (.val (Sv a0))), (5, vI ((p.1.2 : Nat) : Int))], []⟩ : ASt)) (fun p => p.1.1) ⟨(k, 2), ho8⟩ wk 0 (ε := Unit) (fun x => (⟨47, [], [(0, .one (.val (Sv a0)))], []⟩ : ASt)) (fun x => Sum.inl x = o8) (fun _ _ w h => aw_weak w h) ?_ ?_
    · intro x8_0 hI8
      subst hI8
      replace h := Md.onS_l h
      change AW _ _ (⟨47, [], [(0, .one (.val (Sv a0)))], []⟩ : ASt) _
      obtain ⟨g9, h⟩ := Md.ifp_s h
      obtain ⟨x10, hx10, h⟩ := Md.bind_s h
      obtain ⟨g11, h⟩ := Md.ifp_s h
      obtain ⟨x12, hx12, h⟩ := Md.bind_s h
      refine aw_seq ?_
      apply aw_draw 7 ((⟨[], .one (.val (Sv a0))⟩ : Add) :: ⟨[], .one (.val (.int .u8 (((a0.getD 2 0)).toNat : Int)))⟩ :: ⟨[], vI x10⟩ :: ⟨[], vI (Md.ishl x10 4)⟩ :: ⟨[], .one (.val (Sv a0))⟩ :: ⟨[], .one (.val (.int .u8 (((a0.getD 3 0)).toNat : Int)))⟩ :: ⟨[], vI x12⟩ :: []) (by decide) rfl ?hk1x ?hf1x ?ho1x ?hr1x
      case ho1x =>
       refine ob [] (fun S hle hfr => .inl ⟨w0, st_move (hle.e rfl) (hle.d rfl)⟩) ?_
       refine ob [0] (fun S hle hfr => .inl ⟨w0, st_index_str (hle.e rfl) (hle.e rfl) rfl g9 (hle.d rfl)⟩) ?_
       refine ob [1, 0] (fun S hle hfr => .inl ⟨w0, ev_call_v (console_hex_fn k (a0.getD 2 0) x10 hx10) (map_ev (.cons (hle.e rfl) (.nil))) [] (by repeat' (first | exact .nil | refine .cons ?_ ?_ | refine .one ?_ | refine .agg ?_ | exact .mk rfl | exact .lend (hle.heap _ _ rfl) (by simp) | exact .le (.nil _) rfl | exact .le (.emp _) rfl | exact .le (.any _) rfl | fail)) rfl rfl rfl (.inl rfl) (hle.d rfl)⟩) ?_
       refine ob [2, 1, 0] (fun S hle hfr => .inl ⟨w0, ev_shl (hle.e rfl) (hle.e rfl) (hle.d rfl) (by decide) (Md.ishl_i64 x10 (Md.nat_toNat 4))⟩) ?_
       refine ob [] (fun S hle hfr => .inl ⟨w0, st_move (hle.e rfl) (hle.d rfl)⟩) ?_
       refine ob [4] (fun S hle hfr => .inl ⟨w0, st_index_str (hle.e rfl) (hle.e rfl) rfl g11 (hle.d rfl)⟩) ?_
       refine ob [5, 2, 4, 1, 0] (fun S hle hfr => .inl ⟨w0, ev_call_v (console_hex_fn k (a0.getD 3 0) x12 hx12) (map_ev (.cons (hle.e rfl) (.nil))) [] (by repeat' (first | exact .nil | refine .cons ?_ ?_ | refine .one ?_ | refine .agg ?_ | exact .mk rfl | exact .lend (hle.heap _ _ rfl) (by simp) | exact .le (.nil _) rfl | exact .le (.emp _) rfl | exact .le (.any _) rfl | fail)) rfl rfl rfl (.inl rfl) (hle.d rfl)⟩) ?_
       exact trivial
      case hk1x => rfl
      case hf1x => rfl
      refine aops_step1 rfl (ev_bits rfl rfl rfl rfl (Md.ior_i64 (Md.ishl x10 4) x12)) ?_
      refine aops_step1 rfl (st_conv_int rfl rfl Tryd.underlying3 Tryd.underlying5 (Md.ofInt_u8 (Md.ior (Md.ishl x10 4) x12))) (s_sa ?_)
      refine aops_nil (aw_seq (aw_seq (aw_region (s_mv ?_))))
      obtain ⟨x13, hx13, h⟩ := Md.bind_s h
      refine aops_step1 rfl (ev_call_v (console_plain_fn k (UInt8.ofInt (Md.ior (Md.ishl x10 4) x12)) x13 hx13) rfl [] ai rfl rfl rfl (.inl rfl) rfl) (aops_nil ?_)
      refine aw_cond rfl (fun c14 => ?_) (fun c14 => ?_)
      · replace h := Md.cond_t h c14
        refine aw_seq (aw_region ?_)
        iterate 3 refine s_sa ?_
        refine aops_nil ?_
        cases Option.some.inj h
        exact aw_ret ⟨rfl, rv (rn (.cons o1 (.cons o1 (.cons o1 .nil))))⟩
      replace h := Md.cond_f h c14
      refine aw_skip (aw_seq (aw_region (s_mv ?_)))
      iterate 3 refine s_sa ?_
      refine aops_nil ?_
      cases Option.some.inj h
      exact aw_ret ⟨rfl, rv (rn (.cons o1 (.cons o1 (.cons o1 .nil))))⟩
    intro p8
    obtain ⟨⟨n8, s8_0⟩, l8⟩ := p8
    change AW _ _ (⟨47, [], [(0, .one (.val (Sv a0))), (5, vI ((s8_0 : Nat) : Int))], []⟩ : ASt) _
    replace l8 : console_escape_loop1 k a0 n8 s8_0 = some o8 := l8
    rcases n8 with _ | n8
    · exact absurd (show none = some o8 from l8) nofun
    rw [console_escape_loop1] at l8
    refine aw_seq (aw_seq (aw_region (s_mv ?_)))
    refine s_cm ?_
    refine aops_nil ?_
    refine aw_cond rfl (fun c15 => ?_) (fun c15 => ?_)
    · replace l8 := Md.cond_t l8 c15
      refine aw_skip (aw_seq (aw_block (aw_seq (aw_seq (aw_region (s_mv ?_))))))
      refine aops_step1 rfl (st_len_str rfl rfl) (s_mv ?_)
      refine s_cm ?_
      refine aops_nil ?_
      refine aw_cond rfl (fun c16 => ?_) (fun c16 => ?_)
      · replace l8 := Md.cond_t l8 c16
        refine aw_seq (aw_region ?_)
        iterate 3 refine s_sa ?_
        refine aops_nil ?_
        cases Option.some.inj l8
        replace h := Md.onS_r h
        cases Option.some.inj h
        exact aw_ret ⟨rfl, rv (rn (.cons o1 (.cons o1 (.cons o1 .nil))))⟩
      replace l8 := Md.cond_f l8 c16
      refine aw_skip (aw_seq (aw_region ?_))
      iterate 2 refine s_mv ?_
      obtain ⟨g17, l8⟩ := Md.ifp_s l8
      refine aops_step1 rfl (st_index_str rfl rfl rfl g17 rfl) ?_
      obtain ⟨x18, hx18, l8⟩ := Md.bind_s l8
      refine aops_step1 rfl (ev_call_v (console_hex_fn k (a0.getD s8_0 0) x18 hx18) rfl [] ai rfl rfl rfl (.inl rfl) rfl) (s_cm ?_)
      refine aops_nil ?_
      refine aw_cond rfl (fun c19 => ?_) (fun c19 => ?_)
      · replace l8 := Md.cond_t l8 c19
        refine aw_seq (aw_region ?_)
        iterate 3 refine s_sa ?_
        refine aops_nil ?_
        cases Option.some.inj l8
        replace h := Md.onS_r h
        cases Option.some.inj h
        exact aw_ret ⟨rfl, rv (rn (.cons o1 (.cons o1 (.cons o1 .nil))))⟩
      replace l8 := Md.cond_f l8 c19
      refine aw_skip (aw_region (s_mv ?_))
      obtain ⟨g20, l8⟩ := Md.ifp_s l8
      refine aops_step1 rfl (ev_add rfl rfl rfl (Md.nat_add g20)) (s_sa ?_)
      refine aops_nil ?_
      exact ⟨⟨(n8, (s8_0 + 1)), l8⟩, Nat.lt_succ_self _, wk⟩
    replace l8 := Md.cond_f l8 c15
    refine aw_exit ?_
    show ∃ _x : Unit, _ = _ ∧ Weak _ _
    exact ⟨(), Option.some.inj l8, wk⟩
  rcases Md.bool_or (((((a0.getD 1 0)).toNat : Int) == 34)) with q3 | q3
  · replace j3 := Md.cond_t j3 q3
    iterate 3 refine np q3 ?_
    refine s_py q3 ?_
    refine aops_nil ?_
    show ∃ _x : Bool, _ = _ ∧ Weak _ _
    exact ⟨true, Option.some.inj j3, wk⟩
  replace j3 := Md.cond_f j3 q3
  refine y_mv q3 ?_
  obtain ⟨g21, j3⟩ := Md.ifp_s j3
  refine aops_yes rfl rfl rfl rfl q3 (st_index_str rfl rfl rfl g21 rfl) (y_cm q3 ?_)
  refine s_pn q3 ?_
  refine aops_nil ?_
  show ∃ _x : Bool, _ = _ ∧ Weak _ _
  exact ⟨((((a0.getD 1 0)).toNat : Int) == 92), Option.some.inj j3, wk⟩
set_option maxHeartbeats 2000000 in
theorem console_Unquote_fn (k : Nat) (a0 : List UInt8) (r : (List UInt8) × Int × Int) (h : console_Unquote k a0 = some r) : FnC Tryd.prog 23 [.one (.val (Sv a0))] [] (Det (.tup [.one (.val (Sv r.1)), vI r.2.1, vI r.2.2]) []) := by
  unfold console_Unquote at h
  refine fn_intro' 60 Tryd.func23 rfl rfl rfl (aw_seq (aw_region ?_))
  iterate 3 refine s_sa ?_
  refine aops_nil (aw_seq (aw_seq (aw_region (s_mv ?_))))
  refine aops_step1 rfl (st_str_eq rfl rfl rfl) (aops_nil ?_)
  refine aw_cond rfl (fun c1 => ?_) (fun c1 => ?_)
  · replace h := Md.cond_t h c1
    refine aw_seq (aw_region ?_)
    iterate 3 refine s_sa ?_
    refine aops_nil ?_
    cases Option.some.inj h
    exact aw_ret ⟨rfl, rv (rn (.cons o1 (.cons o1 (.cons o1 .nil))))⟩
  replace h := Md.cond_f h c1
  refine aw_skip (aw_seq (aw_seq (aw_region (s_mv ?_))))
  obtain ⟨g2, h⟩ := Md.ifp_s h
  refine aops_step1 rfl (st_index_str rfl rfl rfl g2 rfl) (s_cm ?_)
  refine aops_nil ?_
  refine aw_cond rfl (fun c3 => ?_) (fun c3 => ?_)
  · replace h := Md.cond_t h c3
    refine aw_seq (aw_region ?_)
    iterate 3 refine s_sa ?_
    refine aops_nil ?_
    cases Option.some.inj h
    exact aw_ret ⟨rfl, rv (rn (.cons o1 (.cons o1 (.cons o1 .nil))))⟩
  replace h := Md.cond_f h c3
  refine aw_skip (aw_seq (aw_region (s_sa ?_)))
  refine aops_nil (aw_seq (aw_seq (aw_region (s_sa ?_))))
  refine aops_nil (aw_block (aw_own_nil 5 0 5 1 (lsEl byC []) rfl rfl ?_))
  obtain ⟨o4, ho4, h⟩ := Md.bind_s h
  refine aw_loop_x (ι := {p : Nat × Int × (List UInt8) // console_Unquote_loop1 k a0 p.1 p.2.1 p.2.2 = some o4}) (fun p => (⟨60, [], [(0, .one (.val (Sv a0))), (5, .one (.own 0)), (6, vI p.1.2.1)], [(0, some (.row 5 1 p.1.2.2.length (lsEl byC p.1.2.2)))]⟩ : ASt)) (fun p => p.1.1) ⟨(k, 1, ([] : List UInt8)), ho4⟩ wk 0 (ε := Unit) (fun x => (⟨60, [], [], []⟩ : ASt)) (fun x => Sum.inl x = o4) (fun _ _ w h => aw_weak w h) ?_ ?_
  · intro x4_0 hI4
    subst hI4
    replace h := Md.onS_l h
    change AW _ _ (⟨60, [], [], []⟩ : ASt) _
    refine aw_seq (aw_region ?_)
    iterate 3 refine s_sa ?_
    refine aops_nil ?_
    cases Option.some.inj h
    exact aw_ret ⟨rfl, rv (rn (.cons o1 (.cons o1 (.cons o1 .nil))))⟩
  intro p4
  obtain ⟨⟨n4, s4_0, s4_1⟩, l4⟩ := p4
  change AW _ _ (⟨60, [], [(0, .one (.val (Sv a0))), (5, .one (.own 0)), (6, vI s4_0)], [(0, some (.row 5 1 s4_1.length (lsEl byC s4_1)))]⟩ : ASt) _
  replace l4 : console_Unquote_loop1 k a0 n4 s4_0 s4_1 = some o4 := l4
  rcases n4 with _ | n4
  · exact absurd (show none = some o4 from l4) nofun
  rw [console_Unquote_loop1] at l4
  refine aw_seq (aw_seq (aw_region ?_))
  iterate 2 refine s_mv ?_
  refine aops_step1 rfl (st_len_str rfl rfl) (s_cm ?_)
  refine aops_nil ?_
  refine aw_cond rfl (fun c5 => ?_) (fun c5 => ?_)
  · replace l4 := Md.cond_t l4 c5
    refine aw_skip (aw_block (aw_seq (aw_region ?_)))
    iterate 2 refine s_mv ?_
    obtain ⟨g6, l4⟩ := Md.ifp_s l4
    refine aops_step1 rfl (st_index_str rfl rfl (Md.idx_eq g6) (Md.idx_lt g6) rfl) (s_sa ?_)
    refine aops_nil (aw_block (aw_seq (aw_region (s_mv ?_))))
    refine s_cm ?_
    refine s_sa ?_
    refine aops_nil ?_
    refine aw_cond rfl (fun c7 => ?_) (fun c7 => ?_)
    · replace l4 := Md.cond_t l4 c7
      refine aw_seq (aw_region (s_mv ?_))
      refine aops_step1 rfl (ev_str_bytes (.inr ⟨_, _, rfl, rfl⟩) Tryd.underlying42 Tryd.underlying5 Tryd.underlying9 rfl) (s_mv ?_)
      refine aops_step1 rfl (ev_add rfl rfl rfl (Md.wrap_W _)) ?_
      iterate 3 refine s_sa ?_
      refine aops_nil ?_
      cases Option.some.inj l4
      replace h := Md.onS_r h
      cases Option.some.inj h
      exact aw_ret ⟨rfl, rv (rn (.cons o1 (.cons o1 (.cons o1 .nil))))⟩
    replace l4 := Md.cond_f l4 c7
    refine aw_seq (aw_region (s_mv ?_))
    refine s_cm ?_
    refine s_sa ?_
    refine aops_nil ?_
    refine aw_cond rfl (fun c8 => ?_) (fun c8 => ?_)
    · replace l4 := Md.cond_t l4 c8
      refine aw_seq (aw_region ?_)
      iterate 2 refine s_mv ?_
      obtain ⟨g9, l4⟩ := Md.ifp_s l4
      obtain ⟨g10, l4⟩ := Md.ifp_s l4
      refine aops_step1 rfl (st_cut_lo_s rfl ⟨_, _, rfl, (Md.nn_eq g9)⟩ g10 rfl) ?_
      obtain ⟨x11, hx11, l4⟩ := Md.bind_s l4
      refine aops_step1 rfl (ev_call_v (console_escape_fn k (a0.drop ((s4_0).toNat)) x11 hx11) rfl [] ai rfl rfl rfl (.inl rfl) rfl) (s_mt ?_)
      iterate 3 refine s_ex ?_
      iterate 3 refine s_sa ?_
      refine aops_nil (aw_seq (aw_seq (aw_region (s_mv ?_))))
      refine s_cm ?_
      refine aops_nil ?_
      refine aw_cond rfl (fun c12 => ?_) (fun c12 => ?_)
      · replace l4 := Md.cond_t l4 c12
        refine aw_seq (aw_region (s_mv ?_))
        iterate 3 refine s_sa ?_
        refine aops_nil ?_
        cases Option.some.inj l4
        replace h := Md.onS_r h
        cases Option.some.inj h
        exact aw_ret ⟨rfl, rv (rn (.cons o1 (.cons o1 (.cons o1 .nil))))⟩
      replace l4 := Md.cond_f l4 c12
      refine aw_skip (aw_region ?_)
      iterate 2 refine s_mv ?_
      refine aops_step1 rfl (st_slice_lit (el := lsEl byC [x11.1]) 1 rfl rfl rfl rfl rfl rfl rfl rfl (lit_el byC 1 [x11.1] (fun _ => rfl)) rfl) ?_
      obtain ⟨g13, l4⟩ := Md.ifp_s l4
      refine aops_step1 rfl (st_app_ls (f := byC) s4_1 [x11.1] (fun _ => rfl) rfl rfl (.inr ⟨_, _, rfl, rfl⟩) (by omega) (by omega) rfl) ?_
      iterate 2 refine s_mv ?_
      refine aops_step1 rfl (ev_add rfl rfl rfl (Md.wrap_W _)) ?_
      iterate 2 refine s_sa ?_
      refine aops_nil ?_
      exact ⟨⟨(n4, (Md.W (s4_0 + x11.2.1)), (s4_1 ++ [x11.1])), l4⟩, Nat.lt_succ_self _, wk⟩
    replace l4 := Md.cond_f l4 c8
    refine aw_seq (aw_region (s_mv ?_))
    obtain ⟨x14, hx14, l4⟩ := Md.bind_s l4
    refine aops_step1 rfl (ev_call_v (console_plain_fn k (a0.getD ((s4_0).toNat) 0) x14 hx14) rfl [] ai rfl rfl rfl (.inl rfl) rfl) (s_sa ?_)
    refine aops_nil ?_
    refine aw_cond rfl (fun c15 => ?_) (fun c15 => ?_)
    · replace l4 := Md.cond_t l4 c15
      refine aw_region ?_
      iterate 2 refine s_mv ?_
      refine aops_step1 rfl (st_slice_lit (el := lsEl byC [(a0.getD ((s4_0).toNat) 0)]) 1 rfl rfl rfl rfl rfl rfl rfl rfl (lit_el byC 1 [(a0.getD ((s4_0).toNat) 0)] (fun _ => rfl)) rfl) ?_
      obtain ⟨g16, l4⟩ := Md.ifp_s l4
      refine aops_step1 rfl (st_app_ls (f := byC) s4_1 [(a0.getD ((s4_0).toNat) 0)] (fun _ => rfl) rfl rfl (.inr ⟨_, _, rfl, rfl⟩) (by omega) (by omega) rfl) (s_mv ?_)
      refine aops_step1 rfl (ev_add rfl rfl rfl (Md.wrap_W _)) ?_
      iterate 2 refine s_sa ?_
      refine aops_nil ?_
      exact ⟨⟨(n4, (Md.W (s4_0 + 1)), (s4_1 ++ [(a0.getD ((s4_0).toNat) 0)])), l4⟩, Nat.lt_succ_self _, wk⟩
    replace l4 := Md.cond_f l4 c15
    refine aw_seq (aw_region ?_)
    iterate 3 refine s_sa ?_
    refine aops_nil ?_
    cases Option.some.inj l4
    replace h := Md.onS_r h
    cases Option.some.inj h
    exact aw_ret ⟨rfl, rv (rn (.cons o1 (.cons o1 (.cons o1 .nil))))⟩
  replace l4 := Md.cond_f l4 c5
  refine aw_exit ?_
  show ∃ _x : Unit, _ = _ ∧ Weak _ _
  exact ⟨(), Option.some.inj l4, wk⟩
set_option maxHeartbeats 2000000 in
theorem console_number_fn (k : Nat) (a0 : List UInt8) (r : Int × Bool) (h : console_number k a0 = some r) : FnC Tryd.prog 62 [.one (.val (Sv a0))] [] (Det (.tup [vI r.1, vB r.2]) []) := by
  unfold console_number at h
  refine fn_intro' 48 Tryd.func62 rfl rfl rfl (aw_seq (aw_region ?_))
  iterate 2 refine s_sa ?_
  refine aops_nil (aw_seq (aw_seq (aw_region (s_mv ?_))))
  refine aops_step1 rfl (st_str_eq rfl rfl rfl) (s_mv ?_)
  refine aops_mid 4 (⟨48, [], [(0, .one (.val (Sv a0))), (12, vB ((decide (a0 = ([] : List UInt8))) || (decide (((a0.length : Nat) : Int) > 15))))], []⟩ : ASt) ?_ ?_
  · rcases Md.bool_or ((decide (a0 = ([] : List UInt8)))) with q1 | q1
    · skip
      iterate 3 refine np q1 ?_
      refine s_py q1 ?_
      refine aops_nil ?_
      exact wq q1
    refine y_mv q1 ?_
    refine aops_yes rfl rfl rfl rfl q1 (st_len_str rfl rfl) (y_cm q1 ?_)
    refine s_pn q1 ?_
    refine aops_nil ?_
    exact wq q1
  refine s_mv ?_
  obtain ⟨o2, j2, h⟩ := Md.bind_s h
  refine aops_cut 9 (ε := Bool) (fun x2 => (⟨48, [], [(0, .one (.val (Sv a0))), (22, vB x2)], []⟩ : ASt)) (fun x2 => x2 = o2) ?_ ?_
  · intro x2 hI2
    subst hI2
    change AOps _ _ _ (⟨48, [], [(0, .one (.val (Sv a0))), (22, vB x2)], []⟩ : ASt) _
    refine aops_nil ?_
    refine aw_cond rfl (fun c3 => ?_) (fun c3 => ?_)
    · replace h := Md.cond_t h c3
      refine aw_seq (aw_region ?_)
      iterate 2 refine s_sa ?_
      refine aops_nil ?_
      cases Option.some.inj h
      exact aw_ret ⟨rfl, rv (rn (.cons o1 (.cons o1 .nil)))⟩
    replace h := Md.cond_f h c3
    refine aw_skip (aw_seq (aw_region (s_sa ?_)))
    refine aops_nil (aw_seq (aw_seq (aw_region (s_mv ?_))))
    refine aops_step1 rfl (st_len_str rfl rfl) (s_mv ?_)
    refine aops_nil (aw_block ?_)
    obtain ⟨o4, ho4, h⟩ := Md.bind_s h
    refine aw_loop_x (ι := {p : Nat × Nat × Nat // console_number_loop1 k a0 p.1 p.2.1 p.2.2 = some o4}) (fun p => (⟨48, [], [(0, .one (.val (Sv a0))), (4, vI ((p.1.2.1 : Nat) : Int)), (24, vI ((a0.length : Nat) : Int)), (25, vI ((p.1.2.2 : Nat) : Int))], []⟩ : ASt)) (fun p => p.1.1) ⟨(k, 0, 0), ho4⟩ wk 0 (ε := Nat) (fun x => (⟨48, [], [(4, vI ((x : Nat) : Int))], []⟩ : ASt)) (fun x => Sum.inl x = o4) (fun _ _ w h => aw_weak w h) ?_ ?_
    · intro x4_0 hI4
      subst hI4
      replace h := Md.onS_l h
      change AW _ _ (⟨48, [], [(4, vI ((x4_0 : Nat) : Int))], []⟩ : ASt) _
      refine aw_seq (aw_region (s_mv ?_))
      iterate 2 refine s_sa ?_
      refine aops_nil ?_
      cases Option.some.inj h
      exact aw_ret ⟨rfl, rv (rn (.cons o1 (.cons o1 .nil)))⟩
    intro p4
    obtain ⟨⟨n4, s4_0, s4_1⟩, l4⟩ := p4
    change AW _ _ (⟨48, [], [(0, .one (.val (Sv a0))), (4, vI ((s4_0 : Nat) : Int)), (24, vI ((a0.length : Nat) : Int)), (25, vI ((s4_1 : Nat) : Int))], []⟩ : ASt) _
    replace l4 : console_number_loop1 k a0 n4 s4_0 s4_1 = some o4 := l4
    rcases n4 with _ | n4
    · exact absurd (show none = some o4 from l4) nofun
    rw [console_number_loop1] at l4
    refine aw_seq (aw_region (s_cm ?_))
    refine aops_nil (aw_seq ?_)
    refine aw_cond rfl (fun c5 => ?_) (fun c5 => ?_)
    · replace l4 := Md.cond_t l4 c5
      refine aw_skip (aw_seq (aw_block (aw_seq (aw_region (s_mv ?_)))))
      refine s_sa ?_
      refine aops_nil (aw_seq (aw_seq (aw_region ?_)))
      iterate 2 refine s_mv ?_
      obtain ⟨g6, l4⟩ := Md.ifp_s l4
      refine aops_step1 rfl (st_index_str rfl rfl rfl g6 rfl) (s_cm ?_)
      refine s_mv ?_
      obtain ⟨o7, j7, l4⟩ := Md.bind_s l4
      refine aops_cut 5 (ε := Bool) (fun x7 => (⟨48, [], [(0, .one (.val (Sv a0))), (4, vI ((s4_0 : Nat) : Int)), (5, vI ((s4_1 : Nat) : Int)), (24, vI ((a0.length : Nat) : Int)), (25, vI ((s4_1 : Nat) : Int)), (37, vB x7)], []⟩ : ASt)) (fun x7 => x7 = o7) ?_ ?_
      · intro x7 hI7
        subst hI7
        change AOps _ _ _ (⟨48, [], [(0, .one (.val (Sv a0))), (4, vI ((s4_0 : Nat) : Int)), (5, vI ((s4_1 : Nat) : Int)), (24, vI ((a0.length : Nat) : Int)), (25, vI ((s4_1 : Nat) : Int)), (37, vB x7)], []⟩ : ASt) _
        refine aops_nil ?_
        refine aw_cond rfl (fun c8 => ?_) (fun c8 => ?_)
        · replace l4 := Md.cond_t l4 c8
          refine aw_seq (aw_region ?_)
          iterate 2 refine s_sa ?_
          refine aops_nil ?_
          cases Option.some.inj l4
          replace h := Md.onS_r h
          cases Option.some.inj h
          exact aw_ret ⟨rfl, rv (rn (.cons o1 (.cons o1 .nil)))⟩
        replace l4 := Md.cond_f l4 c8
        refine aw_skip (aw_region (s_mv ?_))
        obtain ⟨g9, l4⟩ := Md.ifp_s l4
        refine aops_step1 rfl (ev_mul rfl rfl rfl (Md.nat_mul g9)) ?_
        iterate 2 refine s_mv ?_
        obtain ⟨g10, l4⟩ := Md.ifp_s l4
        refine aops_step1 rfl (st_index_str rfl rfl rfl g10 rfl) (aops_step1 rfl (ev_sub rfl rfl rfl (Md.sub_u8 (a0.getD s4_1 0) (48 : UInt8))) ?_)
        refine aops_step1 rfl (st_conv_int rfl rfl Tryd.underlying5 Tryd.underlying3 (Md.conv_u8_i64 ((a0.getD s4_1 0) - (48 : UInt8)))) ?_
        obtain ⟨g11, l4⟩ := Md.ifp_s l4
        refine aops_step1 rfl (ev_add rfl rfl rfl (Md.nat_add g11)) (s_sa ?_)
        refine aops_nil (aw_region ?_)
        obtain ⟨g12, l4⟩ := Md.ifp_s l4
        refine aops_step1 rfl (ev_add rfl rfl rfl (Md.nat_add g12)) (s_mv ?_)
        refine aops_nil ?_
        exact ⟨⟨(n4, ((10 * s4_0) + (((a0.getD s4_1 0) - (48 : UInt8)).toNat)), (s4_1 + 1)), l4⟩, Nat.lt_succ_self _, wk⟩
      rcases Md.bool_or ((decide ((((a0.getD s4_1 0)).toNat : Int) < 48))) with q7 | q7
      · replace j7 := Md.cond_t j7 q7
        iterate 4 refine np q7 ?_
        refine s_py q7 ?_
        refine aops_nil ?_
        show ∃ _x : Bool, _ = _ ∧ Weak _ _
        exact ⟨true, Option.some.inj j7, wk⟩
      replace j7 := Md.cond_f j7 q7
      iterate 2 refine y_mv q7 ?_
      obtain ⟨g13, j7⟩ := Md.ifp_s j7
      refine aops_yes rfl rfl rfl rfl q7 (st_index_str rfl rfl rfl g13 rfl) (y_cm q7 ?_)
      refine s_pn q7 ?_
      refine aops_nil ?_
      show ∃ _x : Bool, _ = _ ∧ Weak _ _
      exact ⟨(decide ((((a0.getD s4_1 0)).toNat : Int) > 57)), Option.some.inj j7, wk⟩
    replace l4 := Md.cond_f l4 c5
    refine aw_exit ?_
    show ∃ _x : Nat, _ = _ ∧ Weak _ _
    exact ⟨s4_0, Option.some.inj l4, wk⟩
  rcases Md.bool_or (((decide (a0 = ([] : List UInt8))) || (decide (((a0.length : Nat) : Int) > 15)))) with q2 | q2
  · replace j2 := Md.cond_t j2 q2
    iterate 4 refine np q2 ?_
    iterate 3 refine aops_und rfl rfl rfl rfl rfl ?_
    refine np q2 ?_
    refine s_py q2 ?_
    refine aops_nil ?_
    show ∃ _x : Bool, _ = _ ∧ Weak _ _
    exact ⟨true, Option.some.inj j2, wk⟩
  replace j2 := Md.cond_f j2 q2
  refine y_mv q2 ?_
  obtain ⟨g14, j2⟩ := Md.ifp_s j2
  refine aops_yes rfl rfl rfl rfl q2 (st_index_str rfl rfl rfl g14 rfl) (y_cm q2 ?_)
  refine y_mv q2 ?_
  refine aops_mid 4 (⟨48, [], [(0, .one (.val (Sv a0))), (13, vB ((decide (a0 = ([] : List UInt8))) || (decide (((a0.length : Nat) : Int) > 15)))), (21, vB (((((a0.getD 0 0)).toNat : Int) == 48) && (decide (((a0.length : Nat) : Int) > 1))))], []⟩ : ASt) ?_ ?_
  · rcases Md.bool_or (((((a0.getD 0 0)).toNat : Int) == 48)) with q15 | q15
    · skip
      refine y_mv q15 ?_
      refine aops_yes rfl rfl rfl rfl q15 (st_len_str rfl rfl) (y_cm q15 ?_)
      refine aops_yes rfl rfl rfl rfl q2 (st_pick_yes rfl (by first | rfl | exact q15) rfl rfl) (aops_nil ?_)
      exact wq q15
    iterate 3 refine np q15 ?_
    refine aops_yes rfl rfl rfl rfl q2 (st_pick_no rfl (by first | rfl | exact q15) rfl rfl) (aops_nil ?_)
    exact wq q15
  refine s_pn q2 ?_
  refine aops_nil ?_
  show ∃ _x : Bool, _ = _ ∧ Weak _ _
  exact ⟨(((((a0.getD 0 0)).toNat : Int) == 48) && (decide (((a0.length : Nat) : Int) > 1))), Option.some.inj j2, wk⟩
end Md
end Go.Proofs.YtjpiiejdaiaocaaDoor
