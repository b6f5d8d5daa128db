/-
  journal.Walk: the closure that it returns, and the rounds that the closure asks for. Condition: the model gives a list.
-/
import Derived.Test.YtkcfkcgclljncaaJourWM
import Derived.Test.YtkcfkcgclljncaaWireJ
import Derived.Test.YtkcfkcgclljncaaAbsRa
namespace Go.Proofs.Ytkcfkcgclljncaa
open Go.ChangeShapes Go.WideShapes Go.RowKit
open Abs
set_option linter.unusedVariables false
set_option linter.unusedSimpArgs false
set_option maxRecDepth 10000
namespace Md
theorem tmps2_of {F : Fence} {n : Nat} {P : Program} {c : Code} {Q : Exit → Act → World → Prop} {w : World} {fnt : Nat} {y u : Value} (h2 : 2 ≤ fnt) (h : ∀ tm : Array Value, tm.size = fnt → tm.getD 0 undef = y → tm.getD 1 undef = u → c.wpIn F n P Q { tmps := tm, defers := [] } w) :
    c.wpIn F n P Q { tmps := (#[y] ++ #[u]) ++ Array.replicate (fnt - ((#[y] ++ #[u]) : Array Value).size) undef, defers := [] } w := by
  refine h _ ?_ ?_ ?_
  · simp; omega
  · simp [Array.getD]
  · simp [Array.getD]; intro h; omega
theorem results0 {P : Program} {fn : Func} (h : fn.results = #[]) (tmps : Array Value) (w : World) : (results fn tmps).run P w = .ok (.tuple #[]) w := by
  simp [results, h]
theorem journal_Walk_fn (a0 : List UInt8) : FnC Try.prog 41 [.one (CV.ls byC a0)] [] (Det (.one (.fn 68 [.cptr [CV.ls byC a0]])) []) := by
  refine fn_intro' 4 Try.func41 rfl rfl rfl ?_
  refine aw_seq ?_
  refine aw_region ?_
  refine aops_step1 rfl (st_box 0 rfl rfl rfl rfl) ?_
  refine aops_step1 rfl (st_assign rfl rfl) ?_
  refine aops_nil ?_
  refine aw_seq ?_
  refine aw_region ?_
  refine aops_step1 rfl (ev_makeFunc [.ptr 0 0] rfl rfl rfl) ?_
  refine aops_step1 rfl (st_assign rfl rfl) ?_
  refine aops_nil ?_
  refine aw_closure 2 0 rfl rfl rfl rfl ?_
  refine aw_ret ⟨rfl, ret_v (.inl ⟨_, rfl, rfl, fun _ e => nomatch e⟩) rfl rfl rfl ?_⟩
  (repeat' (first | exact .refl _ | exact .nil | refine .tup ?_ | refine .v ?_ | refine .cons ?_ ?_ | refine .agg ?_ | refine .one ?_ | exact .nil _ | exact .emp _ | refine .val ?_ | refine .slc ?_ ?_ | fail))
theorem journal_Walk_1_it (k : Nat) (a0 : List UInt8) (xs : List (Int × JournalRecord)) (h : journal_Walk_1 k a0 = some xs) :
    IterC Try.prog 68 [.cptr [CV.ls byC a0]] (xs.map fun x => [.one (.val (.int .i64 x.1)), .agg [.val (.int .i64 x.2.Kind), CV.ls byC x.2.Body]]) := by
  intro ι H R X U T w0 kp l rec Z hU hl hZl hZ hlen round i w hv lb hR ok hz hcap
  have hZ' : Others Z := hZ
  obtain ⟨u, rfl⟩ : ∃ u, lb = #[u] := by
    obtain ⟨lb⟩ := lb
    cases hcap with
    | cons h1 h2 => cases h2; exact ⟨_, rfl⟩
  cases hcap with
  | cons hu _ =>
  refine callsIn_of_wp Try.func68 rfl trivial ?_
  refine tmps2_of (fnt := 31) (by decide) fun tm h0 h1 h2 => ?_
  have okS : Ok U T w0 ⟨31, kp, [(0, .one (.val (.func (.yield l) #[] #[]))), (1, .one (.cptr [CV.ls byC a0]))], H i⟩ { tmps := tm, defers := [] } w hv := by
    refine ⟨⟨h0, rfl, fun t => ?_, ok.m.hm⟩, ok.fr, ok.own, ok.box⟩
    show RepV _ _ _ _ (get _ t) (tm.getD t undef)
    rw [get_cons]
    by_cases e0 : 0 = t
    · subst e0; rw [if_pos rfl, h1]; exact RepC.val _ rfl
    · rw [if_neg e0, get_cons]
      by_cases e1 : 1 = t
      · subst e1; rw [if_pos rfl, h2]; exact hu
      · rw [if_neg e1]; exact trivial
  refine wpIn_mono (Q := fun e a' w' => (e = .normal ∨ e = .ret) ∧ a'.defers = [] ∧ ((∃ i' hv', R (xs.map fun x : Int × JournalRecord => [AV.one (.val (.int .i64 x.1)), AV.agg [.val (.int .i64 x.2.Kind), CV.ls byC x.2.Body]]).length i' ∧ Ok U T w0 ⟨0, kp, [], H i'⟩ naked w' hv' ∧ Z w') ∨ X w')) ?_ ?post
  case post =>
    rintro e a' w' ⟨he, hd, hr⟩
    rcases he with rfl | rfl <;> exact ⟨hd, _, results0 rfl _ _, _, rfl, hr⟩
  refine wpIn_seq ?_
  refine region_z (Q := fun e s' => e = .normal ∧ Less s' ⟨31, kp, [(0, .one (.val (.func (.yield l) #[] #[]))), (1, .one (.cptr [CV.ls byC a0])), (3, .one (.val (.int .i64 0)))], H i⟩) hZ' ?_ rfl okS hz ?_
  · refine aops_step1 rfl (st_assign rfl rfl) ?_
    exact aops_nil ⟨rfl, rfl, rfl, rfl, by repeat' (first | exact trivial | exact ⟨rfl, trivial⟩ | refine ⟨rfl, ?_⟩)⟩
  rintro e s1 a1 w1 hv1 _ ⟨rfl, hw1⟩ ok1 hz1
  refine wpIn_block ?_
  refine wp_loop_ind (fun (q : Nat × Int × Nat) a w => (journal_Walk_1_loop k a0 q.1 q.2.1 = some (xs.drop q.2.2) ∧ q.2.2 ≤ xs.length) ∧ ∃ i hv, R q.2.2 i ∧ Ok U T w0 ⟨31, kp, [(0, .one (.val (.func (.yield l) #[] #[]))), (1, .one (.cptr [CV.ls byC a0])), (3, .one (.val (.int .i64 q.2.1)))], H i⟩ a w hv ∧ Z w) (fun q => q.1) (k, 0, 0)
    ⟨⟨h, Nat.zero_le _⟩, i, hv1, hR, hw1.ok ok1, hz1⟩ ?_
  rintro ⟨n, p, j⟩ a2 w2 ⟨⟨hloop, hjl⟩, i2, hv2, hR2, ok2, hz2⟩
  cases n with
  | zero => exact absurd (show none = some _ from hloop) nofun
  | succ n =>
  have hjl : j ≤ xs.length := hjl
  have h : journal_Walk_1_loop k a0 (n + 1) p = some (xs.drop j) := hloop
  clear hloop
  rw [journal_Walk_1_loop] at h
  obtain ⟨g1, h⟩ := Md.ifp_s h
  obtain ⟨g2, h⟩ := Md.ifp_s h
  obtain ⟨x3, hx3, h⟩ := Md.bind_s h
  refine wpIn_block ?_
  refine wpIn_seq ?_
  refine region_z (Q := fun e s' => e = .normal ∧ Less s' ⟨31, kp, [(0, .one (.val (.func (.yield l) #[] #[]))), (1, .one (.cptr [CV.ls byC a0])), (3, .one (.val (.int .i64 p))), (4, .one (.val (.int .i64 x3.1))), (5, .one (CV.ls byC x3.2.1)), (6, .one (.val (.int .i64 x3.2.2.1))), (7, .one (.val (.int .i64 x3.2.2.2)))], H i2⟩) hZ' ?_ rfl ok2 hz2 ?_
  · refine aops_step1 rfl (ev_load_in rfl rfl rfl) ?_
    refine aops_step1 rfl (st_move rfl rfl) ?_
    refine aops_step1 rfl (st_cut_lo (f := byC) (fun _ => rfl) rfl ⟨_, _, rfl, (Md.nn_eq g1)⟩ g2 rfl) ?_
    refine aops_step1 rfl (ev_call_v (wire_Open_fn k (a0.drop ((p).toNat)) x3 hx3) rfl [] (by repeat' (first | exact .nil | refine .cons ?_ ?_ | refine .one ?_ | refine .agg ?_ | exact .mk rfl | exact .lend rfl (by simp) | exact .le (.nil _) rfl | exact .le (.emp _) rfl | exact .le (.any _) rfl | fail)) rfl rfl rfl (.inl rfl) rfl) ?_
    refine aops_step1 rfl (st_movet rfl rfl) ?_
    refine aops_step1 rfl (ev_extract rfl rfl rfl) ?_
    refine aops_step1 rfl (ev_extract rfl rfl rfl) ?_
    refine aops_step1 rfl (ev_extract rfl rfl rfl) ?_
    refine aops_step1 rfl (ev_extract rfl rfl rfl) ?_
    refine aops_step1 rfl (st_assign rfl rfl) ?_
    refine aops_step1 rfl (st_assign rfl rfl) ?_
    refine aops_step1 rfl (st_assign rfl rfl) ?_
    refine aops_step1 rfl (st_assign rfl rfl) ?_
    exact aops_nil ⟨rfl, rfl, rfl, rfl, by repeat' (first | exact trivial | exact ⟨rfl, trivial⟩ | refine ⟨rfl, ?_⟩)⟩
  rintro e s3 a3 w3 hv3 _ ⟨rfl, hw3⟩ ok3' hz3
  have ok3 := hw3.ok ok3'
  clear ok3' hw3
  refine wpIn_seq ?_
  refine wpIn_seq ?_
  refine wpIn_region_lit ?_
  cases hb : (x3.2.2.2 != 0) with
  | true =>
    rw [hb] at h
    have hnil : xs.drop j = [] := (Option.some.inj h).symm
    refine (?_ : IL _ U T w0 Z _ _ _ _) _ _ _ ok3 hz3
    refine il_step hZ' rfl rfl (st_move rfl rfl) ?_
    refine il_step hZ' rfl rfl (ev_cmp rfl rfl rfl (congrArg some hb)) ?_
    refine il_step hZ' rfl rfl (st_move rfl rfl) ?_
    iterate 7 refine il_no (j := 2) (t := 19) rfl rfl rfl rfl rfl rfl ?_
    refine il_step hZ' rfl rfl (st_pick_yes rfl rfl rfl rfl) ?_
    intro a4 w4 hv4 ok4 hz4
    refine wpIn_cond_split (t := true) (rep_val (ok4.m.ev (.tmp 27))) (fun _ => wpIn_ret ?_) (fun e => by cases e)
    refine ⟨.inr rfl, ok4.m.defers, .inl ⟨i2, hv4, ?_, ok4.nude, hz4⟩⟩
    have hj : j = xs.length := by
      have := congrArg List.length hnil
      simp at this
      omega
    rw [List.length_map, ← hj]
    exact hR2
  | false =>
    rw [hb] at h
    obtain ⟨r, hr, h⟩ := Md.bind_s h
    have hcons := Option.some.inj h
    refine (?_ : IL _ U T w0 Z _ _ _ _) _ _ _ ok3 hz3
    refine il_step hZ' rfl rfl (st_move rfl rfl) ?_
    refine il_step hZ' rfl rfl (ev_cmp rfl rfl rfl (congrArg some hb)) ?_
    refine il_step hZ' rfl rfl (st_move rfl rfl) ?_
    iterate 4 refine il_yes hZ' (j := 2) (t := 19) (b := false) rfl rfl rfl rfl rfl rfl (st_move rfl rfl) ?_
    refine il_yes hZ' (j := 2) (t := 19) (b := false) rfl rfl rfl rfl rfl rfl (ev_build' (out := [_, _]) rfl rfl rfl rfl rfl) ?_
    refine il_at 2 19 (b := false) rfl rfl rfl rfl fun a4 w4 hv4 ok4 hz4 => ?_
    have hjlt : j < xs.length := by
      have := congrArg List.length hcons
      simp at this
      omega
    have hx : xs[j]? = some (p, ⟨x3.1, x3.2.1⟩) := by
      have := congrArg List.head? hcons
      rw [List.head?_drop] at this
      simpa using this.symm
    have hdrop : xs.drop (j + 1) = r := by
      have := congrArg List.tail hcons
      rw [List.tail_drop] at this
      simpa using this.symm
    have hy20 : a4.eval (.tmp 20) = .func (.yield l) #[] #[] := rep_val (ok4.m.ev (.tmp 20))
    have hrec := hZl w4 hz4
    have hps : rec.params.size = 2 := by
      have := hlen _ (List.mem_map.2 ⟨_, List.mem_of_getElem? hx, rfl⟩)
      exact this.symm
    refine ⟨fun _ _ => trivial, ?_⟩
    rw [Oper.semAt_eq _ _ _ (notDefer_ne rfl), run_call_yield hy20 hrec (by rw [hps]; rfl), Oper.uponIn_round]
    refine ⟨fun e => (by cases e), ?_⟩
    have hrd := round j _ i2 w4 hv4 #[a4.eval (.tmp 21), a4.eval (.tmp 24)] (by rw [List.getElem?_map, hx]; rfl) hR2 ok4.nude hz4 (.cons (ok4.m.ev (.tmp 21)) (.cons (ok4.m.ev (.tmp 24)) .nil))
    rw [show Array.map a4.eval #[Operand.tmp 21, Operand.tmp 24] = #[a4.eval (.tmp 21), a4.eval (.tmp 24)] from by simp]
    refine (show RoundIn (FR none) 0 _ l _ _ _ _ w4 _ from hrd).mono ?_
    have h19 := rep_val (ok4.m.ev (.tmp 19))
    have hsz : a4.tmps.size = 31 := ok4.m.nt
    have hdf := ok4.m.defers
    rintro e w5 (⟨rfl, hz5, i5, hv5, hR5, ok5⟩ | ⟨rfl, hX⟩)
    · -- the round says: on
      have ok6 := Ok.kept hU ok4 hl rfl ok5
      have ok7 := ok6.next (Fr.refl (fun _ => False) w5) (fun _ e => e.elim) (fun _ id _ => Pass.refl _ _ id) (fun id _ => Pass.refl _ _ id) ok6.m.hm (fun _ h _ => h) (d := some 25) (r := .one (.val (.bool true))) (v := .bool true) (RepC.val _ rfl) rfl
      refine (?_ : IL _ U T w0 Z _ _ _ _) _ _ _ ok7 hz5
      refine il_yes hZ' (j := 2) (t := 19) (b := false) rfl rfl rfl rfl rfl rfl (ev_not rfl rfl) ?_
      refine il_step hZ' rfl rfl (st_pick_no rfl rfl rfl rfl) ?_
      intro a8 w8 hv8 ok8 hz8
      refine wpIn_cond_split (t := false) (rep_val (ok8.m.ev (.tmp 27))) (fun e => by cases e) (fun _ => wpIn_skip ?_)
      refine region_z (Q := fun e s' => e = .normal ∧ Less s' ⟨31, kp, [(0, .one (.val (.func (.yield l) #[] #[]))), (1, .one (.cptr [CV.ls byC a0])), (3, .one (.val (.int .i64 (Md.W (p + x3.2.2.1)))))], H i5⟩) hZ' ?_ rfl ok8 hz8 ?_
      · refine aops_step1 rfl (st_move rfl rfl) ?_
        refine aops_step1 rfl (st_move rfl rfl) ?_
        refine aops_step1 rfl (ev_add rfl rfl rfl (Md.wrap_W _)) ?_
        refine aops_step1 rfl (st_assign rfl rfl) ?_
        exact aops_nil ⟨rfl, rfl, rfl, rfl, by repeat' (first | exact trivial | exact ⟨rfl, trivial⟩ | refine ⟨rfl, ?_⟩)⟩
      rintro e s9 a9 w9 hv9 _ ⟨rfl, hw9⟩ ok9 hz9
      exact ⟨(n, Md.W (p + x3.2.2.1), j + 1), Nat.lt_succ_self n, ⟨by rw [hdrop]; exact hr, hjlt⟩, i5, hv9, hR5, hw9.ok ok9, hz9⟩
    · -- the round says: no more
      have hra : RawAt 31 [(19, .bool false)] a4 := ⟨hsz, hdf, fun p hp => by
        rcases List.mem_singleton.1 hp with rfl
        have h19' : a4.tmps.getD 19 undef = .bool false := h19
        have hlt : 19 < a4.tmps.size := by omega
        simp only [Array.getD, hlt, dif_pos] at h19'
        rw [Array.getElem?_eq_getElem hlt]
        exact congrArg some h19'⟩
      refine (?_ : RL _ _ _ _ 31 [(25, .bool false), (19, .bool false)] w5) _ (hra.put (.bool false) (by decide) (by simp))
      refine rl_step (j := 2) (t := 19) (b := false) (v := .bool true) (.inr ⟨rfl, rfl, by simp⟩) rfl rfl (by decide) (by simp) (fun a ha => by simp [execOp, Op.unary, ha.eval (t := 25) (v := .bool false) (by simp)]) ?_
      refine rl_step (j := 0) (t := 0) (b := true) (v := .bool true) (.inl rfl) rfl rfl (by decide) (by simp) (fun a ha => by simp [execOp, asBool, ha.eval (t := 19) (v := .bool false) (by simp), ha.eval (t := 26) (v := .bool true) (by simp)]) ?_
      intro a9 h9
      exact wpIn_cond_split (t := true) (h9.eval (by simp)) (fun _ => wpIn_ret ⟨.inr rfl, h9.2.1, .inr hX⟩) (fun e => by cases e)
end Md
end Go.Proofs.Ytkcfkcgclljncaa
