import Derived.Test.YtclffekkjfhpdaaQPl
import Derived.Test.YtclffekkjfhpdaaQCodeQM
/-
  The law CodeDepths, plain. Conditions: lists of texts shorter than 2^63.
-/
namespace Go.Proofs.Ytclffekkjfhpdaa
set_option linter.unusedVariables false
set_option linter.unusedSimpArgs false
namespace Md
theorem aft30 {c : Code} {t : CodeType} {m : CodeMethod} {x : Instr} {s : List Int} (hx : okI c t m x = true) (h : x.Op = 30) (hc : ∀ T ∈ c.Types, ∀ M ∈ T.Methods, M.Params.length ≤ 20) (hf : (aftP c t m x s).2 = true) :
    (aftP c t m x s).1 = if ((c.Types.getD x.A.toNat default).Methods.getD x.B.toNat default).Result = 0 then [] else [((c.Types.getD x.A.toNat default).Methods.getD x.B.toNat default).Result] := by
  obtain ⟨_, _, _, _, r5, _⟩ := okI_rng hx
  obtain ⟨h1, h2⟩ := r5 h
  have ht : c.Types.getD x.A.toNat default ∈ c.Types := getD_mem (by omega)
  have hm := hc _ ht _ (getD_mem (l := (c.Types.getD x.A.toNat default).Methods) (i := x.B.toNat) (by omega))
  obtain ⟨l, hl, hl2, hl3⟩ := result_eq 0 ((c.Types.getD x.A.toNat default).Methods.getD x.B.toNat default)
  have he : effsP c t m x (s.getLast?.getD 0) = [⟨[3] ++ ((c.Types.getD x.A.toNat default).Methods.getD x.B.toNat default).Params, l⟩] := by
    unfold effsP bytecode_effects
    rw [h]
    show Option.getD (ifp _ _) _ = _
    rw [ifp_pos h1, ifp_pos h2, ifp_pos (by show 1 + _ ≤ _; omega), hl]
    rfl
  unfold aftP at *
  have hne : ¬ (s = [] ∧ (x.Op = 15 ∨ x.Op = 16 ∨ x.Op = 31)) := by omega
  rw [if_neg hne] at hf ⊢
  rw [he] at hf ⊢
  rw [applyO, applyO] at hf ⊢
  split at hf
  · cases hf
  · split at hf
    · cases hf
    · split at hf
      · cases hf
      · rename_i q1 q2 q3
        rw [if_neg q1, if_neg q2, if_neg q3]
        have h0 : s.length - ([3] ++ ((c.Types.getD x.A.toNat default).Methods.getD x.B.toNat default).Params).length = 0 := by
          rcases Nat.eq_zero_or_pos (s.length - ([3] ++ ((c.Types.getD x.A.toNat default).Methods.getD x.B.toNat default).Params).length) with e | e
          · exact e
          · exact absurd ⟨e, .inr h⟩ q3
        rw [h0]
        exact hl3
theorem depths_get (st : List St) (i : Nat) (h : i < st.length) : (depths st).getD i default = (((st.getD i default).stack.length : Nat) : Int) := by
  unfold depths
  simp [List.getD, h]
theorem depths_loop {c : Code} {a1 a2 : UInt8} {T : CodeType} {M : CodeMethod} {st : List St} (hT : c.Types.getD (a1.toNat % c.Types.length) default = T) (hM : T.Methods.getD (a2.toNat % T.Methods.length) default = M)
    (hC : Ctx c T M) (hF : FinS c T M st) (k : Nat) : ∀ n i, i ≤ (depths st).length → (depths st).length - i < n → actorgridlaw20_CodeDepths_loop1 k c a1 a2 (depths st) n i = some (.inl ()) := by
  have hl : (depths st).length = st.length := by simp [depths]
  have hsl := hF.inv.len
  have hcl := hC.len
  intro n
  induction n with
  | zero => intro i _ h; omega
  | succ n ih =>
    intro i h1 h2
    rw [actorgridlaw20_CodeDepths_loop1, hT, hM]
    by_cases h : i < (depths st).length
    · have hs := hF.inv.stk i
      rw [lt_t h, cond_true, ifp_pos h, depths_get st i (by omega), decide_eq_false (by omega), cond_false, ifp_pos h, bind_e rfl, decide_eq_false (by omega), cond_false]
      have hnext : ifp (i + 1 ≤ 9223372036854775807) (actorgridlaw20_CodeDepths_loop1 k c a1 a2 (depths st) n (i + 1)) = some (.inl ()) := by
        rw [ifp_pos (by omega)]; exact ih (i + 1) (by omega) (by omega)
      rcases Nat.eq_zero_or_pos i with e0 | e0
      · rw [decide_eq_false (by omega), cond_false, bind_e rfl, cond_false]
        exact hnext
      · have hW : W (((i : Nat) : Int) - 1) = ((i - 1 : Nat) : Int) := by rw [W_id (by omega) (by omega)]; omega
        rw [hW, decide_eq_true (by omega), cond_true, ifp_pos (by omega), bind_e rfl, Int.toNat_natCast]
        by_cases h30 : (M.Code.getD (i - 1) default).Op = 30
        · rw [beq_iff_eq.2 h30, cond_true]
          have hx := hC.ins (i - 1) (by omega)
          obtain ⟨_, _, _, _, r5, _⟩ := okI_rng hx
          obtain ⟨q1, q2⟩ := r5 h30
          have hd := hF.inv.done (i - 1) (by omega) (hF.all (i - 1) (by omega)) (by simp)
          have hsuc : ((i : Nat) : Int) ∈ (sucP M (i - 1)).1 := by
            unfold sucP
            simp only [h30]
            rw [if_neg (by omega), if_neg (by omega), if_neg (by omega), if_neg (by omega), List.mem_singleton]
            omega
          obtain ⟨_, d2, _⟩ := hd.to i hsuc
          rw [aft30 hx h30 hC.pars hd.fits] at d2
          rw [ifp_pos (by omega), ifp_pos q1, ifp_pos (by omega), ifp_pos q2, ifp_pos h, ifp_pos h, d2]
          by_cases hr : ((c.Types.getD (M.Code.getD (i - 1) default).A.toNat default).Methods.getD (M.Code.getD (i - 1) default).B.toNat default).Result = 0
          · rw [if_pos hr, hr]
            exact hnext
          · rw [if_neg hr, bne_iff_ne.2 hr]
            exact hnext
        · rw [beq_eq_false_iff_ne.2 h30, cond_false]
          exact hnext
    · rw [lt_f h]; rfl
theorem CodeDepths_law (c : Code) (a1 a2 : UInt8) (h : c.okl) : ∃ k, actorgridlaw20_CodeDepths k c a1 a2 = some true := by
  cases hs : cB c with
  | false =>
    refine ⟨9223372036854775900, ?_⟩
    unfold actorgridlaw20_CodeDepths
    rw [awake_big, bind_e rfl, Bool.not_true, cond_false, Small_eq _ c (by decide) (lenL_ok h), hs, bind_e rfl]
    rfl
  | true =>
    have hS := cB_sm hs
    refine ⟨K, ?_⟩
    unfold actorgridlaw20_CodeDepths
    rw [awake_K, bind_e rfl, Bool.not_true, cond_false, Small_eq _ c (by decide) (lenL_mono (lenL_sm hS) (by decide)), hs, bind_e rfl, Bool.not_true, cond_false, Verify_eq c hS, bind_e rfl, bind_e rfl]
    by_cases hv : verP c = 0
    · rw [hv, show ((0 : Int) != 0) = false from rfl, Bool.false_or]
      rcases Nat.eq_zero_or_pos c.Types.length with e | e
      · rw [e]; rfl
      · have hi : a1.toNat % c.Types.length < c.Types.length := Nat.mod_lt _ e
        rw [show (((c.Types.length : Nat) : Int) == 0) = false from by rw [beq_eq_false_iff_ne]; omega, cond_false, ifp_pos e, ifp_pos hi, ifp_pos hi]
        obtain ⟨T, hT⟩ : ∃ T, c.Types.getD (a1.toNat % c.Types.length) default = T := ⟨_, rfl⟩
        rw [hT]
        rcases Nat.eq_zero_or_pos T.Methods.length with e2 | e2
        · rw [e2]; rfl
        · have hj : a2.toNat % T.Methods.length < T.Methods.length := Nat.mod_lt _ e2
          rw [show (((T.Methods.length : Nat) : Int) == 0) = false from by rw [beq_eq_false_iff_ne]; omega, cond_false, ifp_pos e2, Depth_eq c hS hv _ _ hi (by rw [hT]; exact hj), bind_e rfl, ifp_pos hi, ifp_pos hj, hT]
          obtain ⟨M, hM⟩ : ∃ M, T.Methods.getD (a2.toNat % T.Methods.length) default = M := ⟨_, rfl⟩
          rw [hM]
          have htm : T ∈ c.Types := by rw [← hT]; exact getD_mem hi
          have hmm : M ∈ T.Methods := by rw [← hM]; exact getD_mem hj
          have hC := ctx_of hS (verP_zero hv).1 htm hmm
          have ha : (ana c T M).2 = true := by
            have := (verP_zero hv).2
            simp only [anaB, List.all_eq_true] at this
            exact this T htm M hmm
          have hF := (ana_eq hC).2 ha
          generalize (ana c T M).1 = st at hF
          have hsl := hF.inv.len
          have hl : (depths st).length = st.length := by simp [depths]
          have hp := hC.pos
          have hcl := hC.len
          rw [show ((((depths st).length : Nat) : Int) != ((M.Code.length : Nat) : Int)) = false from by rw [bne_eq_false_iff_eq]; omega, cond_false, ifp_pos (by omega), depths_get st 0 (by omega), hF.inv.zero.2, show ((((([] : List Int).length : Nat)) : Int) != 0) = false from rfl, cond_false]
          rw [depths_loop hT hM hC hF K K 0 (Nat.zero_le _) (by unfold K; omega), bind_e rfl]
          show ifp _ _ = _
          have hW : W (((M.Code.length : Nat) : Int) - 1) = ((M.Code.length - 1 : Nat) : Int) := by rw [W_id (by omega) (by omega)]; omega
          rw [hW, ifp_pos (by omega), Int.toNat_natCast]
          have hd := (hF.inv.done (M.Code.length - 1) (by omega) (hF.all _ (by omega)) (by simp)).goes
          congr 1
          unfold sucP at hd
          simp only at hd
          by_cases g1 : (M.Code.getD (M.Code.length - 1) default).Op = 32
          · rw [g1]; rfl
          by_cases g2 : (M.Code.getD (M.Code.length - 1) default).Op = 33
          · rw [g2]; rfl
          by_cases g3 : (M.Code.getD (M.Code.length - 1) default).Op = 28
          · rw [g3]; rfl
          rw [if_neg (by omega), if_neg g3, if_pos (by omega)] at hd
          cases hd
    · rw [show (verP c != 0) = true from bne_iff_ne.2 hv]
      rfl
end Md
end Go.Proofs.Ytclffekkjfhpdaa
