import Derived.Test.YtclffekkjfhpdaaQPl
import Derived.Test.YtclffekkjfhpdaaQCodePM
/-
  The law CodeNames, plain. Conditions: lists of texts shorter than 2^63.
-/
namespace Go.Proofs.Ytclffekkjfhpdaa
set_option linter.unusedVariables false
set_option linter.unusedSimpArgs false
namespace Md
theorem find_eq (k : Nat) (c : Code) (nm : List UInt8) (hk : 200 ≤ k) (hl : c.Types.length ≤ 20) : ∃ x, bytecode_FindType k c nm = some (x, c.Types.any fun t => decide (t.Name = nm)) := by
  have h := contains_eq c.Types (fun t => bytecode_FindType_1 k t nm) (fun t => decide (t.Name = nm)) (fun n i => slices_IndexFunc__api_CodeType_api_CodeType__bytecode_FindType_1_loop1 k c.Types nm n i) (fun n i => rfl) (fun x _ => rfl) (by omega) k (by omega)
  obtain ⟨v, h1, h2⟩ := bind_s h
  injection h2 with h2
  refine ⟨max v 0, ?_⟩
  have h1' : Option.bind (slices_IndexFunc__api_CodeType_api_CodeType__bytecode_FindType_1_loop1 k c.Types nm k 0) (fun o1 => Md.onS o1 (fun x1_0 => some (-1)) (fun r1 => some r1)) = some v := h1
  unfold bytecode_FindType bytecode_find__bytecode_FindType_1 slices_IndexFunc__api_CodeType_api_CodeType__bytecode_FindType_1
  rw [h1', bind_e rfl, bind_e rfl, h2]
theorem distB_iff : ∀ (l seen : List (List UInt8)), distB l seen = true ↔ (∀ x ∈ l, nameB x = true ∧ x ∉ seen) ∧ l.Nodup
  | [], seen => by simp [distB]
  | a :: r, seen => by
    rw [distB, Bool.and_eq_true, Bool.and_eq_true, Bool.not_eq_true', decide_eq_false_iff_not, distB_iff r, List.nodup_cons]
    constructor
    · rintro ⟨⟨h1, h2⟩, h3, h4⟩
      refine ⟨fun x hx => ?_, fun q => ?_, h4⟩
      · rcases List.mem_cons.1 hx with rfl | hx
        · exact ⟨h1, h2⟩
        · exact ⟨(h3 x hx).1, fun q => (h3 x hx).2 (List.mem_append_left _ q)⟩
      · exact (h3 a q).2 (by simp)
    · rintro ⟨h1, h2, h3⟩
      refine ⟨h1 a (List.mem_cons_self ..), fun x hx => ⟨(h1 x (List.mem_cons_of_mem _ hx)).1, fun q => ?_⟩, h3⟩
      rcases List.mem_append.1 q with q | q
      · exact (h1 x (List.mem_cons_of_mem _ hx)).2 q
      · rw [List.mem_singleton] at q
        rw [q] at hx
        exact h2 hx
theorem nodup_set : ∀ (l : List (List UInt8)) (i : Nat) (v : List UInt8), l.Nodup → v ∉ l → (l.set i v).Nodup
  | [], i, v, h, _ => h
  | a :: r, 0, v, h, hv => by
    rw [List.set_cons_zero, List.nodup_cons]
    exact ⟨fun q => hv (List.mem_cons_of_mem _ q), (List.nodup_cons.1 h).2⟩
  | a :: r, i + 1, v, h, hv => by
    rw [List.set_cons_succ, List.nodup_cons]
    refine ⟨fun q => ?_, nodup_set r i v (List.nodup_cons.1 h).2 (fun q => hv (List.mem_cons_of_mem _ q))⟩
    rcases List.mem_or_eq_of_mem_set q with q | q
    · exact (List.nodup_cons.1 h).1 q
    · exact hv (by rw [q]; exact List.mem_cons_self ..)
structure Sim (c c' : Code) : Prop where
  len : c'.Types.length = c.Types.length
  ty : ∀ i, (c'.Types.getD i default).Methods = (c.Types.getD i default).Methods
theorem sim_effects {c c' : Code} (h : Sim c c') {t t' : CodeType} (hf : t'.Fields = t.Fields) (k : Nat) (m : CodeMethod) (x : Instr) (top : Int) : bytecode_effects k c' t' m x top = bytecode_effects k c t m x top := by
  unfold bytecode_effects
  simp only [h.len, h.ty, hf]
theorem sim_after {c c' : Code} (h : Sim c c') {t t' : CodeType} (hf : t'.Fields = t.Fields) (k : Nat) (m : CodeMethod) (x : Instr) (s : List Int) : bytecode_after k c' t' m x s = bytecode_after k c t m x s := by
  unfold bytecode_after
  simp only [sim_effects h hf]
theorem sim_loop2 {c c' : Code} (h : Sim c c') {t t' : CodeType} (hf : t'.Fields = t.Fields) (k : Nat) (m : CodeMethod) : ∀ n st w, bytecode_analyze_loop2 k c' t' m n st w = bytecode_analyze_loop2 k c t m n st w := by
  intro n
  induction n with
  | zero => intro st w; rfl
  | succ n ih =>
    intro st w
    rw [bytecode_analyze_loop2, bytecode_analyze_loop2]
    simp only [sim_after h hf, ih]
theorem sim_ana {c c' : Code} (h : Sim c c') {t t' : CodeType} (hf : t'.Fields = t.Fields) (m : CodeMethod) : ana c' t' m = ana c t m := by
  unfold ana bytecode_analyze
  simp only [sim_loop2 h hf]
theorem sim_okM {c c' : Code} (h : Sim c c') {t t' : CodeType} (hf : t'.Fields = t.Fields) (m : CodeMethod) : okM c' t' m = okM c t m := by
  have : okI c' t' m = okI c t m := by
    funext x
    unfold okI bodyI
    simp only [h.len, h.ty, hf]
  unfold okM
  rw [this]
theorem sim_walkM {c c' : Code} (h : Sim c c') {t t' : CodeType} (hf : t'.Fields = t.Fields) : ∀ (l : List CodeMethod) (n : Nat), walkM c' t' l n = walkM c t l n
  | [], n => rfl
  | a :: r, n => by rw [walkM, walkM, sim_okM h hf, sim_walkM h hf r]
theorem sim_walkT {c c' : Code} (h : Sim c c') {t' : CodeType} : ∀ (l : List CodeType) (i n : Nat), t'.Fields = (l.getD i default).Fields → t'.Methods = (l.getD i default).Methods → walkT c' (l.set i t') n = walkT c l n
  | [], i, n, _, _ => rfl
  | a :: r, 0, n, h1, h2 => by
    have hr : ∀ (l : List CodeType) (n : Nat), walkT c' l n = walkT c l n := by
      intro l
      induction l with
      | nil => intro n; rfl
      | cons b s ih =>
        intro n
        rw [walkT, walkT, sim_walkM h rfl]
        cases walkM c b b.Methods n with
        | none => rfl
        | some x => exact ih x
    have h1' : t'.Fields = a.Fields := h1
    have h2' : t'.Methods = a.Methods := h2
    rw [List.set_cons_zero, walkT, walkT, h2', sim_walkM h h1']
    cases walkM c a a.Methods n with
    | none => rfl
    | some x => exact hr r x
  | a :: r, i + 1, n, h1, h2 => by
    rw [List.set_cons_succ, walkT, walkT, sim_walkM h rfl]
    cases walkM c a a.Methods n with
    | none => rfl
    | some x => exact sim_walkT h r i x h1 h2
theorem all_set (f : CodeType → Bool) {t' : CodeType} : ∀ (l : List CodeType) (i : Nat), (i < l.length → f t' = f (l.getD i default)) → (l.set i t').all f = l.all f
  | [], i, _ => rfl
  | a :: r, 0, h => by
    have : f t' = f a := h (by simp)
    rw [List.set_cons_zero, List.all_cons, List.all_cons, this]
  | a :: r, i + 1, h => by
    rw [List.set_cons_succ, List.all_cons, List.all_cons, all_set f r i (fun q => h (by simpa using q))]
theorem getD_setT {l : List CodeType} {i j : Nat} {v : CodeType} (hi : i < l.length) : (l.set i v).getD j default = if j = i then v else l.getD j default := by
  by_cases h : j = i
  · subst h; simp [List.getD, hi]
  · rw [if_neg h]
    simp [List.getD, List.getElem?_set, Ne.symm h]
def renamed (c : Code) (i : Nat) (nm : List UInt8) : Code := ⟨c.Types.set i ⟨nm, (c.Types.getD i default).Fields, (c.Types.getD i default).Methods⟩⟩
theorem ren_sim (c : Code) (i : Nat) (nm : List UInt8) (hi : i < c.Types.length) : Sim c (renamed c i nm) := by
  refine ⟨by simp [renamed], fun j => ?_⟩
  unfold renamed
  rw [getD_setT hi]
  by_cases h : j = i
  · rw [if_pos h, h]
  · rw [if_neg h]
theorem ren_sm {c : Code} {i : Nat} {nm : List UInt8} (hi : i < c.Types.length) (hn : nm.length ≤ 100) (h : smC c) : smC (renamed c i nm) := by
  refine ⟨by simp [renamed]; exact h.1, fun t ht => ?_⟩
  rcases List.mem_or_eq_of_mem_set ht with ht | rfl
  · exact h.2 t ht
  · have := h.2 _ (getD_mem hi)
    exact ⟨hn, this.2.1, this.2.2.1, this.2.2.2.1, this.2.2.2.2⟩
theorem ren_okC {c : Code} {i : Nat} {nm : List UInt8} (hi : i < c.Types.length) (hn : nameB nm = true) (hnew : ∀ t ∈ c.Types, t.Name ≠ nm) (h : okC c = true) : okC (renamed c i nm) = true := by
  have hS := ren_sim c i nm hi
  simp only [okC, Bool.and_eq_true] at h ⊢
  obtain ⟨⟨⟨h1, h2⟩, h3⟩, h4⟩ := h
  refine ⟨⟨⟨by rw [hS.len]; exact h1, ?_⟩, ?_⟩, ?_⟩
  · rw [distB_iff] at h2 ⊢
    have e : (renamed c i nm).Types.map (·.Name) = (c.Types.map (·.Name)).set i nm := by
      unfold renamed
      rw [List.map_set]
    rw [e]
    refine ⟨fun x hx => ⟨?_, by simp⟩, nodup_set _ _ _ h2.2 (fun q => ?_)⟩
    · rcases List.mem_or_eq_of_mem_set hx with hx | rfl
      · exact (h2.1 x hx).1
      · exact hn
    · obtain ⟨t, ht, e⟩ := List.mem_map.1 q
      exact hnew t ht e
  · show (c.Types.set i ⟨nm, (c.Types.getD i default).Fields, (c.Types.getD i default).Methods⟩).all okT = true
    rw [all_set okT (t' := ⟨nm, (c.Types.getD i default).Fields, (c.Types.getD i default).Methods⟩) c.Types i (fun _ => rfl)]
    exact h3
  · unfold renamed
    have := sim_walkT hS (t' := ⟨nm, (c.Types.getD i default).Fields, (c.Types.getD i default).Methods⟩) c.Types i 0 rfl rfl
    unfold renamed at this
    rw [this]
    exact h4
theorem ren_ana {c : Code} {i : Nat} {nm : List UInt8} (hi : i < c.Types.length) : anaB (renamed c i nm) = anaB c := by
  have hS := ren_sim c i nm hi
  unfold anaB
  have e : (fun t : CodeType => t.Methods.all fun m => (ana (renamed c i nm) t m).2) = fun t => t.Methods.all fun m => (ana c t m).2 := by
    funext t
    congr 1
    funext m
    rw [sim_ana hS rfl]
  rw [e]
  have hT : (renamed c i nm).Types = c.Types.set i ⟨nm, (c.Types.getD i default).Fields, (c.Types.getD i default).Methods⟩ := rfl
  have e2 : (fun m : CodeMethod => (ana c ⟨nm, (c.Types.getD i default).Fields, (c.Types.getD i default).Methods⟩ m).2) = fun m => (ana c (c.Types.getD i default) m).2 := by
    funext m
    rw [sim_ana (c := c) (c' := c) ⟨rfl, fun _ => rfl⟩ (t := c.Types.getD i default) (t' := ⟨nm, (c.Types.getD i default).Fields, (c.Types.getD i default).Methods⟩) rfl m]
  have e3 := all_set (fun t : CodeType => t.Methods.all fun m => (ana c t m).2) (t' := ⟨nm, (c.Types.getD i default).Fields, (c.Types.getD i default).Methods⟩) c.Types i (fun _ => by
    have : ∀ (l : List CodeMethod) (f g : CodeMethod → Bool), f = g → l.all f = l.all g := fun l f g h => by rw [h]
    exact this _ _ _ e2)
  rw [hT]
  exact e3
theorem upper_name {s : List UInt8} (h0 : 1 ≤ s.length) (h1 : s.length ≤ 20) (h : ∀ c ∈ s, 65 ≤ c.toNat ∧ c.toNat ≤ 90) : nameB s = true := by
  have hc : ∀ c ∈ s, letB c = true := fun c hc => by
    have := h c hc
    unfold letB
    rw [decide_eq_true (p := ((c.toNat : Nat) : Int) ≥ 65) (by omega), decide_eq_true (p := ((c.toNat : Nat) : Int) ≤ 90) (by omega)]
    simp
  have h00 : s.getD 0 0 ∈ s := by
    have : 0 < s.length := by omega
    simp [List.getD, this]
  have hk : kwB s = false := by
    have hne : ∀ lit : List UInt8, 97 ≤ (lit.getD 0 0).toNat → decide (s = lit) = false := fun lit hl => by
      rw [decide_eq_false_iff_not]
      intro e
      have := (h _ h00).2
      rw [e] at this
      omega
    unfold kwB lexer_IsKeyword
    repeat rw [hne _ (by decide), cond_false]
    rfl
  unfold nameB
  rw [hk, decide_eq_true]
  · rfl
  · refine ⟨fun e => by rw [e] at h0; simp at h0, by omega, hc _ h00, fun c q => ?_⟩
    unfold wordC
    rw [hc c q]
    rfl
theorem sameInts_self (l : List Int) (hl : l.length ≤ 1000) : actorgridref1_SameInts K l l = some true := by
  unfold actorgridref1_SameInts
  have := all_loop l (fun _ => true) (fun n i => actorgridref1_SameInts_loop1 K l l n i) (fun n i hi => by
    show actorgridref1_SameInts_loop1 K l l (n + 1) i = _
    rw [actorgridref1_SameInts_loop1, lt_t hi, cond_true, ifp_pos hi, ifp_pos hi, bne_self_eq_false, cond_false, ifp_pos (by omega)]
    rfl) (fun n i hi => by
    show actorgridref1_SameInts_loop1 K l l (n + 1) i = _
    rw [actorgridref1_SameInts_loop1, lt_f hi]; rfl) K 0 (Nat.zero_le _) (by unfold K; omega)
  rw [show actorgridref1_SameInts_loop1 K l l K 0 = _ from this, bne_self_eq_false]
  have e : (l.drop 0).all (fun _ => true) = true := by simp
  rw [e]
  rfl
theorem names_loop (k : Nat) (nm : List UInt8) (hl : nm.length ≤ 20) (hk : 200 ≤ k) : actorgridlaw20_CodeNames_loop1 k nm k 0 = some (.inr true) ∨ (actorgridlaw20_CodeNames_loop1 k nm k 0 = some (.inl ()) ∧ ∀ c ∈ nm, 65 ≤ c.toNat ∧ c.toNat ≤ 90) := by
  have h := loopE nm.length (fun i => if (decide ((((nm.getD i 0)).toNat : Int) < 65) || decide ((((nm.getD i 0)).toNat : Int) > 90)) = true then some true else none) (fun n i => actorgridlaw20_CodeNames_loop1 k nm n i) (fun n i hi => by
    show actorgridlaw20_CodeNames_loop1 k nm (n + 1) i = _
    rw [actorgridlaw20_CodeNames_loop1, lt_t hi, cond_true, ifp_pos hi, ifp_pos hi, b_then rfl, bind_e rfl, ifp_pos (by omega)]
    cases (decide ((((nm.getD i 0)).toNat : Int) < 65) || decide ((((nm.getD i 0)).toNat : Int) > 90)) <;> rfl) (fun n i hi => by
    show actorgridlaw20_CodeNames_loop1 k nm (n + 1) i = _
    rw [actorgridlaw20_CodeNames_loop1, lt_f hi]; rfl) k 0 (by omega)
  rcases h with ⟨h1, h2⟩ | ⟨j, r, _, _, h3, _, h4⟩
  · refine .inr ⟨h1, fun c hc => ?_⟩
    obtain ⟨i, hi, rfl⟩ := List.getElem_of_mem hc
    have := h2 i (Nat.zero_le _) hi
    have e : nm.getD i 0 = nm[i] := by simp [List.getD, hi]
    rw [e] at this
    by_cases q : (decide (((nm[i].toNat : Nat) : Int) < 65) || decide (((nm[i].toNat : Nat) : Int) > 90)) = true
    · rw [if_pos q] at this; cases this
    · simp only [Bool.or_eq_true, decide_eq_true_eq] at q
      omega
  · split at h3
    · injection h3 with h3
      subst h3
      exact .inl h4
    · cases h3
theorem CodeNames_law (c : Code) (a1 : UInt8) (nm : List UInt8) (h : c.okl) : ∃ k, actorgridlaw20_CodeNames k c a1 nm = some true := by
  cases hs : cB c with
  | false =>
    refine ⟨9223372036854775900, ?_⟩
    unfold actorgridlaw20_CodeNames
    rw [awake_big, bind_e rfl, Bool.not_true, cond_false, Small_eq _ c (by decide) (lenL_ok h), hs, bind_e rfl]
    rfl
  | true =>
    have hS := cB_sm hs
    have hS1 := hS.1
    refine ⟨K, ?_⟩
    unfold actorgridlaw20_CodeNames
    rw [awake_K, bind_e rfl, Bool.not_true, cond_false, Small_eq _ c (by decide) (lenL_mono (lenL_sm hS) (by decide)), hs, bind_e rfl, Bool.not_true, Bool.false_or]
    cases hq : ((((((c.Types.length : Nat) : Int) == 0)) || (decide (((nm.length : Nat) : Int) < 1))) || (decide (((nm.length : Nat) : Int) > 20))) with
    | true => rfl
    | false =>
      simp only [Bool.or_eq_false_iff, beq_eq_false_iff_ne, decide_eq_false_iff_not] at hq
      have e : 0 < c.Types.length := by omega
      rw [cond_false]
      rcases names_loop K nm (by omega) (by decide) with hl | ⟨hl, hup⟩
      · rw [hl]; rfl
      · rw [hl, bind_e rfl]
        show Option.bind _ _ = _
        obtain ⟨x, hx⟩ := find_eq K c nm (by decide) hS1
        rw [hx, bind_e rfl]
        cases ha : (c.Types.any fun t => decide (t.Name = nm)) with
        | true => rfl
        | false =>
          have hnew : ∀ t ∈ c.Types, t.Name ≠ nm := fun t ht q => by
            rw [List.any_eq_false] at ha
            exact ha t ht (decide_eq_true q)
          have hi : a1.toNat % c.Types.length < c.Types.length := Nat.mod_lt _ e
          have hn : nameB nm = true := upper_name (by omega) (by omega) hup
          rw [cond_false, ifp_pos e, ifp_pos (by show 0 + _ ≤ _; omega), Verify_eq c hS, bind_e rfl]
          simp only [List.nil_append]
          rw [ifp_pos hi]
          have hR : (⟨c.Types.set (a1.toNat % c.Types.length) (⟨nm, (c.Types.getD (a1.toNat % c.Types.length) default).Fields, (c.Types.getD (a1.toNat % c.Types.length) default).Methods⟩ : CodeType)⟩ : Code) = renamed c (a1.toNat % c.Types.length) nm := rfl
          rw [hR]
          have hS' : smC (renamed c (a1.toNat % c.Types.length) nm) := ren_sm hi (by omega) hS
          have hA := ren_ana (c := c) (nm := nm) hi
          rw [Verify_eq _ hS']
          cases ho : okC c with
          | false =>
            have : verP c = 1 := by unfold verP; rw [ho]; rfl
            rw [this]
            rfl
          | true =>
            have hO' := ren_okC hi hn hnew ho
            cases hb : anaB c with
            | false =>
              have e1 : verP c = 16 := by unfold verP; rw [ho, hb]; rfl
              have e2 : verP (renamed c (a1.toNat % c.Types.length) nm) = 16 := by unfold verP; rw [hO', hA, hb]; rfl
              rw [e1, e2]
              rfl
            | true =>
              have e1 : verP c = 0 := by unfold verP; rw [ho, hb]; rfl
              have e2 : verP (renamed c (a1.toNat % c.Types.length) nm) = 0 := by unfold verP; rw [hO', hA, hb]; rfl
              rw [e2, e1]
              show Option.bind (bytecode_Depth K c _ 0) _ = _
              have hT : (renamed c (a1.toNat % c.Types.length) nm).Types.getD (a1.toNat % c.Types.length) default = ⟨nm, (c.Types.getD (a1.toNat % c.Types.length) default).Fields, (c.Types.getD (a1.toNat % c.Types.length) default).Methods⟩ := by
                unfold renamed
                rw [getD_setT hi, if_pos rfl]
              have hi' : a1.toNat % c.Types.length < (renamed c (a1.toNat % c.Types.length) nm).Types.length := by rw [(ren_sim c _ nm hi).len]; exact hi
              by_cases hj : 0 < (c.Types.getD (a1.toNat % c.Types.length) default).Methods.length
              · have d1 := Depth_eq c hS e1 _ 0 hi hj
                have d2 := Depth_eq _ hS' e2 _ 0 hi' (by rw [hT]; exact hj)
                rw [hT, sim_ana (ren_sim c _ nm hi) (t := c.Types.getD (a1.toNat % c.Types.length) default) (t' := ⟨nm, (c.Types.getD (a1.toNat % c.Types.length) default).Fields, (c.Types.getD (a1.toNat % c.Types.length) default).Methods⟩) rfl] at d2
                rw [show bytecode_Depth K c _ 0 = _ from d1, bind_e rfl, show bytecode_Depth K (renamed c (a1.toNat % c.Types.length) nm) _ 0 = _ from d2, bind_e rfl, bind_e (sameInts_self _ ?_)]
                have hC := ctx_of hS ho (getD_mem hi) (getD_mem hj)
                obtain ⟨r, h1, h2, h3⟩ := analyze_ok _ _ _ hC
                have : (ana c (c.Types.getD (a1.toNat % c.Types.length) default) ((c.Types.getD (a1.toNat % c.Types.length) default).Methods.getD 0 default)) = r := by unfold ana; rw [h1]; rfl
                rw [this]
                have hl := hC.len
                simp only [depths, List.length_map]
                cases hr : r.2 with
                | true => rw [(h2 hr).inv.len]; omega
                | false => rw [h3 hr]; simp
              · have d1 := Depth_no c hS e1 _ 0 hi hj
                have d2 := Depth_no _ hS' e2 _ 0 hi' (by rw [hT]; exact hj)
                rw [show bytecode_Depth K c _ 0 = _ from d1, bind_e rfl, show bytecode_Depth K (renamed c (a1.toNat % c.Types.length) nm) _ 0 = _ from d2, bind_e rfl, bind_e (sameInts_self _ (by simp))]
end Md
end Go.Proofs.Ytclffekkjfhpdaa
