/-
  Law StoreSurvives. Conditions: none.
-/
import Derived.Test.YtkcfkcgclljncaaStorRg
import Derived.Test.YtkcfkcgclljncaaStorSM
namespace Go.Proofs.Ytkcfkcgclljncaa
set_option linter.unusedVariables false
set_option linter.unusedSimpArgs false
namespace Md
/-- What a fold of the contents gives. -/
def known (st : List UInt8) (es : List (List UInt8)) : List UInt8 := st ++ es.flatMap (fun e => e ++ [59])
theorem known_snoc (st : List UInt8) (es : List (List UInt8)) (e : List UInt8) : known st (es ++ [e]) = known st es ++ (e ++ [59]) := by simp [known]
theorem known_len (st : List UInt8) : ∀ (es : List (List UInt8)), (∀ e ∈ es, e.length ≤ 300) → (known st es).length ≤ st.length + es.length * 301
  | [], _ => by simp [known]
  | e :: es, h => by
    have h1 := known_len st es fun x hx => h x (by simp [hx])
    have h2 := h e (by simp)
    simp only [known, List.length_append, List.flatMap_cons, List.length_cons, List.length_nil, Nat.add_mul] at h1 ⊢
    omega
theorem fold_loop (k : Nat) (st : List UInt8) (es : List (List UInt8)) (hst : st.length ≤ 5000) (hl : es.length ≤ 60) (he : ∀ e ∈ es, e.length ≤ 300) : ∀ (n i : Nat), i ≤ es.length → es.length - i < n → actorgridlaw28_fold_loop1 k es n (known st (es.take i)) i = some (known st es)
  | 0, i, _, h => by omega
  | n + 1, i, hi, h => by
    unfold actorgridlaw28_fold_loop1
    by_cases hlt : i < es.length
    · have h1 := known_len st (es.take i) fun x hx => he x (List.mem_of_mem_take hx)
      have h2 : (es.take i).length ≤ 60 := by rw [List.length_take]; omega
      have h3 : (es.getD i default).length ≤ 300 := he _ (by rw [List.getD_eq_getElem?_getD, List.getElem?_eq_getElem hlt]; exact List.getElem_mem hlt)
      have h4 : ([59] : List UInt8).length = 1 := rfl
      rw [decide_eq_true (by omega), cond_true, ifp_pos hlt, ifp_pos (by omega), ifp_pos (by rw [List.length_append]; omega), ifp_pos (by omega), ← known_snoc, take_snoc hlt]
      exact fold_loop k st es hst hl he n (i + 1) (by omega) (by omega)
    · rw [decide_eq_false (by omega), cond_false, List.take_of_length_le (by omega)]
theorem fold_eq {k : Nat} {n b : Nat} {st : List UInt8} {es : List (List UInt8)} (hk : 100 ≤ k) (hb : Bd n b st es) : actorgridlaw28_fold k st es = some (known st es) := by
  unfold actorgridlaw28_fold
  have h3 := hb.bl
  have := fold_loop k st es hb.bs hb.bl hb.be k 0 (Nat.zero_le _) (by omega)
  rw [List.take_zero, show known st [] = st by simp [known]] at this
  rw [this]
  rfl
/-- Both disks restarted. -/
def reS (s : Store) : Store := ⟨⟨(restartD s.Disks.x0).1, (restartD s.Disks.x1).1⟩, s.Current, s.Number, s.Base, s.Count⟩
theorem re2 (k : Nat) (s : Store) (n : Nat) (h0 : s.Disks.x0.Data.length ≤ 100000) (h1 : s.Disks.x1.Data.length ≤ 100000) (e0 : (restartD s.Disks.x0).2 = 0) (e1 : (restartD s.Disks.x1).2 = 0) : actorgridlaw28_StoreSurvives_loop2 k (n + 3) 0 s = some (.inl (reS s)) := by
  unfold actorgridlaw28_StoreSurvives_loop2
  rw [decide_eq_true (by decide), cond_true, decide_eq_true (by decide), cond_true, restart_eq k _ (by omega), bind_e rfl, e0, show ((0 : Int) != 0) = false from rfl, cond_false, bind_e rfl, onS_le, ifp_pos (by decide)]
  unfold actorgridlaw28_StoreSurvives_loop2
  rw [decide_eq_true (by decide), cond_true, decide_eq_false (by decide), cond_false, ifp_pos (by decide)]
  dsimp only
  rw [restart_eq k _ (by omega), bind_e rfl, e1, show ((0 : Int) != 0) = false from rfl, cond_false, ifp_pos (by decide), bind_e rfl, onS_le, ifp_pos (by decide)]
  unfold actorgridlaw28_StoreSurvives_loop2
  rw [decide_eq_false (by decide), cond_false]
  rfl
theorem re3 (k : Nat) (s : Store) : ∀ (n i : Nat) (s : Store), actorgridlaw28_StoreSurvives_loop3 k n i s = actorgridlaw28_StoreSurvives_loop2 k n i s
  | 0, i, s => rfl
  | n + 1, i, s => by
    unfold actorgridlaw28_StoreSurvives_loop3 actorgridlaw28_StoreSurvives_loop2
    simp only [re3 k s n]
theorem re4 (k : Nat) (s : Store) : ∀ (n i : Nat) (s : Store), actorgridlaw28_StoreSurvives_loop4 k n i s = actorgridlaw28_StoreSurvives_loop2 k n i s
  | 0, i, s => rfl
  | n + 1, i, s => by
    unfold actorgridlaw28_StoreSurvives_loop4 actorgridlaw28_StoreSurvives_loop2
    simp only [re4 k s n]
theorem re5 (k : Nat) (s : Store) : ∀ (n i : Nat) (s : Store), actorgridlaw28_StoreSurvives_loop5 k n i s = actorgridlaw28_StoreSurvives_loop2 k n i s
  | 0, i, s => rfl
  | n + 1, i, s => by
    unfold actorgridlaw28_StoreSurvives_loop5 actorgridlaw28_StoreSurvives_loop2
    simp only [re5 k s n]
theorem re6 (k : Nat) (s : Store) : ∀ (n i : Nat) (s : Store), actorgridlaw28_StoreSurvives_loop6 k n i s = actorgridlaw28_StoreSurvives_loop2 k n i s
  | 0, i, s => rfl
  | n + 1, i, s => by
    unfold actorgridlaw28_StoreSurvives_loop6 actorgridlaw28_StoreSurvives_loop2
    simp only [re6 k s n]
/-- What the law does behind a crash, the disks restarted. -/
def tailC (k : Nat) (kn fl : List UInt8) (x : Store) : Option (Sum (List UInt8 × Store) Bool) :=
  (store_Recover k x.Disks.x0 x.Disks.x1).bind fun x20 => ((bif (x20.2.2 != 0) then (some true) else ((store_Valid k x20.1).bind fun x27 => some (!x27))) : Option Bool).bind fun x21 => bif x21 then (some (Sum.inr false)) else ((actorgridlaw28_fold k x20.2.1.State x20.2.1.Entries).bind fun x23 => ((bif (!(decide (x23 = kn))) then (Md.ifp (kn.length + fl.length ≤ 4000000) <| some (!(decide (x23 = (kn ++ fl))))) else (some false)) : Option Bool).bind fun x24 => bif x24 then (some (Sum.inr false)) else (some (Sum.inl (x23, x20.1))))
theorem recover_fin {k : Nat} {i : Bool} {n b m : Nat} {st z od : List UInt8} {es : List (List UInt8)} (hk : 30000 ≤ k) (hb : Bd n b st es) (hz : (openF z).2.2.2 ≠ 0) (hzl : (bytesF (book n b st es) ++ z).length ≤ 25000) (hold : old k od n) (hod : od.length ≤ 25000) (n' b' : Nat) :
    store_Recover k (St i (Fresh (bytesF (book n b st es) ++ z)) (Fresh od) n' b' m).Disks.x0 (St i (Fresh (bytesF (book n b st es) ++ z)) (Fresh od) n' b' m).Disks.x1 = some (St i (Fresh (bytesF (book n b st es))) (Fresh od) n b es.length, ⟨(b : Int), st, es⟩, 0) := by
  have hl3 := hb.bl
  obtain ⟨r1, r2⟩ := recs_all (book n b st es) k z (book_ok hb) (by simp [book, ents]; omega) hz
  have hu1 : usable k (Fresh (bytesF (book n b st es) ++ z)) = some (n, ⟨(b : Int), st, es⟩) := by
    unfold usable
    rw [show (Fresh (bytesF (book n b st es) ++ z)).Data = bytesF (book n b st es) ++ z from rfl, r1, contents_book hb]
  have hv := valid_fresh (bytesF (book n b st es) ++ z) (by omega)
  have hvo := valid_fresh od (by omega)
  have ht : truncD (Fresh (bytesF (book n b st es) ++ z)) ((bytesF (book n b st es)).length : Int) = (Fresh (bytesF (book n b st es)), 0) := by
    unfold truncD
    rw [hv, if_neg (by simp), if_neg (by simp [Fresh])]
    unfold Fresh
    dsimp only
    rw [if_neg (by rw [List.length_append]; omega), if_neg (by simp), Int.toNat_natCast, List.take_left]
    rfl
  have hnz : ¬ (bytesF (book n b st es)).length < (bytesF (book n b st es) ++ z).length → bytesF (book n b st es) ++ z = bytesF (book n b st es) := fun h0 => by
    rw [List.length_append] at h0
    rw [List.eq_nil_of_length_eq_zero (show z.length = 0 by omega), List.append_nil]
  have hf0 : ∀ o : Disk, finS k (Fresh (bytesF (book n b st es) ++ z)) o 0 n ⟨(b : Int), st, es⟩ = (⟨⟨Fresh (bytesF (book n b st es)), o⟩, 0, (n : Int), (b : Int), (es.length : Int)⟩, ⟨(b : Int), st, es⟩, 0) := fun o => by
    unfold finS
    rw [if_pos rfl, show (Fresh (bytesF (book n b st es) ++ z)).Data = bytesF (book n b st es) ++ z from rfl, r2]
    by_cases h0 : (bytesF (book n b st es)).length < (bytesF (book n b st es) ++ z).length
    · rw [if_pos h0, ht, if_neg (by simp), if_pos rfl]
    · rw [if_neg h0, hnz h0]
  have hf1 : ∀ o : Disk, finS k o (Fresh (bytesF (book n b st es) ++ z)) 1 n ⟨(b : Int), st, es⟩ = (⟨⟨o, Fresh (bytesF (book n b st es))⟩, 1, (n : Int), (b : Int), (es.length : Int)⟩, ⟨(b : Int), st, es⟩, 0) := fun o => by
    unfold finS
    rw [if_neg (show ¬ (1 : Int) = 0 by decide), show (Fresh (bytesF (book n b st es) ++ z)).Data = bytesF (book n b st es) ++ z from rfl, r2]
    by_cases h0 : (bytesF (book n b st es)).length < (bytesF (book n b st es) ++ z).length
    · rw [if_pos h0, ht, if_neg (by simp), if_neg (show ¬ (1 : Int) = 0 by decide)]
    · rw [if_neg h0, hnz h0]
  have hzl2 : (Fresh (bytesF (book n b st es) ++ z)).Data.length ≤ 25000 := hzl
  have hod2 : (Fresh od).Data.length ≤ 25000 := hod
  have w : ∀ d : List UInt8, (Fresh d).Writes ≤ 9223372036854775807 := fun d => by simp [Fresh]
  have dn : ∀ d : List UInt8, ¬ ((Fresh d).Down = true) := fun d => by simp [Fresh]
  cases i
  · show store_Recover k (Fresh (bytesF (book n b st es) ++ z)) (Fresh od) = _
    rw [recover_store k _ _ (by omega) (by omega) (by omega) (by omega) (w _) (w _)]
    unfold recS
    rw [hv, hvo, if_neg (by simp), if_neg (by simp [dn]), hu1]
    cases h1 : usable k (Fresh od) with
    | none => exact congrArg some (hf0 _)
    | some p =>
      obtain ⟨m, c'⟩ := p
      have := hold m c' h1
      unfold pick2
      dsimp only
      rw [if_neg (by omega)]
      exact congrArg some (hf0 _)
  · show store_Recover k (Fresh od) (Fresh (bytesF (book n b st es) ++ z)) = _
    rw [recover_store k _ _ (by omega) (by omega) (by omega) (by omega) (w _) (w _)]
    unfold recS
    rw [hv, hvo, if_neg (by simp), if_neg (by simp [dn]), hu1]
    cases h1 : usable k (Fresh od) with
    | none => exact congrArg some (hf1 _)
    | some p =>
      obtain ⟨m, c'⟩ := p
      have := hold m c' h1
      unfold pick2
      dsimp only
      rw [if_pos (by omega)]
      exact congrArg some (hf1 _)
theorem valid_up {k : Nat} {q i : Bool} {s : Store} {n b : Nat} {st : List UInt8} {es : List (List UInt8)} (hk : 30000 ≤ k) (hu : Up k q i s n b st es) (hb : Bd n b st es) : store_Valid k s = some true := by
  obtain ⟨c, o, od, rfl, hc, ho, hold, hod⟩ := hu
  have hdat := book_bytes hb
  have h1 := hb.bn
  have h2 := hb.bb
  have h3 := hb.bl
  have hok := okS_St (i := i) (by omega : 100 ≤ k) hb hc ho (by omega)
  have hs := St_ok i hc.ok ho.ok (by omega : n ≤ 1000000) (by omega : b ≤ 1000000) (by omega : es.length ≤ 1000000)
  have hcd := hc.data
  have hod2 := ho.data
  rw [← hok]
  refine validS_eq k _ ?_ ?_ ?_ ?_ hs <;> cases i <;> simp only [St, hcd, hod2] <;> omega
theorem tail_ok {k : Nat} {i : Bool} {n b n' b' m : Nat} {st z od kn fl : List UInt8} {es : List (List UInt8)} (hk : 30000 ≤ k) (hb : Bd n b st es) (hz : (openF z).2.2.2 ≠ 0) (hzl : (bytesF (book n b st es) ++ z).length ≤ 25000) (hold : old k od n) (hod : od.length ≤ 25000) (hkn : kn.length ≤ 10000) (hfl : fl.length ≤ 10000) (hgot : known st es = kn ∨ known st es = kn ++ fl) :
    tailC k kn fl (St i (Fresh (bytesF (book n b st es) ++ z)) (Fresh od) n' b' m) = some (.inl (known st es, St i (Fresh (bytesF (book n b st es))) (Fresh od) n b es.length)) := by
  unfold tailC
  have hu : Up k true i (St i (Fresh (bytesF (book n b st es))) (Fresh od) n b es.length) n b st es := ⟨_, _, od, rfl, .inl rfl, .inl rfl, hold, hod⟩
  rw [recover_fin hk hb hz hzl hold hod, bind_e rfl]
  dsimp only
  rw [show ((0 : Int) != 0) = false from rfl, cond_false, valid_up hk hu hb, bind_e rfl, bind_e rfl, Bool.not_true, cond_false, fold_eq (by omega) hb, bind_e rfl]
  by_cases h : known st es = kn
  · rw [decide_eq_true h, Bool.not_true, cond_false, bind_e rfl, cond_false]
  · rw [decide_eq_false h, Bool.not_false, cond_true, ifp_pos (by omega), bind_e rfl, decide_eq_true (hgot.resolve_left h), Bool.not_true, cond_false]
/-- The store in between: what is known. -/
def InvS (k t : Nat) (kn : List UInt8) (s : Store) : Prop :=
  ∃ i n b st es, Up k false i s n b st es ∧ kn = known st es ∧ n ≤ t ∧ b + es.length ≤ t ∧ kn.length ≤ 51 * t ∧ ∀ e ∈ es, e.length ≤ 50
theorem known_st (st : List UInt8) (es : List (List UInt8)) : st.length ≤ (known st es).length := by
  unfold known
  rw [List.length_append]
  omega
theorem bd_of {t n b : Nat} {st kn : List UInt8} {es : List (List UInt8)} (ht : t ≤ 51) (h1 : kn = known st es) (h2 : n ≤ t) (h3 : b + es.length ≤ t) (h4 : kn.length ≤ 51 * t) (h5 : ∀ e ∈ es, e.length ≤ 50) : Bd n b st es := by
  have := known_st st es
  rw [← h1] at this
  exact ⟨by omega, by omega, by omega, by omega, fun e he => by have := h5 e he; omega⟩
def Good (k t : Nat) (o : Option (Sum (List UInt8 × Store) Bool)) : Prop := o = some (.inr true) ∨ ∃ kn' s', o = some (.inl (kn', s')) ∧ InvS k (t + 1) kn' s'
theorem good_bind {k t : Nat} {o : Option (Sum (List UInt8 × Store) Bool)} {F : Sum (List UInt8 × Store) Bool → Option (Sum Unit Bool)} (h : Good k t o) (hr : F (.inr true) = some (.inr true)) (hl : ∀ kn' s', InvS k (t + 1) kn' s' → F (.inl (kn', s')) = some (.inl ()) ∨ F (.inl (kn', s')) = some (.inr true)) : o.bind F = some (.inl ()) ∨ o.bind F = some (.inr true) := by
  rcases h with rfl | ⟨kn', s', rfl, h⟩
  · exact .inr hr
  · exact hl kn' s' h
theorem re_St (k f : Nat) (hf : 3 ≤ f) (i : Bool) {c o c' o' : Disk} (n b m : Nat) (hc : c.Data.length ≤ 100000) (ho : o.Data.length ≤ 100000) (ec : restartD c = (c', 0)) (eo : restartD o = (o', 0)) : actorgridlaw28_StoreSurvives_loop2 k f 0 (St i c o n b m) = some (.inl (St i c' o' n b m)) := by
  obtain ⟨f, rfl⟩ : ∃ g, f = g + 3 := ⟨f - 3, by omega⟩
  cases i
  · rw [re2 k (St false c o n b m) f hc ho (by show (restartD c).2 = 0; rw [ec]) (by show (restartD o).2 = 0; rw [eo])]
    show some (Sum.inl (⟨⟨(restartD c).1, (restartD o).1⟩, 0, n, b, m⟩ : Store)) = _
    rw [ec, eo]
    rfl
  · rw [re2 k (St true c o n b m) f ho hc (by show (restartD o).2 = 0; rw [eo]) (by show (restartD c).2 = 0; rw [ec])]
    show some (Sum.inl (⟨⟨(restartD o).1, (restartD c).1⟩, 1, n, b, m⟩ : Store)) = _
    rw [ec, eo]
    rfl
theorem tail_disks {k : Nat} {kn fl : List UInt8} {x y : Store} (h : x.Disks = y.Disks) : tailC k kn fl x = tailC k kn fl y := by
  unfold tailC
  rw [h]
theorem up_fresh {k : Nat} {i : Bool} {n b : Nat} {st od : List UInt8} {es : List (List UInt8)} (hold : old k od n) (hod : od.length ≤ 25000) : Up k false i (St i (Fresh (bytesF (book n b st es))) (Fresh od) n b es.length) n b st es := ⟨_, _, od, rfl, .inl rfl, .inl rfl, hold, hod⟩
/-- Put, and what lies behind it. -/
theorem put_good {k t : Nat} (hk : 30000 ≤ k) (hk2 : k ≤ 100000) (ht : t ≤ 50) {kn e : List UInt8} {s : Store} (h : InvS k t kn s) (he : e.length ≤ 50) (LP : Nat → Nat → Store → Option (Sum Store Bool)) (hLP : ∀ n i s, LP n i s = actorgridlaw28_StoreSurvives_loop2 k n i s) :
    Good k t ((store_Put k s e).bind fun x13 => bif (x13.2 == 0) then (Md.ifp (e.length + [59].length ≤ 4000000) <| Md.ifp (kn.length + (e ++ [59]).length ≤ 4000000) <| some (Sum.inl ((kn ++ (e ++ [59])), x13.1))) else (bif (x13.2 == 23) then (Md.ifp (e.length + [59].length ≤ 4000000) <| (LP k 0 x13.1).bind fun o19 => Md.onS o19 (fun x19_0 => tailC k kn (e ++ [59]) x19_0) (fun r19 => some (Sum.inr r19))) else (some (Sum.inr false)))) := by
  obtain ⟨i, n, b, st, es, hu, h1, h2, h3, h4, h5⟩ := h
  have hbd := bd_of (by omega) h1 h2 h3 h4 h5
  have hst := known_st st es
  rw [← h1] at hst
  have h6 : ([59] : List UInt8).length = 1 := rfl
  have h7 : (e ++ [59] : List UInt8).length = e.length + 1 := by rw [List.length_append, h6]
  have hb2 : Bd n b st (es ++ [e]) := ⟨by omega, by rw [List.length_append]; simp; omega, by omega, by rw [List.length_append]; simp; omega, fun x hx => by
    rcases List.mem_append.1 hx with hx | hx
    · have := h5 x hx; omega
    · rw [List.mem_singleton.1 hx]; omega⟩
  have hinv : ∀ s', Up k false i s' n b st (es ++ [e]) → InvS k (t + 1) (kn ++ (e ++ [59])) s' := fun s' hu' => by
    refine ⟨i, n, b, st, es ++ [e], hu', by rw [known_snoc, h1], by omega, by rw [List.length_append]; simp; omega, by rw [List.length_append, h7]; omega, fun x hx => ?_⟩
    rcases List.mem_append.1 hx with hx | hx
    · exact h5 x hx
    · rw [List.mem_singleton.1 hx]; exact he
  have hinv0 : ∀ s', Up k false i s' n b st es → InvS k (t + 1) kn s' := fun s' hu' => ⟨i, n, b, st, es, hu', h1, by omega, by omega, by omega, h5⟩
  rcases put_up hk hk2 hu hb2 with ⟨s', e1, e2⟩ | ⟨_, o, od, j, e1, ho, hold, hod⟩
  · rw [e1, bind_e rfl]
    dsimp only
    rw [show ((0 : Int) == 0) = true from rfl, cond_true, ifp_pos (by omega), ifp_pos (by omega)]
    exact .inr ⟨_, _, rfl, hinv s' e2⟩
  · have hdat := book_bytes hbd
    have hfr := (ent_ok (e := e) (by omega)).len
    dsimp only at hfr
    have hod2 := ho.data
    have hDl : (bytesF (book n b st es) ++ (frameR ⟨2, e⟩).take j).length ≤ 24500 := by rw [List.length_append, List.length_take]; omega
    rw [e1, bind_e rfl]
    dsimp only
    rw [show ((23 : Int) == 0) = false from rfl, cond_false, show ((23 : Int) == 23) = true from rfl, cond_true, ifp_pos (by omega), hLP, re_St k k (by omega) i n b es.length (by show (bytesF (book n b st es) ++ (frameR ⟨2, e⟩).take j).length ≤ _; omega) (by rw [hod2]; omega) (restart_dead _ (by omega)) (ho.restart (by omega)), bind_e rfl, onS_le]
    obtain ⟨l0, z, t1, t2, t3⟩ := tornR (book n b st es) ⟨2, e⟩ j (ent_ok (by omega))
    rw [t1] at hDl ⊢
    rcases t3 with rfl | rfl
    · rw [tail_ok hk hbd t2 (by omega) hold hod (by omega) (by omega) (.inl h1.symm)]
      exact .inr ⟨_, _, rfl, by rw [← h1]; exact hinv0 _ (up_fresh hold hod)⟩
    · rw [← book_snoc] at hDl ⊢
      have := tail_ok (k := k) (i := i) (n' := n) (b' := b) (m := es.length) (kn := kn) (fl := e ++ [59]) hk hb2 t2 (by omega) hold hod (by omega) (by omega) (.inr (by rw [known_snoc, h1]))
      rw [this]
      exact .inr ⟨_, _, rfl, by rw [known_snoc, ← h1]; exact hinv _ (up_fresh hold hod)⟩
/-- A restart out of nothing. -/
theorem crash_good {k t : Nat} (hk : 30000 ≤ k) (ht : t ≤ 50) {kn : List UInt8} {s : Store} (h : InvS k t kn s) (LP : Nat → Nat → Store → Option (Sum Store Bool)) (hLP : ∀ n i s, LP n i s = actorgridlaw28_StoreSurvives_loop2 k n i s) :
    Good k t ((LP k 0 s).bind fun o19 => Md.onS o19 (fun x19_0 => tailC k kn ([] : List UInt8) x19_0) (fun r19 => some (Sum.inr r19))) := by
  obtain ⟨i, n, b, st, es, hu, h1, h2, h3, h4, h5⟩ := h
  have hbd := bd_of (by omega) h1 h2 h3 h4 h5
  have hdat := book_bytes hbd
  obtain ⟨c, o, od, rfl, hc, ho, hold, hod⟩ := hu
  have hcd := hc.data
  have hod2 := ho.data
  rw [hLP, re_St k k (by omega) i n b es.length (by rw [hcd]; omega) (by rw [hod2]; omega) (hc.restart (by omega)) (ho.restart (by omega)), bind_e rfl, onS_le]
  have := tail_ok (k := k) (i := i) (n' := n) (b' := b) (m := es.length) (z := []) (kn := kn) (fl := []) hk hbd open_nil (by rw [List.append_nil]; omega) hold hod (by omega) (by simp) (.inl h1.symm)
  rw [List.append_nil] at this
  rw [this]
  exact .inr ⟨_, _, rfl, i, n, b, st, es, up_fresh hold hod, rfl, by omega, by omega, by rw [← h1]; omega, h5⟩
/-- Checkpoint, and what lies behind it. -/
theorem ck_good {k t : Nat} (hk : 30000 ≤ k) (hk2 : k ≤ 100000) (ht : t ≤ 50) {kn : List UInt8} {s : Store} (h : InvS k t kn s) (LP : Nat → Nat → Store → Option (Sum Store Bool)) (hLP : ∀ n i s, LP n i s = actorgridlaw28_StoreSurvives_loop2 k n i s) :
    Good k t (Md.ifp (kn.length ≤ 4000000) <| (store_Checkpoint k s kn).bind fun x92 => bif ((x92.2 != 0) && (x92.2 != 23)) then (some (Sum.inr false)) else (bif (!(x92.2 == 23)) then (some (Sum.inl (kn, x92.1))) else ((LP k 0 x92.1).bind fun o96 => Md.onS o96 (fun x96_0 => tailC k kn ([] : List UInt8) x96_0) (fun r96 => some (Sum.inr r96))))) := by
  obtain ⟨i, n, b, st, es, hu, h1, h2, h3, h4, h5⟩ := h
  have hbd := bd_of (by omega) h1 h2 h3 h4 h5
  have hdat := book_bytes hbd
  rw [ifp_pos (by omega)]
  have hkn : kn = known kn [] := by simp [known]
  have hbd2 : Bd (n + 1) (b + es.length) kn [] := ⟨by omega, by simp; omega, by omega, by simp, by simp⟩
  rcases ck_up hk hk2 hu hbd (by omega : kn.length ≤ 5000) (by omega) with ⟨s', e1, e2⟩ | ⟨_, c, data', e1, hc, hd⟩
  · rw [e1, bind_e rfl]
    dsimp only
    rw [show ((0 : Int) != 0) = false from rfl, Bool.false_and, cond_false, show ((0 : Int) == 23) = false from rfl, Bool.not_false, cond_true]
    exact .inr ⟨_, _, rfl, !i, n + 1, b + es.length, kn, [], e2, hkn, by omega, by simp; omega, by omega, by simp⟩
  · rw [e1, bind_e rfl]
    dsimp only
    have hcd := hc.data
    have hh := head_ok (n := n + 1) (b := b + es.length) (st := kn) (by omega) (by omega) (by omega)
    have hl := hh.len
    have hl2 := headB_len (n + 1) (b + es.length) kn (by omega) (by omega) (by omega)
    dsimp only at hl
    have hdl : data'.length ≤ 25000 := by
      rcases hd with ⟨_, hd⟩ | ⟨j, rfl⟩
      · exact hd
      · rw [List.length_take]; omega
    rw [show ((23 : Int) != 23) = false from rfl, Bool.and_false, cond_false, show ((23 : Int) == 23) = true from rfl, Bool.not_true, cond_false, hLP, re_St k k (by omega) i n b es.length (by rw [hcd]; omega) (by show data'.length ≤ _; omega) (hc.restart (by omega)) (restart_dead _ (by omega)), bind_e rfl, onS_le]
    have first : old k data' n → Good k t (tailC k kn [] (St i (Fresh (bytesF (book n b st es))) (Fresh data') n b es.length)) := fun hold => by
      have := tail_ok (k := k) (i := i) (n' := n) (b' := b) (m := es.length) (z := []) (kn := kn) (fl := []) hk hbd open_nil (by rw [List.append_nil]; omega) hold hdl (by omega) (by simp) (.inl h1.symm)
      rw [List.append_nil] at this
      rw [this]
      exact .inr ⟨_, _, rfl, i, n, b, st, es, up_fresh hold hdl, rfl, by omega, by omega, by rw [← h1]; omega, h5⟩
    rcases hd with ⟨hold, _⟩ | ⟨j, rfl⟩
    · exact first hold
    · obtain ⟨l0, z, t1, t2, t3⟩ := tornR [] ⟨1, headB (n + 1) (b + es.length) kn⟩ j hh
      rw [show bytesF [] = [] from rfl, List.nil_append] at t1
      rcases t3 with rfl | rfl
      · refine first fun m c' hm => ?_
        rw [t1, (recs_all [] k z (by simp) (by simp) t2).1] at hm
        cases hm
      · rw [List.nil_append] at t1
        rw [show ([⟨1, headB (n + 1) (b + es.length) kn⟩] : List JournalRecord) = book (n + 1) (b + es.length) kn [] from rfl] at t1
        have holder : old k (bytesF (book n b st es)) (n + 1) := fun m c' h => by
          rw [(recs_whole _ k (book_ok hbd) (by have := hbd.bl; simp [book, ents]; omega)).1, contents_book hbd] at h
          cases h
          omega
        rw [t1] at hdl ⊢
        rw [tail_disks (y := St (!i) (Fresh (bytesF (book (n + 1) (b + es.length) kn []) ++ z)) (Fresh (bytesF (book n b st es))) n b es.length) (by cases i <;> rfl),
          tail_ok hk hbd2 t2 hdl holder (by omega) (by omega) (by simp) (.inl hkn.symm), ← hkn]
        exact .inr ⟨_, _, rfl, !i, n + 1, b + es.length, kn, [], up_fresh holder (by omega), hkn, by omega, by simp; omega, by omega, by simp⟩
/-- A disk armed. -/
theorem arm_good {k t : Nat} (ht : t ≤ 50) {kn : List UInt8} {s : Store} (h : InvS k t kn s) (w kp : Nat) (hw : w ≤ 1000) (hkp : kp ≤ 1000) :
    Good k t ((disk_Arm k s.Disks.x0 (w : Int) (kp : Int)).bind fun x117 => bif (x117.2 == 0) then (some (Sum.inl (kn, (⟨(⟨x117.1, s.Disks.x1⟩ : Arr2Disk), s.Current, s.Number, s.Base, s.Count⟩ : Store)))) else (some (Sum.inl (kn, s)))) ∧
    Good k t ((disk_Arm k s.Disks.x1 (w : Int) (kp : Int)).bind fun x117 => bif (x117.2 == 0) then (some (Sum.inl (kn, (⟨(⟨s.Disks.x0, x117.1⟩ : Arr2Disk), s.Current, s.Number, s.Base, s.Count⟩ : Store)))) else (some (Sum.inl (kn, s)))) := by
  obtain ⟨i, n, b, st, es, hu, h1, h2, h3, h4, h5⟩ := h
  have hbd := bd_of (by omega) h1 h2 h3 h4 h5
  have hdat := book_bytes hbd
  obtain ⟨c, o, od, rfl, hc, ho, hold, hod⟩ := hu
  have hcd := hc.data
  have hod2 := ho.data
  obtain ⟨a1, a2⟩ := hc.arm (by omega) hw hkp
  obtain ⟨b1, b2⟩ := ho.arm (by omega) hw hkp
  have mk : ∀ c' o', Live false c' (bytesF (book n b st es)) → Live false o' od → InvS k (t + 1) kn (St i c' o' n b es.length) := fun c' o' hc' ho' => ⟨i, n, b, st, es, ⟨c', o', od, rfl, hc', ho', hold, hod⟩, h1, by omega, by omega, by omega, h5⟩
  have e : ∀ d : Disk, d.Data.length ≤ 100000 → disk_Arm k d (w : Int) (kp : Int) = some (armD d (w : Int) (kp : Int)) := fun d hd => arm_eq k d _ _ (by omega)
  cases i
  · refine ⟨?_, ?_⟩
    · show Good k t ((disk_Arm k c (w : Int) (kp : Int)).bind _)
      rw [e c (by rw [hcd]; omega), a1, bind_e rfl]
      exact .inr ⟨_, _, rfl, mk _ o a2 ho⟩
    · show Good k t ((disk_Arm k o (w : Int) (kp : Int)).bind _)
      rw [e o (by rw [hod2]; omega), b1, bind_e rfl]
      exact .inr ⟨_, _, rfl, mk c _ hc b2⟩
  · refine ⟨?_, ?_⟩
    · show Good k t ((disk_Arm k o (w : Int) (kp : Int)).bind _)
      rw [e o (by rw [hod2]; omega), b1, bind_e rfl]
      exact .inr ⟨_, _, rfl, mk c _ hc b2⟩
    · show Good k t ((disk_Arm k c (w : Int) (kp : Int)).bind _)
      rw [e c (by rw [hcd]; omega), a1, bind_e rfl]
      exact .inr ⟨_, _, rfl, mk _ o a2 ho⟩
theorem surv_loop (k : Nat) (hk : 30000 ≤ k) (hk2 : k ≤ 100000) (a : List Actorgridlaw28Act) (ha : a.length ≤ 50) : ∀ (n t : Nat) (kn : List UInt8) (s : Store), t ≤ a.length → a.length - t < n → InvS k t kn s →
    actorgridlaw28_StoreSurvives_loop1 k a n kn t s = some (.inl ()) ∨ actorgridlaw28_StoreSurvives_loop1 k a n kn t s = some (.inr true)
  | 0, t, kn, s, _, h, _ => by omega
  | n + 1, t, kn, s, hi, h, hinv => by
    unfold actorgridlaw28_StoreSurvives_loop1
    by_cases hl : t < a.length
    · rw [decide_eq_true (by omega), cond_true]
      refine good_bind (k := k) (t := t) ?_ rfl fun kn' s' h' => ?_
      · rw [ifp_pos hl]
        generalize a.getD t default = x
        by_cases hb : ((x.B.length : Nat) : Int) > 50
        · rw [decide_eq_true hb]; exact .inl rfl
        rw [decide_eq_false hb, cond_false]
        cases (((x.Kind % (6 : UInt8)).toNat : Int) == 0) with
        | true => exact put_good hk hk2 (by omega) hinv (by omega) _ (fun _ _ _ => rfl)
        | false =>
          rw [cond_false]
          cases (((x.Kind % (6 : UInt8)).toNat : Int) == 1) with
          | true => exact put_good hk hk2 (by omega) hinv (by omega) _ (fun n i s => re3 k s n i s)
          | false =>
            rw [cond_false]
            cases (((x.Kind % (6 : UInt8)).toNat : Int) == 2) with
            | true => exact put_good hk hk2 (by omega) hinv (by omega) _ (fun n i s => re4 k s n i s)
            | false =>
              rw [cond_false]
              cases (((x.Kind % (6 : UInt8)).toNat : Int) == 3) with
              | true => exact ck_good hk hk2 (by omega) hinv _ (fun n i s => re5 k s n i s)
              | false =>
                rw [cond_false]
                cases (((x.Kind % (6 : UInt8)).toNat : Int) == 4) with
                | true =>
                  rw [cond_true]
                  have hw := (x.Writes / 2 % 6).toNat_lt
                  have hkp := x.Keep.toNat_lt
                  obtain ⟨g1, g2⟩ := arm_good (k := k) (by omega) hinv (x.Writes / 2 % 6).toNat x.Keep.toNat (by omega) (by omega)
                  by_cases hw2 : ((x.Writes.toNat % 2 : Nat) : Int) = 0
                  · rw [decide_eq_true hw2, cond_true]
                    exact g1
                  · rw [decide_eq_false hw2, cond_false, ifp_pos (by omega)]
                    simp only [ifp_pos (show ((x.Writes.toNat % 2 : Nat) : Int) = 1 by omega)]
                    exact g2
                | false =>
                  rw [cond_false]
                  exact crash_good hk (by omega) hinv _ (fun n i s => re6 k s n i s)
      · show ifp _ _ = _ ∨ ifp _ _ = _
        rw [ifp_pos (by omega)]
        exact surv_loop k hk hk2 a ha n (t + 1) kn' s' (by omega) (by omega) h'
    · rw [decide_eq_false (by omega)]
      exact .inl rfl
theorem StoreSurvives_law (a0 : List Actorgridlaw28Act) : ∃ k, actorgridlaw28_StoreSurvives k a0 = some true := by
  refine ⟨30000, ?_⟩
  unfold actorgridlaw28_StoreSurvives
  rw [awake28k, bind_e rfl, Bool.not_true, cond_false]
  by_cases c0 : ((a0.length : Nat) : Int) > 50
  · rw [decide_eq_true c0]; rfl
  obtain ⟨n1, n2⟩ := new_up 30000
  rw [decide_eq_false c0, cond_false, new_store 30000 (by omega) (by omega), bind_e rfl, n1, show ((0 : Int) != 0) = false from rfl, cond_false]
  have hinv : InvS 30000 0 [] (newS 1048576).1 := by
    obtain ⟨c, o, od, h1, h2, h3, h4, h5⟩ := n2
    exact ⟨false, 0, 0, [], [], ⟨c, o, od, h1, h2.any, h3.any, h4, h5⟩, rfl, Nat.le_refl _, Nat.le_refl _, Nat.le_refl _, by simp⟩
  rcases surv_loop 30000 (by omega) (by omega) a0 (by omega) 30000 0 [] _ (Nat.zero_le _) (by omega) hinv with h | h
  · rw [h]; rfl
  · rw [h]; rfl
end Md
end Go.Proofs.Ytkcfkcgclljncaa
