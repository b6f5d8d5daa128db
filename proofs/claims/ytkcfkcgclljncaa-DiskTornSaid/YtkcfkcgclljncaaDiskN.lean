/-
  Law 26 in plain words: DiskTorn, DiskSequences. Conditions: none.
-/
import Derived.Test.YtkcfkcgclljncaaDiskM
namespace Go.Proofs.Ytkcfkcgclljncaa
set_option linter.unusedVariables false
set_option linter.unusedSimpArgs false
namespace Md
theorem valid_a {x : List UInt8} {w k : Int} (hx : x.length ≤ 1048576) (hw : 0 ≤ w) (hk : 0 ≤ k) : valid ⟨x, 1048576, true, w, k, false⟩ = true := by
  unfold valid
  simp
  omega
theorem valid_b {x : List UInt8} {dn : Bool} (hx : x.length ≤ 1048576) : valid ⟨x, 1048576, false, 0, 0, dn⟩ = true := by
  unfold valid
  simp
  omega
theorem valid_c {x : List UInt8} {c : Int} {dn : Bool} (hx : (x.length : Int) ≤ c) (hc : 0 ≤ c) (hc2 : c ≤ 1048576) : valid ⟨x, c, false, 0, 0, dn⟩ = true := by
  unfold valid
  simp
  omega
theorem appendD_stop {x b : List UInt8} {k : Int} (hx : x.length ≤ 12000) (hb : b.length ≤ 300) (hk : 0 ≤ k) : appendD ⟨x, 1048576, true, 0, k, false⟩ b = (⟨x ++ b.take (min k.toNat b.length), 1048576, false, 0, 0, true⟩, 23) := by
  unfold appendD
  rw [valid_a (by omega) (by omega) hk]
  simp
  omega
theorem appendD_go {x b : List UInt8} {w k : Int} (hx : x.length ≤ 12000) (hb : b.length ≤ 300) (hw : 0 < w) (hk : 0 ≤ k) : appendD ⟨x, 1048576, true, w, k, false⟩ b = (⟨x ++ b, 1048576, true, w - 1, k, false⟩, 0) := by
  unfold appendD
  rw [valid_a (by omega) (by omega) hk]
  have : ¬ w = 0 := by omega
  simp [this]
  omega
def TornOut (kp : Nat) (o : Sum (List UInt8 × Disk × List UInt8) Bool) : Prop :=
  o = .inr true ∨ ∃ (t y b : List UInt8) (d : Disk), o = .inl (t, d, b) ∧ valid d = true ∧ d.Capacity = 1048576 ∧ d.Data = b ++ y ∧ t.take y.length = y ∧ y.length ≤ t.length ∧ y.length ≤ kp ∧ b.length ≤ 12000 ∧ t.length ≤ 300
theorem torn_loop (k : Nat) (a0 : List (List UInt8)) (kp : Nat) (h40 : a0.length ≤ 40) : ∀ (n i : Nat) (b : List UInt8) (w : Int), 0 ≤ w → w ≤ 255 → b.length ≤ 300 * i → i ≤ a0.length → a0.length - i < n →
    ∃ o, actorgridlaw26_DiskTorn_loop1 k a0 n i ⟨b, 1048576, true, w, kp, false⟩ b = some o ∧ TornOut kp o := by
  intro n
  induction n with
  | zero => intro i b w h0 h1 h2 h3 h4; omega
  | succ n ih =>
    intro i b w h0 h1 h2 h3 h4
    rw [actorgridlaw26_DiskTorn_loop1]
    by_cases hi : i < a0.length
    · rw [show (decide (((i : Nat) : Int) < ((a0.length : Nat) : Int))) = true from decide_eq_true (by omega), cond_true, ifp_pos hi]
      generalize a0.getD i default = t
      by_cases ht : (t.length : Int) > 300
      · rw [decide_eq_true ht]
        exact ⟨_, rfl, .inl rfl⟩
      · rw [decide_eq_false ht, cond_false, ifp_pos hi, append_eq k _ t (by omega) (by dsimp only; omega) (by dsimp only; omega), bind_e rfl]
        by_cases hw : w = 0
        · subst hw
          rw [appendD_stop (by omega) (by omega) (by omega)]
          simp only [beq_self_eq_true, cond_true]
          rw [ifp_pos hi]
          refine ⟨_, rfl, .inr ⟨t, t.take (min kp t.length), b, _, rfl, valid_b (by simp; omega), rfl, rfl, ?_, ?_, ?_, by omega, by omega⟩⟩
          · simp
          · simp; omega
          · simp; omega
        · rw [appendD_go (by omega) (by omega) (by omega) (by omega)]
          rw [show ((0 : Int) == 23) = false from rfl, cond_false, show ((0 : Int) != 0) = false from rfl, cond_false, ifp_pos hi, ifp_pos (by omega), ifp_pos (by omega)]
          exact ih (i + 1) (b ++ t) (w - 1) (by omega) (by omega) (by rw [List.length_append]; omega) (by omega) (by omega)
    · rw [show (decide (((i : Nat) : Int) < ((a0.length : Nat) : Int))) = false from decide_eq_false (by omega), cond_false]
      exact ⟨_, rfl, .inr ⟨[], [], b, _, rfl, valid_a (by omega) h0 (by omega), rfl, by simp, rfl, by simp, by simp, by omega, by simp⟩⟩
theorem DiskTorn_law (a0 : List (List UInt8)) (a1 a2 : UInt8) : ∃ k, actorgridlaw26_DiskTorn k a0 a1 a2 = some true := by
  refine ⟨50, ?_⟩
  unfold actorgridlaw26_DiskTorn
  rw [awake26, bind_e rfl]
  by_cases h40 : ((a0.length : Nat) : Int) > 40
  · simp [h40]
  have w1 := a1.toNat_lt
  have w2 := a2.toNat_lt
  rw [decide_eq_false h40, new_eq, bind_e rfl, show newD 1048576 = (⟨[], 1048576, false, 0, 0, false⟩, 0) from rfl]
  simp only [Bool.not_true, cond_false, bne_self_eq_false]
  rw [arm_eq _ _ _ _ (by simp), bind_e rfl, show armD ⟨[], 1048576, false, 0, 0, false⟩ ((a1.toNat : Nat) : Int) ((a2.toNat : Nat) : Int) = (⟨[], 1048576, true, a1.toNat, a2.toNat, false⟩, 0) from by
    unfold armD
    rw [valid_b (by simp)]
    simp]
  simp only [cond_false, bne_self_eq_false]
  obtain ⟨o, ho, hq⟩ := torn_loop 50 a0 a2.toNat (by omega) 50 0 [] a1.toNat (by omega) (by omega) (by simp) (by omega) (by omega)
  rw [ho, bind_e rfl]
  rcases hq with rfl | ⟨t, y, b, d, rfl, hv, hc, hd, hy, h1, h2, h3, h4⟩
  · rfl
  · have hyl : (b ++ y).length = b.length + y.length := List.length_append
    have hW : W ((((b ++ y).length : Nat) : Int) - ((b.length : Nat) : Int)) = ((y.length : Nat) : Int) := (W_id (by omega) (by omega)).trans (by omega)
    show ((disk_Restart 50 d).bind _) = _
    rw [restart_eq _ _ (by rw [hd]; omega), bind_e rfl, show restartD d = (⟨b ++ y, 1048576, false, 0, 0, false⟩, 0) from by unfold restartD; rw [hv, hc, hd]; rfl]
    simp only [cond_false, bne_self_eq_false]
    rw [read_eq _ _ (by dsimp only; omega), bind_e rfl, show readD ⟨b ++ y, 1048576, false, 0, 0, false⟩ = (b ++ y, 0) from by unfold readD; rw [valid_b (by omega)]; rfl]
    dsimp only
    rw [hW]
    simp only [beq_self_eq_true, cond_true]
    rw [decide_eq_true (by omega), decide_eq_true (by omega), decide_eq_true (by omega), cond_true, cond_true, cond_true, ifp_pos (by omega), decide_eq_true (by simp), cond_true, ifp_pos (by omega), ifp_pos (by omega), ifp_pos (by omega)]
    rw [decide_eq_true (by simp [hy])]
/-- What a disk of the law's sequences is. -/
def Inv (d : Disk) : Prop := valid d = true ∧ d.Capacity ≤ 2000 ∧ d.Writes ≤ 5
theorem Inv.len {d : Disk} (h : Inv d) : d.Data.length ≤ 2000 := by
  have := valid_ok h.1
  have := h.2.1
  omega
theorem inv_append {d : Disk} (h : Inv d) (b : List UInt8) : Inv (appendD d b).1 := by
  obtain ⟨h1, h2, h3⟩ := h
  obtain ⟨v1, v2, v3, v4, v5⟩ := valid_ok h1
  have h6 := h1
  unfold valid at h6
  obtain ⟨l, c, a, w, p, m⟩ := d
  dsimp only at *
  unfold appendD Inv
  rw [h1]
  simp only [Bool.true_eq_false, if_false]
  split
  · exact ⟨h1, h2, h3⟩
  · split
    · exact ⟨h1, h2, h3⟩
    · split
      · refine ⟨valid_c ?_ v1 v2, h2, (show (0 : Int) ≤ 5 by decide)⟩
        have := List.length_take_le (min p.toNat b.length) b
        simp
        omega
      · refine ⟨?_, h2, by dsimp only; split <;> omega⟩
        unfold valid
        cases a <;> simp_all <;> omega
theorem inv_trunc {d : Disk} (h : Inv d) (n : Int) : Inv (truncD d n).1 := by
  obtain ⟨h1, h2, h3⟩ := h
  obtain ⟨v1, v2, v3, v4, v5⟩ := valid_ok h1
  have h6 := h1
  unfold valid at h6
  obtain ⟨l, c, a, w, p, m⟩ := d
  dsimp only at *
  unfold truncD Inv
  rw [h1]
  have := List.length_take_le n.toNat l
  simp only [Bool.true_eq_false, if_false]
  split
  · exact ⟨h1, h2, h3⟩
  · split
    · exact ⟨h1, h2, h3⟩
    · split
      · refine ⟨valid_c ?_ v1 v2, h2, (show (0 : Int) ≤ 5 by decide)⟩
        split <;> omega
      · refine ⟨?_, h2, by dsimp only; split <;> omega⟩
        unfold valid
        cases a <;> simp_all <;> omega
theorem inv_arm {d : Disk} (h : Inv d) {w p : Int} (hw0 : 0 ≤ w) (hw : w ≤ 5) (hp : 0 ≤ p) : Inv (armD d w p).1 := by
  obtain ⟨h1, h2, h3⟩ := h
  obtain ⟨v1, v2, v3, v4, v5⟩ := valid_ok h1
  obtain ⟨l, c, a, w', p', m⟩ := d
  dsimp only at *
  unfold armD
  rw [h1]
  rw [if_neg (by simp; omega)]
  split
  · exact ⟨by rfl, by decide, by decide⟩
  · rename_i hm
    refine ⟨?_, h2, hw⟩
    unfold valid
    simp_all
theorem inv_restart {d : Disk} (h : Inv d) : Inv (restartD d).1 := by
  obtain ⟨h1, h2, h3⟩ := h
  obtain ⟨v1, v2, v3, v4, v5⟩ := valid_ok h1
  unfold restartD
  rw [h1]
  exact ⟨valid_c (by omega) v1 v2, h2, (show (0 : Int) ≤ 5 by decide)⟩
theorem seq_loop (k : Nat) (a1 : List Actorgridlaw26Act) (h60 : a1.length ≤ 60) : ∀ (n i : Nat) (e : Int) (d : Disk), Inv d → a1.length - i < n →
    ∃ o, actorgridlaw26_DiskSequences_loop1 k a1 n e e i d d = some o ∧ (o = .inl () ∨ o = .inr true) := by
  intro n
  induction n with
  | zero => intro i e d hd h4; omega
  | succ n ih =>
    intro i e d hd h4
    rw [actorgridlaw26_DiskSequences_loop1]
    by_cases hi : i < a1.length
    · rw [show (decide (((i : Nat) : Int) < ((a1.length : Nat) : Int))) = true from decide_eq_true (by omega), cond_true, ifp_pos hi]
      generalize a1.getD i default = t
      have hl := hd.len
      have hwr := hd.2.2
      by_cases ht : ((t.B.length : Nat) : Int) > 300
      · rw [decide_eq_true ht]
        exact ⟨_, rfl, .inr rfl⟩
      · have go : ∀ (e' : Int) (d' : Disk), Inv d' → ∃ o, ((actorgridlaw26_same k d' e' d' e').bind fun x13 => bif (!x13) then (some (Sum.inr false)) else ((disk_Valid k d').bind fun x15 => bif (!x15) then (some (Sum.inr false)) else (Md.ifp (i + 1 ≤ 9223372036854775807) <| actorgridlaw26_DiskSequences_loop1 k a1 n e' e' (i + 1) d' d'))) = some o ∧ (o = .inl () ∨ o = .inr true) := fun e' d' hd' => by
          rw [same26_eq, bind_e rfl, valid_eq, bind_e rfl, hd'.1]
          simp only [Bool.not_true, cond_false]
          rw [ifp_pos (by omega)]
          exact ih (i + 1) e' d' hd' (by omega)
        rw [decide_eq_false ht, cond_false]
        have happ : ∃ o, ((disk_Append k d t.B).bind fun x11 => (actorgridref26_AppendDisk k d t.B).bind fun x12 => (actorgridlaw26_same k x11.1 x11.2 x12.1 x12.2).bind fun x13 => bif (!x13) then (some (Sum.inr false)) else ((disk_Valid k x11.1).bind fun x15 => bif (!x15) then (some (Sum.inr false)) else (Md.ifp (i + 1 ≤ 9223372036854775807) <| actorgridlaw26_DiskSequences_loop1 k a1 n x11.2 x12.2 (i + 1) x11.1 x12.1))) = some o ∧ (o = .inl () ∨ o = .inr true) := by
          rw [append_eq k d _ (by omega) (by omega) (by omega), bind_e rfl, append_ref k d _ (by omega) (by omega) (by omega), bind_e rfl]
          exact go _ _ (inv_append hd _)
        cases ((((t.Kind % (5 : UInt8))).toNat : Int) == 0)
        case true => exact happ
        cases ((((t.Kind % (5 : UInt8))).toNat : Int) == 1)
        case true => exact happ
        cases ((((t.Kind % (5 : UInt8))).toNat : Int) == 2)
        case true =>
          simp only [cond_false, cond_true]
          rw [trunc_eq k d _ (by omega) (by omega), bind_e rfl, trunc_ref k d _ (by omega) (by omega), bind_e rfl]
          exact go _ _ (inv_trunc hd _)
        cases ((((t.Kind % (5 : UInt8))).toNat : Int) == 3)
        case true =>
          simp only [cond_false, cond_true]
          rw [arm_eq k d _ _ (by omega), bind_e rfl, arm_ref k d _ _ (by omega), bind_e rfl, same26_eq, bind_e rfl]
          simp only [Bool.not_true, cond_false]
          cases ((armD d (((t.N % (6 : UInt8)).toNat : Nat) : Int) ((t.Keep.toNat : Nat) : Int)).2 == 0)
          case true =>
            refine go _ _ (inv_arm hd (by omega) ?_ (by omega))
            rw [UInt8.toNat_mod, show (6 : UInt8).toNat = 6 from rfl]
            omega
          case false => exact go _ _ hd
        simp only [cond_false]
        rw [restart_eq k d (by omega), bind_e rfl, restart_ref k d (by omega), bind_e rfl]
        exact go _ _ (inv_restart hd)
    · rw [show (decide (((i : Nat) : Int) < ((a1.length : Nat) : Int))) = false from decide_eq_false (by omega), cond_false]
      exact ⟨_, rfl, .inl rfl⟩
theorem DiskSequences_law (a0 : UInt16) (a1 : List Actorgridlaw26Act) : ∃ k, actorgridlaw26_DiskSequences k a0 a1 = some true := by
  refine ⟨70, ?_⟩
  unfold actorgridlaw26_DiskSequences
  rw [awake26, bind_e rfl]
  by_cases h60 : ((a1.length : Nat) : Int) > 60
  · simp [h60]
  rw [decide_eq_false h60, new_eq, bind_e rfl, new_ref, bind_e rfl]
  simp only [Bool.not_true, cond_false]
  have hc : (a0 % (2000 : UInt16)).toNat < 2000 := by
    rw [UInt16.toNat_mod, show (2000 : UInt16).toNat = 2000 from rfl]
    omega
  generalize (a0 % (2000 : UInt16)).toNat = c at *
  have hn : newD (c : Int) = (⟨[], c, false, 0, 0, false⟩, 0) := if_neg (by omega)
  rw [hn]
  obtain ⟨o, ho, hq⟩ := seq_loop 70 a1 (by omega) 70 0 0 ⟨[], c, false, 0, 0, false⟩ ⟨valid_c (by simp) (by omega) (by omega), by dsimp only; omega, (show (0 : Int) ≤ 5 by decide)⟩ (by omega)
  rw [ho, bind_e rfl]
  rcases hq with rfl | rfl <;> rfl
end Md
end Go.Proofs.Ytkcfkcgclljncaa
