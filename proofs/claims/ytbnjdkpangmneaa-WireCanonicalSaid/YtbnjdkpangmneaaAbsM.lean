/-
  A reading of Go's memory by values, thirteenth part: a row of one's own given up; regions that draw their order. No program of Go's is named here.
-/
import Derived.Test.YtbnjdkpangmneaaAbsL
import Derived.Orders
namespace Go.Proofs.Ytbnjdkpangmneaa
open Go.ChangeShapes Go.WideShapes Go.RowKit
set_option linter.unusedVariables false
set_option linter.unusedSimpArgs false
namespace Abs

/-! ### a row that is only read from now on -/
def frzC (id n : Nat) (el : Nat → List CV) : CV → CV
  | .own i => bif Nat.beq i id then .slc n el else .own i
  | c => killC id c
def frzV1 (id n : Nat) (el : Nat → List CV) : AV → AV
  | .one c => .one (frzC id n el c)
  | .agg cs => .agg (cs.map (frzC id n el))
  | v => v
def frzV (id n : Nat) (el : Nat → List CV) : AV → AV
  | .tup vs => .tup (vs.map (frzV1 id n el))
  | .one c => .one (frzC id n el c)
  | .agg cs => .agg (cs.map (frzC id n el))
def frzB (id n : Nat) (el : Nat → List CV) : Option Blk → Option Blk
  | some (.box cs) => some (.box (cs.map (frzC id n el)))
  | b => b
def ASt.freeze (s : ASt) (id n : Nat) (el : Nat → List CV) : ASt := { s with env := s.env.map fun p => (p.1, frzV id n el p.2), heap := (id, none) :: s.heap.map fun p => (p.1, frzB id n el p.2) }
section
variable {U T : Nat → Prop} {w0 : Base} {w : World} {s : ASt} {a : Act} {hv : Nat → Value} {id n e sz : Nat} {el : Nat → List CV}
theorem look_frz (s : ASt) (i : Nat) : look (s.freeze id n el).heap i = if id = i then none else frzB id n el (look s.heap i) := by
  unfold ASt.freeze
  rw [look_cons, look_map _ rfl]
theorem frzC_ids {j : Nat} {c : CV} (h : j ∈ (frzC id n el c).ids) : j ∈ c.ids ∧ j ≠ id := by
  cases c with
  | own i =>
    simp only [frzC] at h
    cases hb : Nat.beq i id <;> rw [hb] at h
    · simp [CV.ids] at h; subst h; exact ⟨by simp [CV.ids], beq_ne hb⟩
    · simp [CV.ids] at h
  | ptr i o => exact ⟨killC_sub h, killC_ids (.ptr i o) j h⟩
  | rptr i sz j' o => exact ⟨killC_sub h, killC_ids (.rptr i sz j' o) j h⟩
  | fn f caps => exact ⟨killC_sub h, killC_ids (.fn f caps) j h⟩
  | val v => simp [frzC, killC, CV.ids] at h
  | slc n el => simp [frzC, killC, CV.ids] at h
  | cptr cs => simp [frzC, killC, CV.ids] at h
  | emp0 => simp [frzC, killC, CV.ids] at h
  | any => simp [frzC, killC, CV.ids] at h
theorem frzV1_ids {j : Nat} {x : AV} (h : j ∈ (frzV1 id n el x).ids1) : j ∈ x.ids1 ∧ j ≠ id := by
  cases x with
  | one c => exact frzC_ids h
  | agg cs =>
    obtain ⟨c, hc, hj⟩ := List.mem_flatMap.1 h
    obtain ⟨c', hc', rfl⟩ := List.mem_map.1 hc
    exact ⟨List.mem_flatMap.2 ⟨c', hc', (frzC_ids hj).1⟩, (frzC_ids hj).2⟩
  | tup vs => simp [frzV1, AV.ids1] at h
theorem frzV_ids {j : Nat} {x : AV} (h : j ∈ (frzV id n el x).ids) : j ∈ x.ids ∧ j ≠ id := by
  cases x with
  | tup vs =>
    obtain ⟨c, hc, hj⟩ := List.mem_flatMap.1 h
    obtain ⟨c', hc', rfl⟩ := List.mem_map.1 hc
    exact ⟨List.mem_flatMap.2 ⟨c', hc', (frzV1_ids hj).1⟩, (frzV1_ids hj).2⟩
  | one c => exact frzV1_ids (x := .one c) h
  | agg cs => exact frzV1_ids (x := .agg cs) h
theorem Ok.freeze (ok : Ok U T w0 s a w hv) (hb : look s.heap id = some (.row e sz n el)) : Ok U T w0 (s.freeze id n el) a w hv := by
  have hm := ok.m.hm
  have hsome : ∀ {i : Nat} {b : Blk}, look (s.freeze id n el).heap i = some b → id ≠ i ∧ ∃ b0, look s.heap i = some b0 ∧ frzB id n el (some b0) = some b := by
    intro i b h
    rw [look_frz] at h
    by_cases hi : id = i
    · rw [if_pos hi] at h; cases h
    · rw [if_neg hi] at h
      cases hl : look s.heap i with
      | none => rw [hl] at h; cases h
      | some b0 => rw [hl] at h; exact ⟨hi, b0, rfl, h⟩
  have hmine : ∀ b, mine (s.freeze id n el).heap hv b → mine s.heap hv b ∧ blockOf (hv id) ≠ some b := by
    rintro b ⟨i, x, h1, h2⟩
    obtain ⟨hi, b0, h3, _⟩ := hsome h1
    exact ⟨⟨i, b0, h3, h2⟩, fun h4 => hi (hm.inj _ _ _ _ b hb h3 h4 h2)⟩
  have hA : ∀ b, (U b ∨ mine (s.freeze id n el).heap hv b) → (U b ∨ mine s.heap hv b) := fun b hb => hb.imp (fun x => x) fun hb => (hmine b hb).1
  have hrd : RepC (fun b => U b ∨ mine (s.freeze id n el).heap hv b) w (.slc n el) (hv id) := own_read hm hb (fun b h1 h2 => h2.elim (hm.avoid b ⟨id, _, hb, h1⟩) fun h2 => (hmine b h2).2 h1) hA
  have hpass : ∀ j, j ≠ id → Pass s.heap hv (s.freeze id n el).heap hv j := fun j hj => by
    refine ⟨?_, ?_, fun _ => rfl⟩
    · rintro ⟨e, sz, m, el', h⟩; exact ⟨e, sz, m, el', by rw [look_frz, if_neg (Ne.symm hj), h]; rfl⟩
    · rintro ⟨cs, h⟩; exact ⟨cs.map (frzC id n el), by rw [look_frz, if_neg (Ne.symm hj), h]; rfl⟩
  have kT : ∀ {c : CV} {v : Value}, RepT s.heap hv (fun b => U b ∨ mine s.heap hv b) w c v → RepT (s.freeze id n el).heap hv (fun b => U b ∨ mine (s.freeze id n el).heap hv b) w (frzC id n el c) v := by
    intro c v hr
    have other : RepT s.heap hv (fun b => U b ∨ mine s.heap hv b) w (frzC id n el c) v → RepT (s.freeze id n el).heap hv (fun b => U b ∨ mine (s.freeze id n el).heap hv b) w (frzC id n el c) v :=
      fun h => h.keep (fun j hj => hpass j (frzC_ids hj).2) (Fr.refl (fun _ => False) w) (fun _ e => e.elim) fun b _ => hA b
    cases c with
    | own i =>
      simp only [frzC] at other ⊢
      cases hbq : Nat.beq i id with
      | false => rw [hbq] at other; exact other hr
      | true =>
        have hi := Nat.eq_of_beq_eq_true hbq
        subst hi
        obtain ⟨_, hv2, _⟩ := hr
        rw [hv2]
        exact hrd
    | ptr i o => exact other (killC_rep hr)
    | rptr i sz j o => exact other (killC_rep hr)
    | fn f caps => exact other (killC_rep hr)
    | val v => exact other hr
    | slc n el => exact other hr
    | cptr cs => exact other hr
    | emp0 => exact other hr
    | any => exact trivial
  have k1 : ∀ {x : AV} {v : Value}, Rep1 s.heap hv (fun b => U b ∨ mine s.heap hv b) w x v → Rep1 (s.freeze id n el).heap hv (fun b => U b ∨ mine (s.freeze id n el).heap hv b) w (frzV1 id n el x) v := by
    intro x v hr
    cases x with
    | one c => exact kT hr
    | agg cs => obtain ⟨vs, e, h2⟩ := hr; exact ⟨vs, e, h2.mapL _ fun x y hxy => kT hxy⟩
    | tup vs => exact hr
  refine ⟨⟨ok.m.nt, ok.m.defers, fun t => ?_, ?_⟩, ok.fr, fun b hb hlt => ok.own b (hmine b hb).1 hlt, fun i hi => ?_⟩
  · have hg : get (s.freeze id n el).env t = frzV id n el (get s.env t) := get_map _ rfl _ _
    rw [hg]
    have hr := ok.m.env t
    cases hx : get s.env t with
    | tup vs => rw [hx] at hr; obtain ⟨us, e, h2⟩ := hr; exact ⟨us, e, h2.mapL _ fun x y hxy => k1 hxy⟩
    | one c => rw [hx] at hr; exact k1 (x := .one c) hr
    | agg cs => rw [hx] at hr; exact k1 (x := .agg cs) hr
  · refine ⟨fun i b hib => ?_, fun i j x y b h1 h2 h3 h4 => ?_, fun b hb => hm.avoid b (hmine b hb).1, hm.ult⟩
    · obtain ⟨hi, b0, h1, h2⟩ := hsome hib
      have h3 := hm.blk i b0 h1
      cases b0 with
      | box cs =>
        simp only [frzB, Option.some.injEq] at h2
        subst h2
        obtain ⟨g, vs, ty, e1, e2, e3⟩ := h3
        exact ⟨g, vs, ty, e1, e2, e3.mapL _ fun x y hxy => kT hxy⟩
      | row e sz m el' =>
        simp only [frzB, Option.some.injEq] at h2
        subst h2
        obtain ⟨vs, e1, e2, e3⟩ := h3
        refine ⟨vs, e1, e2, fun i j c hi hj => ?_⟩
        obtain ⟨u, h4, h5⟩ := e3 i j c hi hj
        exact ⟨u, h4, h5.keep (Fr.refl (fun _ => False) w) (fun _ e => e.elim) fun b _ => hA b⟩
    · obtain ⟨_, x0, h5, _⟩ := hsome h1
      obtain ⟨_, y0, h6, _⟩ := hsome h2
      exact hm.inj i j x0 y0 b h5 h6 h3 h4
  · obtain ⟨⟨cs, h1⟩, h2⟩ := ok.box i hi
    have hne : i ≠ id := fun e => by subst e; rw [hb] at h1; cases h1
    exact ⟨(hpass i hne).box ⟨cs, h1⟩, h2⟩
end
section
variable {P : Program} {s : ASt} {Q : Exit → ASt → Prop} {id n e sz : Nat} {el : Nat → List CV}
theorem aw_freeze (id : Nat) {c : Code} (hb : look s.heap id = some (.row e sz n el)) (h : AW P c (s.freeze id n el) Q) : AW P c s Q := fun U T w0 a w hv ok => h U T w0 a w hv (ok.freeze hb)
theorem aops_freeze (id : Nat) {ops : Array Oper} {l : List Oper} (hb : look s.heap id = some (.row e sz n el)) (h : AOps P ops l (s.freeze id n el) Q) : AOps P ops l s Q := fun U T w0 a w hv ok => h U T w0 a w hv (ok.freeze hb)
end
end Abs
end Go.Proofs.Ytbnjdkpangmneaa
