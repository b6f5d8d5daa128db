/-
  A reading of Go's memory by values, nineteenth part: the bytes of a text that the program spells; a nil slice taken as a row of one's own. No program of Go's is named here.
-/
import Derived.Test.YtbnjdkpangmneaaAbsR
namespace Go.Proofs.Ytbnjdkpangmneaa
open Go.ChangeShapes Go.WideShapes Go.RowKit
set_option linter.unusedVariables false
set_option linter.unusedSimpArgs false
namespace Abs
section
variable {h : Heap} {hv : Nat → Value} {A : Nat → Prop} {w w' : World}
theorem repC_cells (hs : w.heap.size ≤ w'.heap.size) (hc : ∀ p v, w.cell? p = some v → w'.cell? p = some v) {c : CV} {v : Value} (hr : RepC A w c v) : RepC A w' c v := by
  induction hr with
  | val v h => exact .val v h
  | nil elem => exact .nil elem
  | emp elem a cap hm => exact .emp elem a cap hm
  | emp0 Ad => exact .emp0 Ad
  | slc n elem size b off cap vals hb hAb hcp hm hsz hcell hrep ih => exact .slc n elem size b off cap vals (Nat.lt_of_lt_of_le hb hs) hAb hcp hm hsz (fun i j c hi hj => hc _ _ (hcell i j c hi hj)) ih
  | cptr cells b off vals hb hAb hcell hrep ih => exact .cptr _ b off vals (Nat.lt_of_lt_of_le hb hs) hAb (fun j c hj => hc _ _ (hcell j c hj)) ih
theorem repP_mapC (hC : ∀ (c : CV) (v : Value), RepC A w c v → RepC A w' c v) {c : CV} {v : Value} (hr : RepP h hv A w c v) : RepP h hv A w' c v := by
  cases c <;> first | exact hr | exact hC _ _ hr
theorem repT_mapC (hC : ∀ (c : CV) (v : Value), RepC A w c v → RepC A w' c v) {c : CV} {v : Value} (hr : RepT h hv A w c v) : RepT h hv A w' c v := by
  cases c with
  | fn f caps => obtain ⟨vs, e, k⟩ := hr; exact ⟨vs, e, k.imp fun _ _ hxy => repP_mapC hC hxy⟩
  | own i => exact hr
  | ptr i o => exact hr
  | rptr i sz j o => exact hr
  | any => exact hr
  | val v => exact hC _ _ hr
  | slc n el => exact hC _ _ hr
  | cptr cs => exact hC _ _ hr
  | emp0 => exact hC _ _ hr
theorem rep1_mapC (hC : ∀ (c : CV) (v : Value), RepC A w c v → RepC A w' c v) {x : AV} {v : Value} (hr : Rep1 h hv A w x v) : Rep1 h hv A w' x v := by
  cases x with
  | one c => exact repT_mapC hC hr
  | agg cs => obtain ⟨vs, e, k⟩ := hr; exact ⟨vs, e, k.imp fun _ _ hxy => repT_mapC hC hxy⟩
  | tup _ => exact hr
theorem repV_mapC (hC : ∀ (c : CV) (v : Value), RepC A w c v → RepC A w' c v) {x : AV} {v : Value} (hr : RepV h hv A w x v) : RepV h hv A w' x v := by
  cases x with
  | tup xs => obtain ⟨vs, e, k⟩ := hr; exact ⟨vs, e, k.imp fun _ _ hxy => rep1_mapC hC hxy⟩
  | one c => exact rep1_mapC hC (x := .one c) hr
  | agg cs => exact rep1_mapC hC (x := .agg cs) hr
theorem blk_mapC (hC : ∀ (c : CV) (v : Value), RepC A w c v → RepC A w' c v) {T1 : Nat → Prop} {id : Nat} {b : Blk} (hf : Fr T1 w w') (hnot : ∀ g, blockOf (hv id) = some g → ¬ T1 g) (hr : BlkRep h hv A w id b) : BlkRep h hv A w' id b := by
  cases b with
  | box cells =>
    obtain ⟨g, cs, ty, h1, h2, h3⟩ := hr
    exact ⟨g, cs, ty, h1, by rw [hf.block g (Array.getElem?_eq_some_iff.1 h2).1 (hnot g (by rw [h1]; rfl))]; exact h2, h3.imp fun _ _ hxy => repT_mapC hC hxy⟩
  | row e sz n el =>
    obtain ⟨vs, h1, h2, h3⟩ := hr
    refine ⟨vs, own_fr h1 hf hnot, h2, fun i j c hi hj => ?_⟩
    obtain ⟨u, h4, h5⟩ := h3 i j c hi hj
    exact ⟨u, h4, hC _ _ h5⟩
end
section
variable {P : Program} {s : ASt} {d : Option Nat} {ty t e sz n : Nat} {pos : String} {af : Array Edge} {g : Option (Nat × Bool)} {x : Operand} {id : Nat} {el : Nat → List CV}
theorem st_conv_own (hx : s.ev x = .one (.own id)) (hb : look s.heap id = some (.row e sz n el)) (h0 : 0 < n) (hS : P.underlying t = some (.slice e)) (hE : P.underlying e = some (.int .u8)) (hd : dOk s d = true) :
    Ev P [id] s ⟨d, .convert t t x, ty, pos, af, g⟩ (· = (s.freeze id n el).put d (.one (.slc n el))) := fun U T w0 a w hv ok K Q hK => by
  have hm := ok.m.hm
  obtain ⟨vs, h1, h2, h3⟩ := hm.blk id _ hb
  rcases h1.2 with ⟨_, h4⟩ | ⟨g', cap, cur, h4, h5, h6, h7, h8, h9, h10⟩
  · omega
  have hval : a.eval x = hv id := by
    have := ok.m.ev x
    rw [hx] at this
    exact this.2.1
  have hlt : g' < w.heap.size := (Array.getElem?_eq_some_iff.1 h6).1
  have hsh : w.shape? g' = some (e, cur.size) := by unfold World.shape?; rw [h6]
  have hrun : (convert t t (a.eval x)).run P w = .ok (hv id) (w.freeze ⟨g', cur.size, none⟩ 1) := by
    rw [hval, h4]
    simp [convert, run_underlying hS, run_underlying hE, markStringish, hsh]
  have hw : ∀ b, b ≠ g' → (w.freeze ⟨g', cur.size, none⟩ 1).heap[b]? = w.heap[b]? := fun b hne => by
    unfold World.freeze
    rw [if_neg (by decide)]
    simp [Array.getElem?_modify, Ne.symm hne]
  have hg : (w.freeze ⟨g', cur.size, none⟩ 1).heap[g']? = some (.cells cur e (cur.size, cur.size + 1)) := by
    unfold World.freeze
    rw [if_neg (by decide)]
    simp [Array.getElem?_modify, h6]
  have hsz : (w.freeze ⟨g', cur.size, none⟩ 1).heap.size = w.heap.size := by
    unfold World.freeze
    rw [if_neg (by decide)]
    simp
  have hfr : Fr (fun b => b = g') w (w.freeze ⟨g', cur.size, none⟩ 1) := ⟨by unfold World.freeze; rw [if_neg (by decide)], by unfold World.freeze; rw [if_neg (by decide)], by unfold World.freeze; rw [if_neg (by decide)], by rw [hsz]; exact Nat.le_refl _, fun b _ hne => hw b hne⟩
  have hcell : ∀ p v, w.cell? p = some v → (w.freeze ⟨g', cur.size, none⟩ 1).cell? p = some v := fun p v hp => by
    by_cases hpg : p.block = g'
    · obtain ⟨pb, po, pv⟩ := p
      dsimp only at hpg
      subst hpg
      simp only [World.cell?, h6] at hp
      simp only [World.cell?, hg]
      exact hp
    · exact (World.cell?_of_block (w := w) (hw _ hpg)).trans hp
  have ok1 := ok.freeze hb
  have hmg : ∀ b, mine (s.freeze id n el).heap hv b → mine s.heap hv b ∧ b ≠ g' := by
    rintro b ⟨i, y, e1, e2⟩
    rw [look_frz] at e1
    by_cases hi : id = i
    · rw [if_pos hi] at e1; cases e1
    · rw [if_neg hi] at e1
      cases hl : look s.heap i with
      | none => rw [hl] at e1; cases e1
      | some b0 => exact ⟨⟨i, b0, hl, e2⟩, fun e3 => hi (hm.inj _ _ _ _ b hb hl (by rw [h4, e3]; rfl) e2)⟩
  have hC : ∀ {A : Nat → Prop} (c : CV) (v : Value), RepC A w c v → RepC A (w.freeze ⟨g', cur.size, none⟩ 1) c v := fun c v hr => repC_cells (by rw [hsz]; exact Nat.le_refl _) hcell hr
  have hm1 := ok1.m.hm
  have hrd : RepC (fun b => U b ∨ mine (s.freeze id n el).heap hv b) w (.slc n el) (hv id) := own_read hm hb (fun b e1 e2 => e2.elim (hm.avoid b ⟨id, _, hb, e1⟩) fun e2 => (hmg b e2).2 (by rw [h4] at e1; simp [blockOf] at e1; exact e1.symm)) fun b hb => hb.imp (fun x => x) fun hb => (hmg b hb).1
  have ok2 : Ok U T w0 (s.freeze id n el) a (w.freeze ⟨g', cur.size, none⟩ 1) hv := by
    refine ⟨⟨ok1.m.nt, ok1.m.defers, fun t => repV_mapC hC (ok1.m.env t), ⟨fun i b hib => ?_, hm1.inj, hm1.avoid, fun b hb => by rw [hsz]; exact hm1.ult b hb⟩⟩, ok1.fr.trans hfr fun b hlt0 hb => ?_, ok1.own, ok1.box⟩
    · exact blk_mapC hC hfr (fun b e1 => (hmg b ⟨i, _, hib, e1⟩).2) (hm1.blk i b hib)
    · subst hb
      exact ok.own _ ⟨id, _, by assumption, by rw [h4]; rfl⟩ hlt0
  have ok3 := ok2.next (w' := w.freeze ⟨g', cur.size, none⟩ 1) (h' := (s.freeze id n el).heap) (hv' := hv) (Fr.refl (fun _ => False) _) (fun _ e => e.elim) (fun _ id _ => Pass.refl _ _ id) (fun id _ => Pass.refl _ _ id) ok2.m.hm (fun _ h _ => h) (d := d) (r := .one (.slc n el)) (v := hv id) (hC _ _ hrd) hd
  unfold Oper.wp
  have hrun2 : (execOp a.eval ⟨d, .convert t t x, ty, pos, af, g⟩).run P w = .ok (.value (hv id)) (w.freeze ⟨g', cur.size, none⟩ 1) := by simp only [execOp, Sem.run_bind, hrun, Result.andThen_ok, Sem.run_pure]
  rw [hrun2]
  exact hK _ _ _ _ rfl ok3 fun _ _ _ => rfl
theorem st_assign_own (id e sz : Nat) (el : Nat → List CV) (hid : look s.heap id = none) (hx : s.ev x = .one (.val (.slice none 0 0))) (hd : dOk s d = true) :
    Ev P [] s ⟨d, .assign x, ty, pos, af, g⟩ (· = (s.blk id (.row e sz 0 el)).put d (.one (.own id))) := fun U T w0 a w hv ok K Q hK => by
  have hval : a.eval x = .slice none 0 0 := ok.m.val hx
  unfold Oper.wp
  have hrun2 : (execOp a.eval ⟨d, .assign x, ty, pos, af, g⟩).run P w = .ok (.value (.slice none 0 0)) w := by simp only [execOp, hval]; rfl
  rw [hrun2]
  refine hK _ _ _ _ rfl (ok.new (blk := .row e sz 0 el) (u := .slice none 0 0) hid (Fr.refl (fun _ => False) w) (fun g hg => by cases hg) ⟨[], by rw [upd_same]; exact ⟨by simp, .inl ⟨rfl, rfl⟩⟩, fun i hi => by omega, fun i j c hi => by omega⟩ ⟨⟨e, sz, 0, el, look_same _ _ _⟩, (upd_same _ _ _).symm, none, 0, 0, rfl⟩ hd) fun j _ ⟨b, hb⟩ => upd_other fun e => by subst e; rw [hid] at hb; cases hb
end
end Abs
end Go.Proofs.Ytbnjdkpangmneaa
