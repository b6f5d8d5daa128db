/-
  A reading of Go's memory by values, eighteenth part: a call whose new row is only read from then on. No program of Go's is named here.
  A reading of Go's memory by values, nineteenth part: the bytes of a text that the program spells; a nil slice taken as a row of one's own. No program of Go's is named here.
  A reading of Go's memory by values, twentieth part: a region that draws its order, where one operation of the first part may come late. No program of Go's is named here.
  A reading of Go's memory by values, twenty-second part: arguments that come from outside; from a contract to a law. No program of Go's is named here.
-/
import Derived.Test.YtjpiiejdaiaocaaDoorAbsO
import Derived.Test.YtjpiiejdaiaocaaDoorAbsN
import Derived.Test.YtjpiiejdaiaocaaDoorKit
namespace Go.Proofs.YtjpiiejdaiaocaaDoor
open Go.ChangeShapes Go.WideShapes Go.RowKit
set_option linter.unusedVariables false
set_option linter.unusedSimpArgs false
namespace Abs
section
variable {h : Heap} {hv : Nat → Value} {A : Nat → Prop} {w : World}
theorem All2.of_mem {α β : Type} {R : α → β → Prop} : ∀ {xs : List α} {ys : List β}, All2 R xs ys → ∀ x, x ∈ xs → ∃ y, R x y
  | _, _, .cons a t, x, hx => by
    rcases List.mem_cons.1 hx with rfl | hx
    · exact ⟨_, a⟩
    · exact All2.of_mem t x hx
theorem RepP.alive {c : CV} {v : Value} (hr : RepP h hv A w c v) {id : Nat} (hid : id ∈ capIds c) : ∃ b, look h id = some b := by
  cases c with
  | own i => simp [capIds] at hid; subst hid; obtain ⟨⟨_, _, _, _, hl⟩, _⟩ := hr; exact ⟨_, hl⟩
  | ptr i o => simp [capIds] at hid; subst hid; obtain ⟨⟨_, hl⟩, _⟩ := hr; exact ⟨_, hl⟩
  | rptr i sz j o => simp [capIds] at hid; subst hid; obtain ⟨⟨_, _, _, _, hl⟩, _⟩ := hr; exact ⟨_, hl⟩
  | itp i => simp [capIds] at hid; subst hid; obtain ⟨⟨_, _, hl⟩, _⟩ := hr; exact ⟨_, hl⟩
  | _ => simp [capIds] at hid
theorem RepT.alive {c : CV} {v : Value} (hr : RepT h hv A w c v) {id : Nat} (hid : id ∈ c.ids) : ∃ b, look h id = some b := by
  cases c with
  | own i => exact RepP.alive (A := A) (w := w) (c := .own i) hr hid
  | ptr i o => exact RepP.alive (A := A) (w := w) (c := .ptr i o) hr hid
  | rptr i sz j o => exact RepP.alive (A := A) (w := w) (c := .rptr i sz j o) hr hid
  | itp i => exact RepP.alive (A := A) (w := w) (c := .itp i) hr hid
  | fn f caps =>
    obtain ⟨vs, _, k⟩ := hr
    obtain ⟨c, hc, hi⟩ := List.mem_flatMap.1 hid
    obtain ⟨y, hy⟩ := k.of_mem c hc
    exact hy.alive hi
  | _ => simp [CV.ids] at hid
theorem Rep1.alive {x : AV} {v : Value} (hr : Rep1 h hv A w x v) {id : Nat} (hid : id ∈ x.ids1) : ∃ b, look h id = some b := by
  cases x with
  | one c => exact RepT.alive hr hid
  | agg cs =>
    obtain ⟨vs, _, k⟩ := hr
    obtain ⟨c, hc, hi⟩ := List.mem_flatMap.1 hid
    obtain ⟨y, hy⟩ := k.of_mem c hc
    exact hy.alive hi
  | tup _ => simp [AV.ids1] at hid
theorem RepV.alive {x : AV} {v : Value} (hr : RepV h hv A w x v) {id : Nat} (hid : id ∈ x.ids) : ∃ b, look h id = some b := by
  cases x with
  | tup xs =>
    obtain ⟨vs, _, k⟩ := hr
    obtain ⟨c, hc, hi⟩ := List.mem_flatMap.1 hid
    obtain ⟨y, hy⟩ := k.of_mem c hc
    exact hy.alive hi
  | one c => exact Rep1.alive (x := .one c) hr hid
  | agg cs => exact Rep1.alive (x := .agg cs) hr hid
theorem BlkRep.alive {i : Nat} {b : Blk} (hr : BlkRep h hv A w i b) {id : Nat} (hid : id ∈ b.ids) : ∃ b, look h id = some b := by
  cases b with
  | box cs =>
    obtain ⟨_, vs, _, _, _, k⟩ := hr
    obtain ⟨c, hc, hi⟩ := List.mem_flatMap.1 hid
    obtain ⟨y, hy⟩ := k.of_mem c hc
    exact hy.alive hi
  | row _ _ _ _ => simp [Blk.ids] at hid
  | iter _ _ => simp [Blk.ids] at hid
end
section
variable {P : Program} {s : ASt} {d : Option Nat} {ty t : TypeId} {pos : String} {af : Array Edge} {g : Option (Nat × Bool)}
theorem bound_ex : ∀ l : List Nat, ∃ m, ∀ x, x ∈ l → x < m
  | [] => ⟨0, fun x hx => by cases hx⟩
  | a :: l => by
    obtain ⟨m, hm⟩ := bound_ex l
    refine ⟨m + a + 1, fun x hx => ?_⟩
    rcases List.mem_cons.1 hx with rfl | hx
    · omega
    · have := hm x hx; omega
theorem look_not : ∀ (H : Heap) (k : Nat), (∀ p, p ∈ H → p.1 ≠ k) → look H k = none
  | [], _, _ => rfl
  | (i, b) :: H, k, h => by
    rw [look_cons, if_neg (h (i, b) (by simp)), look_not H k fun p hp => h p (by simp [hp])]
/-- What makes a row, as what gives a slice that is only read from then on. -/
theorem ev_frz {op : Op} {e sz n : Nat} {el : Nat → List CV} (L : List Nat) (hev : ∀ k, look s.heap k = none → memB L k = false → Ev P [] s ⟨d, op, ty, pos, af, g⟩ (· = (s.blk k (.row e sz n el)).put d (.one (.own k)))) : Ev P [] s ⟨d, op, ty, pos, af, g⟩ (· = s.put d (.one (.slc n el))) := by
  obtain ⟨k, hkm⟩ := bound_ex (s.heap.map (·.1) ++ L)
  have hk : look s.heap k = none := look_not _ _ fun p hp e => by have := hkm p.1 (by simp only [List.mem_append, List.mem_map]; exact .inl ⟨p, hp, rfl⟩); omega
  have hLk : memB L k = false := by
    rw [Bool.eq_false_iff]
    intro h
    obtain ⟨i, hi, he⟩ := List.any_eq_true.1 h
    have := hkm i (by simp [hi])
    have := Nat.eq_of_beq_eq_true he
    omega
  refine fun U T w0 a w hv ok K Q hK => hev k hk hLk U T w0 a w hv ok K Q fun s' v w' hv' hs ok' hkeep => ?_
  subst hs
  refine hK _ v w' hv' rfl ?_ hkeep
  have hheap : ∀ (s : ASt) (d : Option Nat) (x : AV), (s.put d x).heap = s.heap := fun s d x => by cases d <;> rfl
  have hm := ok'.m.hm
  rw [hheap] at hm
  have hb : look ((s.blk k (.row e sz n el)).heap) k = some (.row e sz n el) := by show look (_ :: _) k = _; rw [look_cons, if_pos rfl]
  have ho : ∀ {j : Nat} {b : Blk}, look s.heap j = some b → k ≠ j ∧ look ((s.blk k (.row e sz n el)).heap) j = some b := fun {j b} hj => by
    have hne : k ≠ j := fun e => by rw [e, hj] at hk; cases hk
    refine ⟨hne, ?_⟩
    show look (_ :: _) j = _
    rw [look_cons, if_neg hne]
    exact hj
  have hmine : ∀ b, mine s.heap hv' b → mine (s.blk k (.row e sz n el)).heap hv' b ∧ blockOf (hv' k) ≠ some b := by
    rintro b ⟨i, x, h1, h2⟩
    exact ⟨⟨i, x, (ho h1).2, h2⟩, fun h4 => (ho h1).1 (hm.inj _ _ _ _ b hb (ho h1).2 h4 h2)⟩
  have hA : ∀ b, (U b ∨ mine s.heap hv' b) → (U b ∨ mine (s.blk k (.row e sz n el)).heap hv' b) := fun b hb => hb.imp (fun x => x) fun hb => (hmine b hb).1
  have hrd : RepC (fun b => U b ∨ mine s.heap hv' b) w' (.slc n el) (hv' k) := own_read hm hb (fun b h1 h2 => h2.elim (hm.avoid b ⟨k, _, hb, h1⟩) fun h2 => (hmine b h2).2 h1) hA
  have hpass : ∀ j, (∃ b, look s.heap j = some b) → Pass (s.blk k (.row e sz n el)).heap hv' s.heap hv' j := by
    rintro j ⟨b, hj⟩
    refine ⟨?_, ?_, fun _ => rfl, ?_⟩
    · rintro ⟨e', sz', n', el', h⟩
      rw [(ho hj).2] at h
      exact ⟨e', sz', n', el', by rw [hj, h]⟩
    · rintro ⟨cs, h⟩
      rw [(ho hj).2] at h
      exact ⟨cs, by rw [hj, h]⟩
    · rintro ⟨s', p, h⟩
      rw [(ho hj).2] at h
      exact ⟨s', p, by rw [hj, h]⟩
  have hm' : HM U s.heap w' hv' := by
    refine ⟨fun i b hib => ?_, fun i i' x y b h1 h2 h3 h4 => hm.inj _ _ _ _ b (ho h1).2 (ho h2).2 h3 h4, fun b hb => hm.avoid b (hmine b hb).1, hm.ult, hm.tab.sub fun b hb => (hmine b hb).1⟩
    exact (hm.blk i b (ho hib).2).keep (fun j hj => hpass j ((ok.m.hm.blk i b hib).alive hj)) rfl (Fr.refl (fun _ => False) w') (fun _ e => e.elim) (fun b _ => hA b) (fun _ _ e => e)
  have kE : ∀ {t : Nat} {u : Value}, RepV (s.blk k (.row e sz n el)).heap hv' (fun b => U b ∨ mine (s.blk k (.row e sz n el)).heap hv' b) w' (get s.env t) u → RepV s.heap hv' (fun b => U b ∨ mine s.heap hv' b) w' (get s.env t) u := fun {t u} hr =>
    hr.keep (fun j hj => hpass j ((ok.m.env t).alive hj)) (Fr.refl (fun _ => False) w') (fun _ e => e.elim) fun b _ => hA b
  refine ⟨⟨?_, ok'.m.defers, fun t => ?_, by rw [hheap]; exact hm'⟩, ok'.fr, fun b hb hlt => ?_, fun i hi => ?_⟩
  · have := ok'.m.nt
    cases d <;> exact this
  · have h1 := ok'.m.env t
    rw [hheap] at h1 ⊢
    cases d with
    | none => exact kE h1
    | some d =>
      change RepV _ _ _ _ (get (_ :: _) t) _ at h1
      change RepV _ _ _ _ (get (_ :: _) t) _
      rw [get_cons] at h1 ⊢
      by_cases hdt : d = t
      · rw [if_pos hdt] at h1 ⊢
        obtain ⟨_, h2, _⟩ := h1
        rw [h2]
        exact hrd
      · rw [if_neg hdt] at h1 ⊢
        exact kE h1
  · rw [hheap] at hb
    refine ok'.own b ?_ hlt
    rw [hheap]
    exact (hmine b hb).1
  · have h1 := ok'.box i (by cases d <;> exact hi)
    have h2 := ok.box i (by cases d <;> exact hi)
    obtain ⟨⟨cs, h3⟩, _⟩ := h2
    rw [hheap]
    exact ⟨⟨cs, h3⟩, h1.2⟩
theorem st_call_z {f : FuncId} [hF : IsFn P f] {args : List Operand} {tys : Array TypeId} {cargs xs : List AV} {e sz n : Nat} {el : Nat → List CV} (hfn : FnC P f cargs [] (Det (.one (.own 0)) [(0, some (.row e sz n el))])) (hxs : args.map s.ev = xs) (L : List Nat) (hargs : ∀ k, All2 (ArgV s.heap (gOf [k]) L) xs cargs)
    (hc : cargs.all (fun x => x.ids.isEmpty) = true) (hL : L = [] ∨ ∀ i, i < n → (el i).all CV.scal = true) (hd : dOk s d = true) :
    Ev P [] s ⟨d, .call { callee := .value (.func f), args := args.toArray, argTypes := tys }, ty, pos, af, g⟩ (· = s.put d (.one (.slc n el))) :=
  ev_frz L fun k hk hLk => st_call_r k hk hfn hxs L (hargs k) hc rfl hLk (hL.imp id fun h => ⟨rfl, h⟩) hd rfl
theorem st_app_nil_z {α : Type} [Inhabited α] {f : α → List CV} {x y : Operand} {e sz bytes : Nat} (l : List α) (hs : ∀ x, (f x).length = sz) (hx : s.ev x = .one (.val (.slice none 0 0))) (hy : s.ev y = .one (.slc l.length (lsEl f l)) ∨ ∃ i2 e2, s.ev y = .one (.own i2) ∧ look s.heap i2 = some (.row e2 sz l.length (lsEl f l)))
    [TSl P t e sz bytes] (hfit : l.length * bytes ≤ 140737488355328) (hmax : l.length ≤ 140737488355328) (hd : dOk s d = true) :
    Ev P [] s ⟨d, .call { callee := .builtin .append, args := #[x, y], argTypes := #[t, t] }, ty, pos, af, g⟩ (· = s.put d (.one (.slc l.length (lsEl f l)))) :=
  ev_frz (e := e) (sz := sz) [] fun k hk _ => st_app_nil_ls k l hs hk hx hy hfit hmax hd
end
end Abs
end Go.Proofs.YtjpiiejdaiaocaaDoor
namespace Go.Proofs.YtjpiiejdaiaocaaDoor
open Go.ChangeShapes Go.WideShapes Go.RowKit
set_option linter.unusedVariables false
set_option linter.unusedSimpArgs false
namespace Abs
section
variable {h : Heap} {hv : Nat → Value} {A : Nat → Prop} {w w' : World}
theorem repC_cells (hs : w.heap.size ≤ w'.heap.size) (hc : ∀ p v, w.cell? p = some v → w'.cell? p = some v) {c : CV} {v : Value} (hr : RepC A w c v) : RepC A w' c v := by
  induction hr with
  | val v h => exact .val v h
  | nil elem => exact .nil elem
  | emp elem a cap hm => exact .emp elem a cap hm
  | emp0 Ad => exact .emp0 Ad
  | ifc t p => exact .ifc t p
  | slc n elem size b off cap vals hb hAb hcp hm hsz hcell hrep ih => exact .slc n elem size b off cap vals (Nat.lt_of_lt_of_le hb hs) hAb hcp hm hsz (fun i j c hi hj => hc _ _ (hcell i j c hi hj)) ih
  | cptr cells b off vals hb hAb hcell hrep ih => exact .cptr _ b off vals (Nat.lt_of_lt_of_le hb hs) hAb (fun j c hj => hc _ _ (hcell j c hj)) ih
theorem repP_mapC (hC : ∀ (c : CV) (v : Value), RepC A w c v → RepC A w' c v) {c : CV} {v : Value} (hr : RepP h hv A w c v) : RepP h hv A w' c v := by
  cases c <;> first | exact hr | exact hC _ _ hr
theorem repT_mapC (hC : ∀ (c : CV) (v : Value), RepC A w c v → RepC A w' c v) {c : CV} {v : Value} (hr : RepT h hv A w c v) : RepT h hv A w' c v := by
  cases c with
  | fn f caps => obtain ⟨vs, e, k⟩ := hr; exact ⟨vs, e, k.imp fun _ _ hxy => repP_mapC hC hxy⟩
  | own i => exact hr
  | ptr i o => exact hr
  | rptr i sz j o => exact hr
  | itp i => exact hr
  | any => exact hr
  | val v => exact hC _ _ hr
  | slc n el => exact hC _ _ hr
  | cptr cs => exact hC _ _ hr
  | emp0 => exact hC _ _ hr
  | ifc => exact hC _ _ hr
theorem rep1_mapC (hC : ∀ (c : CV) (v : Value), RepC A w c v → RepC A w' c v) {x : AV} {v : Value} (hr : Rep1 h hv A w x v) : Rep1 h hv A w' x v := by
  cases x with
  | one c => exact repT_mapC hC hr
  | agg cs => obtain ⟨vs, e, k⟩ := hr; exact ⟨vs, e, k.imp fun _ _ hxy => repT_mapC hC hxy⟩
  | tup _ => exact hr
theorem repV_mapC (hC : ∀ (c : CV) (v : Value), RepC A w c v → RepC A w' c v) {x : AV} {v : Value} (hr : RepV h hv A w x v) : RepV h hv A w' x v := by
  cases x with
  | tup xs => obtain ⟨vs, e, k⟩ := hr; exact ⟨vs, e, k.imp fun _ _ hxy => rep1_mapC hC hxy⟩
  | one c => exact rep1_mapC hC (x := .one c) hr
  | agg cs => exact rep1_mapC hC (x := .agg cs) hr
theorem blk_mapC (hC : ∀ (c : CV) (v : Value), RepC A w c v → RepC A w' c v) {T1 : Nat → Prop} {id : Nat} {b : Blk} (hf : Fr T1 w w') (hnot : ∀ g, blockOf (hv id) = some g → ¬ T1 g) (hr : BlkRep h hv A w id b) : BlkRep h hv A w' id b := by
  cases b with
  | box cells =>
    obtain ⟨g, cs, ty, h1, h2, h3⟩ := hr
    exact ⟨g, cs, ty, h1, by rw [hf.block g (Array.getElem?_eq_some_iff.1 h2).1 (hnot g (by rw [h1]; rfl))]; exact h2, h3.imp fun _ _ hxy => repT_mapC hC hxy⟩
  | row e sz n el =>
    obtain ⟨vs, h1, h2, h3⟩ := hr
    refine ⟨vs, own_fr h1 hf hnot, h2, fun i j c hi hj => ?_⟩
    obtain ⟨u, h4, h5⟩ := h3 i j c hi hj
    exact ⟨u, h4, hC _ _ h5⟩
  | iter s pos =>
    obtain ⟨g, h1, h2⟩ := hr
    exact ⟨g, h1, by rw [hf.block g (Array.getElem?_eq_some_iff.1 h2).1 (hnot g (by rw [h1]; rfl))]; exact h2⟩
end
section
variable {P : Program} {s : ASt} {d : Option Nat} {ty t e sz n : Nat} {pos : String} {af : Array Edge} {g : Option (Nat × Bool)} {x : Operand} {id : Nat} {el : Nat → List CV}
theorem st_conv_own (hx : s.ev x = .one (.own id)) (hb : look s.heap id = some (.row e sz n el)) (h0 : 0 < n) (hS : P.underlying t = some (.slice e)) (hE : P.underlying e = some (.int .u8)) (hd : dOk s d = true) :
    Ev P [id] s ⟨d, .convert t t x, ty, pos, af, g⟩ (· = (s.freeze id n el).put d (.one (.slc n el))) := fun U T w0 a w hv ok K Q hK => by
  have hm := ok.m.hm
  obtain ⟨vs, h1, h2, h3⟩ := hm.blk id _ hb
  rcases h1.2 with ⟨_, h4⟩ | ⟨g', cap, cur, h4, h5, h6, h7, h8, h9, h10⟩
  · omega
  have hval : a.eval x = hv id := by
    have := ok.m.ev x
    rw [hx] at this
    exact this.2.1
  have hlt : g' < w.heap.size := (Array.getElem?_eq_some_iff.1 h6).1
  have hsh : w.shape? g' = some (e, cur.size) := by unfold World.shape?; rw [h6]
  have hrun : (convert t t (a.eval x)).run P w = .ok (hv id) (w.freeze ⟨g', cur.size, none⟩ 1) := by
    rw [hval, h4]
    simp [convert, run_underlying hS, run_underlying hE, markStringish, hsh]
  have hw : ∀ b, b ≠ g' → (w.freeze ⟨g', cur.size, none⟩ 1).heap[b]? = w.heap[b]? := fun b hne => by
    unfold World.freeze
    rw [if_neg (by decide)]
    simp [Array.getElem?_modify, Ne.symm hne]
  have hg : (w.freeze ⟨g', cur.size, none⟩ 1).heap[g']? = some (.cells cur e (cur.size, cur.size + 1)) := by
    unfold World.freeze
    rw [if_neg (by decide)]
    simp [Array.getElem?_modify, h6]
  have hsz : (w.freeze ⟨g', cur.size, none⟩ 1).heap.size = w.heap.size := by
    unfold World.freeze
    rw [if_neg (by decide)]
    simp
  have hfr : Fr (fun b => b = g') w (w.freeze ⟨g', cur.size, none⟩ 1) := ⟨by unfold World.freeze; rw [if_neg (by decide)], by unfold World.freeze; rw [if_neg (by decide)], by unfold World.freeze; rw [if_neg (by decide)], by rw [hsz]; exact Nat.le_refl _, fun b _ hne => hw b hne⟩
  have hcell : ∀ p v, w.cell? p = some v → (w.freeze ⟨g', cur.size, none⟩ 1).cell? p = some v := fun p v hp => by
    by_cases hpg : p.block = g'
    · obtain ⟨pb, po, pv⟩ := p
      dsimp only at hpg
      subst hpg
      simp only [World.cell?, h6] at hp
      simp only [World.cell?, hg]
      exact hp
    · exact (World.cell?_of_block (w := w) (hw _ hpg)).trans hp
  have ok1 := ok.freeze hb
  have hmg : ∀ b, mine (s.freeze id n el).heap hv b → mine s.heap hv b ∧ b ≠ g' := by
    rintro b ⟨i, y, e1, e2⟩
    rw [look_frz] at e1
    by_cases hi : id = i
    · rw [if_pos hi] at e1; cases e1
    · rw [if_neg hi] at e1
      cases hl : look s.heap i with
      | none => rw [hl] at e1; cases e1
      | some b0 => exact ⟨⟨i, b0, hl, e2⟩, fun e3 => hi (hm.inj _ _ _ _ b hb hl (by rw [h4, e3]; rfl) e2)⟩
  have hC : ∀ {A : Nat → Prop} (c : CV) (v : Value), RepC A w c v → RepC A (w.freeze ⟨g', cur.size, none⟩ 1) c v := fun c v hr => repC_cells (by rw [hsz]; exact Nat.le_refl _) hcell hr
  have hm1 := ok1.m.hm
  have hrd : RepC (fun b => U b ∨ mine (s.freeze id n el).heap hv b) w (.slc n el) (hv id) := own_read hm hb (fun b e1 e2 => e2.elim (hm.avoid b ⟨id, _, hb, e1⟩) fun e2 => (hmg b e2).2 (by rw [h4] at e1; simp [blockOf] at e1; exact e1.symm)) fun b hb => hb.imp (fun x => x) fun hb => (hmg b hb).1
  have ok2 : Ok U T w0 (s.freeze id n el) a (w.freeze ⟨g', cur.size, none⟩ 1) hv := by
    refine ⟨⟨ok1.m.nt, ok1.m.defers, fun t => repV_mapC hC (ok1.m.env t), ⟨fun i b hib => ?_, hm1.inj, hm1.avoid, fun b hb => by rw [hsz]; exact hm1.ult b hb, hm.tab.fr hfr (fun b e => ⟨id, _, hb, by rw [h4, e]; rfl⟩) fun b hb _ => (hmg b hb).1⟩⟩, ok1.fr.trans hfr fun b hlt0 hb => ?_, ok1.own, ok1.box⟩
    · exact blk_mapC hC hfr (fun b e1 => (hmg b ⟨i, _, hib, e1⟩).2) (hm1.blk i b hib)
    · subst hb
      exact ok.own _ ⟨id, _, by assumption, by rw [h4]; rfl⟩ hlt0
  have ok3 := ok2.next (w' := w.freeze ⟨g', cur.size, none⟩ 1) (h' := (s.freeze id n el).heap) (hv' := hv) (Fr.refl (fun _ => False) _) (fun _ e => e.elim) (fun _ id _ => Pass.refl _ _ id) (fun id _ => Pass.refl _ _ id) ok2.m.hm (fun _ h _ => h) (d := d) (r := .one (.slc n el)) (v := hv id) (hC _ _ hrd) hd
  unfold Oper.wp
  have hrun2 : (execOp a.eval ⟨d, .convert t t x, ty, pos, af, g⟩).run P w = .ok (.value (hv id)) (w.freeze ⟨g', cur.size, none⟩ 1) := by simp only [execOp, Sem.run_bind, hrun, Result.andThen_ok, Sem.run_pure]
  rw [hrun2]
  exact hK _ _ _ _ rfl ok3 fun _ _ _ => rfl
theorem st_assign_own (id e sz : Nat) (el : Nat → List CV) (hid : look s.heap id = none) (hx : s.ev x = .one (.val (.slice none 0 0))) (hd : dOk s d = true) :
    Ev P [] s ⟨d, .assign x, ty, pos, af, g⟩ (· = (s.blk id (.row e sz 0 el)).put d (.one (.own id))) := fun U T w0 a w hv ok K Q hK => by
  have hval : a.eval x = .slice none 0 0 := ok.m.val hx
  unfold Oper.wp
  have hrun2 : (execOp a.eval ⟨d, .assign x, ty, pos, af, g⟩).run P w = .ok (.value (.slice none 0 0)) w := by simp only [execOp, hval]; rfl
  rw [hrun2]
  refine hK _ _ _ _ rfl (ok.new (blk := .row e sz 0 el) (u := .slice none 0 0) hid (Fr.refl (fun _ => False) w) (fun g hg => by cases hg) ⟨[], by rw [upd_same]; exact ⟨by simp, .inl ⟨rfl, rfl⟩⟩, fun i hi => by omega, fun i j c hi => by omega⟩ ⟨⟨e, sz, 0, el, look_same _ _ _⟩, (upd_same _ _ _).symm, none, 0, 0, rfl⟩ hd) fun j _ ⟨b, hb⟩ => upd_other fun e => by subst e; rw [hid] at hb; cases hb
end
end Abs
end Go.Proofs.YtjpiiejdaiaocaaDoor
namespace Go.Proofs.YtjpiiejdaiaocaaDoor
open Go.ChangeShapes Go.WideShapes Go.RowKit
set_option linter.unusedVariables false
set_option linter.unusedSimpArgs false
namespace Abs
theorem SD_congr {D D' : Nat → Bool} : ∀ (i : Nat) (os : List Oper) (xs : List Add) (s : ASt), (∀ j, i ≤ j → j < i + os.length → D j = D' j) → SD D i os xs s = SD D' i os xs s
  | i, [], [], s, h => rfl
  | i, [], _ :: _, s, h => rfl
  | i, _ :: _, [], s, h => rfl
  | i, o :: os, x :: xs, s, h => by
    show SD D (i + 1) os xs (if D i then s.add o.dst x else s) = SD D' (i + 1) os xs (if D' i then s.add o.dst x else s)
    rw [h i (Nat.le_refl _) (by simp)]
    exact SD_congr (i + 1) os xs _ fun j h1 h2 => h j (by omega) (by simp; omega)
def sufLate (l : List Oper) (m e : Nat) : Bool := (List.range l.length).all fun i => Nat.blt i m || match l[i]? with
  | some o => (List.range i).all fun j => (Oper.edges o).contains j || (Nat.beq i m && Nat.beq j e)
  | none => false
def lateOk (l : List Oper) (m e : Nat) : Bool := backOk l && sufLate l m e && Nat.ble m l.length && nodupB (dsts (l.take m))
section
variable {P : Program} {l : List Oper} {m : Nat} {al : List Add} {s : ASt} {Q : Exit → ASt → Prop}
theorem draw_late {e : Nat} {oe om : Oper} (he : e < m) (hoe : l[e]? = some oe) (hom : l[m]? = some om) (hst : lateOk l m e = true) (hkeys : nodupB (keysOf al) = true) (hfr : ∀ id, id ∈ keysOf al → look s.heap id = none) (hob : Obs P l m al s 0 (l.take m) al)
    (hrest : AOps P l.toArray (l.drop m) (SD (fun _ => true) 0 (l.take m) al s) Q)
    (hlate : AOps P l.toArray (om :: oe :: l.drop (m + 1)) (SD (fun j => !Nat.beq j e) 0 (l.take m) al (s.hide (dsts (l.take m)))) Q) {U T : Nat → Prop} {w0 : Base} {a : Act} {w : World} {hv : Nat → Value} (ok : Ok U T w0 s a w hv) :
    wpAny P .any l.toArray (Post U T w0 Q) l.toArray.size (Array.replicate l.toArray.size false) a w := by
  simp only [lateOk, Bool.and_eq_true] at hst
  obtain ⟨⟨⟨hback, hsuf⟩, hm⟩, hdst⟩ := hst
  have hm' := Nat.le_of_ble_eq_true hm
  have ap : Apart l m al s := by
    refine ⟨Obs.length hob, fun i j o o' t h1 h2 h3 h4 => nodup_filterMap (nodupB_nodup hdst) i j o o' t h1 h2 h3 h4, fun i j x y id h1 h2 h3 h4 => nodup_flatMap (nodupB_nodup hkeys) i j x y id h1 h2 h3 h4, fun i x id h1 h2 => hfr id (List.mem_flatMap.2 ⟨x, List.mem_of_getElem? h1, h2⟩)⟩
  have hbk : ∀ i o, l[i]? = some o → ∀ j, j ∈ Oper.edges o → j < i := fun i o ho j hj => by
    have h1 := List.all_eq_true.1 hback i (List.mem_range.2 (List.getElem?_eq_some_iff.1 ho).1)
    rw [ho] at h1
    have h2 := List.all_eq_true.1 h1 j hj
    simpa [Nat.blt_eq] using h2
  have hml : m < l.length := (List.getElem?_eq_some_iff.1 hom).1
  have hsf : ∀ i o, m ≤ i → l[i]? = some o → ∀ j, j < i → (m < i ∨ j ≠ e) → j ∈ Oper.edges o := fun i o hi ho j hj hne => by
    have h1 := List.all_eq_true.1 hsuf i (List.mem_range.2 (List.getElem?_eq_some_iff.1 ho).1)
    rw [Bool.or_eq_true] at h1
    rcases h1 with h1 | h1
    · have : i < m := by simpa [Nat.blt_eq] using h1
      omega
    · rw [ho] at h1
      have h2 := List.all_eq_true.1 h1 j (List.mem_range.2 hj)
      rw [Bool.or_eq_true] at h2
      rcases h2 with h2 | h2
      · exact List.contains_iff_mem.1 h2
      · rw [Bool.and_eq_true] at h2
        have h3 := Nat.eq_of_beq_eq_true h2.1
        have h4 := Nat.eq_of_beq_eq_true h2.2
        omega
  -- where the run may stand
  let Inv : Array Bool → Act → World → Prop := fun listed a w =>
    (∀ k o, l[k]? = some o → listed.getD k false = true → ∀ j, j ∈ Oper.edges o → listed.getD j false = true) ∧
    (((∀ k, m ≤ k → listed.getD k false = false) ∧ ∃ hv, Ok U T w0 (SD (fun j => listed.getD j false) 0 (l.take m) al (s.hide (dsts (l.take m)))) a w hv) ∨
     (∃ k, m ≤ k ∧ k ≤ l.length ∧ (∀ j, j < l.length → (listed.getD j false = true ↔ j < k)) ∧ wpList P l.toArray (Post U T w0 Q) (l.drop k) a w) ∨
     ((∀ j, j < l.length → (listed.getD j false = true ↔ (j ≤ m ∧ j ≠ e))) ∧ wpList P l.toArray (Post U T w0 Q) (oe :: l.drop (m + 1)) a w))
  -- all of the first part is done
  have full : ∀ (listed : Array Bool) a w hv, (∀ k, m ≤ k → listed.getD k false = false) → (∀ k, k < m → listed.getD k false = true) → Ok U T w0 (SD (fun j => listed.getD j false) 0 (l.take m) al (s.hide (dsts (l.take m)))) a w hv → wpList P l.toArray (Post U T w0 Q) (l.drop m) a w := by
    intro listed a w hv hno hyes ok
    refine hrest U T w0 a w hv (ok.equiv (by rw [(SD_nt _ _ _ _).1, (SD_nt _ _ _ _).1]; rfl) (by rw [(SD_nt _ _ _ _).2, (SD_nt _ _ _ _).2]; rfl) (fun t => ?_) (fun id => ?_))
    · by_cases hex : ∃ (j : Nat) (o : Oper), (l.take m)[j]? = some o ∧ o.dst = some t
      · obtain ⟨j, o, h1, h2⟩ := hex
        have hjl : j < al.length := by rw [← ap.len]; exact (List.getElem?_eq_some_iff.1 h1).1
        have hjm : j < m := by have := (List.getElem?_eq_some_iff.1 h1).1; rw [List.length_take] at this; omega
        have hx : al[j]? = some al[j] := List.getElem?_eq_getElem hjl
        have hu : ∀ (j' : Nat) (o' : Oper), (l.take m)[j']? = some o' → j' < al.length → o'.dst = some t → j' = j := fun j' o' h3 _ h4 => ap.dst j' j o' o t h3 h1 h4 h2
        rw [SD_get_some 0 _ al _ t j o _ h1 hx h2 (by simp) hu, SD_get_some 0 _ al _ t j o _ h1 hx h2 (by simpa using hyes j hjm) hu]
      · have hn : ∀ (D : Nat → Bool) (j : Nat) (o : Oper), (l.take m)[j]? = some o → D (0 + j) = true → j < al.length → o.dst ≠ some t := fun D j o h1 _ _ h2 => hex ⟨j, o, h1, h2⟩
        rw [SD_get_none 0 _ al _ t (hn _), SD_get_none 0 _ al _ t (hn _), hide_get, if_neg]
        intro ht
        obtain ⟨o, h1, h2⟩ := List.mem_filterMap.1 ht
        obtain ⟨j, h3⟩ := List.mem_iff_getElem?.1 h1
        exact hex ⟨j, o, h3, h2⟩
    · by_cases hex : ∃ (j : Nat) (x : Add), al[j]? = some x ∧ id ∈ x.blks.map (·.1)
      · obtain ⟨j, x, h1, h2⟩ := hex
        have hjl : j < (l.take m).length := by rw [ap.len]; exact (List.getElem?_eq_some_iff.1 h1).1
        have hjm : j < m := by rw [List.length_take] at hjl; omega
        have hu : ∀ (j' : Nat) (x' : Add), al[j']? = some x' → id ∈ x'.blks.map (·.1) → j' = j := fun j' x' h3 h4 => ap.key j' j x' x id h3 h1 h4 h2
        rw [SD_look_some 0 _ al _ id j x hjl h1 h2 (by simp) hu, SD_look_some 0 _ al _ id j x hjl h1 h2 (by simpa using hyes j hjm) hu]
      · have hn : ∀ (D : Nat → Bool) (j : Nat) (x : Add), al[j]? = some x → D (0 + j) = true → j < (l.take m).length → id ∉ x.blks.map (·.1) := fun D j x h1 _ _ h2 => hex ⟨j, x, h1, h2⟩
        rw [SD_look_none 0 _ al _ id (hn _), SD_look_none 0 _ al _ id (hn _)]
        rfl
  have key : ∀ fuel (listed : Array Bool) a w, listed.size = l.length → unl l.length listed ≤ fuel → Inv listed a w → wpAny P .any l.toArray (Post U T w0 Q) fuel listed a w := by
    intro fuel
    -- nothing is ready: all is done
    have done : ∀ (listed : Array Bool) a w, listed.size = l.length → Inv listed a w → Region.ready .any l.toArray listed = [] → Post U T w0 Q .normal a w := by
      intro listed a w hs hinv hr
      have hall : ∀ n, n ≤ l.length → ∀ j, j < n → listed.getD j false = true := by
        intro n
        induction n with
        | zero => intro _ j hj; omega
        | succ n ih =>
          intro hn j hj
          by_cases hjn : j < n
          · exact ih (by omega) j hjn
          · have hj2 : j = n := by omega
            subst hj2
            cases hg : listed.getD j false with
            | true => rfl
            | false =>
              exfalso
              have hjl : j < l.length := by omega
              have ho : l[j]? = some l[j] := List.getElem?_eq_getElem hjl
              have : j ∈ Region.ready .any l.toArray listed := mem_ready.2 ⟨by simpa [Array.getD, hs, hjl] using hg, l[j], by simp [hjl], fun e he hb => ih (by omega) _ (hbk j _ ho _ (edges_mem he hb))⟩
              rw [hr] at this
              cases this
      have hall' := hall l.length (Nat.le_refl _)
      obtain ⟨_, ⟨hno, hv, ok⟩ | ⟨k, h1, h2, h3, h4⟩ | ⟨h3, h4⟩⟩ := hinv
      · have hml : m = l.length := by
          rcases Nat.lt_or_ge m l.length with h | h
          · have := hno m (Nat.le_refl _); rw [hall' m h] at this; cases this
          · omega
        omega
      · have hk : k = l.length := by
          rcases Nat.lt_or_ge k l.length with h | h
          · have := (h3 k h).1 (hall' k h); omega
          · omega
        rw [hk, List.drop_length] at h4
        exact h4
      · have := (h3 e (by omega)).1 (hall' e (by omega))
        exact absurd rfl this.2
    induction fuel with
    | zero =>
      intro listed a w hs hu hinv
      have hr : Region.ready .any l.toArray listed = [] := by
        cases hr : Region.ready .any l.toArray listed with
        | nil => rfl
        | cons i r =>
          exfalso
          have hi : i ∈ Region.ready .any l.toArray listed := by rw [hr]; simp
          obtain ⟨h1, o, h2, h3⟩ := mem_ready.1 hi
          obtain ⟨h4, h5⟩ := listed_get hs h1
          have hmem : i ∈ (List.range l.length).filter fun j => !listed.getD j false := List.mem_filter.2 ⟨List.mem_range.2 h4, by rw [h5]; rfl⟩
          have hpos := List.length_pos_of_mem hmem
          unfold unl at hu
          omega
      exact ⟨hr, done listed a w hs hinv hr⟩
    | succ fuel ih =>
      intro listed a w hs hu hinv
      refine ⟨done listed a w hs hinv, fun i hi => ?_⟩
      obtain ⟨h1, o, h2, h3⟩ := mem_ready.1 hi
      obtain ⟨hil, hi0⟩ := listed_get hs h1
      have ho : l[i]? = some o := by simpa using h2
      have hs' : (listed.setIfInBounds i true).size = l.length := by simpa using hs
      have hu' : unl l.length (listed.setIfInBounds i true) ≤ fuel := by have := unl_set hs hil hi0; omega
      have hset : ∀ j, (listed.setIfInBounds i true).getD j false = true ↔ (listed.getD j false = true ∨ j = i) := fun j => by
        by_cases hij : i = j
        · subst hij
          have : (listed.setIfInBounds i true).getD i false = true := by simp [Array.getD, hs, hil]
          exact ⟨fun _ => .inr rfl, fun _ => this⟩
        · rw [getD_set_ne false hij]
          exact ⟨.inl, fun h => h.resolve_right (Ne.symm hij)⟩
      obtain ⟨hcl, hcase⟩ := hinv
      have hedge : ∀ j, j ∈ Oper.edges o → listed.getD j false = true := fun j hj => by
        obtain ⟨e, he, hb, hon⟩ := mem_edges hj
        rw [← hon]
        exact h3 e he hb
      have hcl' : ∀ k o', l[k]? = some o' → (listed.setIfInBounds i true).getD k false = true → ∀ j, j ∈ Oper.edges o' → (listed.setIfInBounds i true).getD j false = true := fun k o' hk hl j hj => by
        rw [hset] at hl ⊢
        rcases hl with hl | hl
        · exact .inl (hcl k o' hk hl j hj)
        · subst hl; rw [ho] at hk; injection hk with hk; subst hk; exact .inl (hedge j hj)
      -- one step of the second part
      have step2 : ∀ k, m ≤ k → (∀ j, j < l.length → (listed.getD j false = true ↔ j < k)) → wpList P l.toArray (Post U T w0 Q) (l.drop k) a w → wpOp P l.toArray (Post U T w0 Q) i (wpAny P .any l.toArray (Post U T w0 Q) fuel (listed.setIfInBounds i true)) a w := by
        intro k hk hiff hwp
        have hik : i = k := by
          have h4 : ¬ i < k := fun h => by have := (hiff i hil).2 h; rw [hi0] at this; cases this
          rcases Nat.lt_or_ge k i with h5 | h5
          · have := (hiff k (by omega)).1 (hedge k (hsf i o (by omega) ho k h5 (.inl (by omega)))); omega
          · omega
        subst hik
        have hdrop : l.drop i = o :: l.drop (i + 1) := by
          rw [List.drop_eq_getElem_cons hil]
          congr 1
          have := List.getElem?_eq_getElem hil
          rw [ho] at this
          injection this with this
          exact this.symm
        rw [hdrop] at hwp
        unfold wpOp
        rw [h2]
        simp only
        have next : ∀ a w, wpList P l.toArray (Post U T w0 Q) (l.drop (i + 1)) a w → wpAny P .any l.toArray (Post U T w0 Q) fuel (listed.setIfInBounds i true) a w := fun a w hwp => by
          refine ih _ a w hs' hu' ⟨hcl', .inr (.inl ⟨i + 1, by omega, by omega, fun j hj => ?_, hwp⟩)⟩
          rw [hset, hiff j hj]
          omega
        unfold wpList at hwp
        split
        · rename_i hw
          rw [if_pos hw] at hwp
          exact hwp.imp (Oper.wp_mono next) id
        · rename_i hw
          rw [if_neg hw] at hwp
          exact next _ _ hwp
      rcases hcase with ⟨hno, hv, ok⟩ | ⟨k, hk1, hk2, hiff, hwp⟩ | ⟨hiff, hwp⟩
      · by_cases him : i < m
        · -- one of the first part
          have hot : (l.take m)[i]? = some o := by rw [List.getElem?_take, if_pos him]; exact ho
          obtain ⟨x, hx, deps, hdeps, hobi⟩ := Obs.at hob hot
          simp only [Nat.zero_add] at hdeps
          have hdl := depsOk_sound (D := fun j => listed.getD j false) (fun k o' hk hor j hj => by
            rcases hor with hl | rfl
            · exact hcl k o' hk hl j hj
            · rw [ho] at hk; injection hk with hk; subst hk; exact hedge j hj) [] deps (fun j hj => by cases hj) hdeps
          have hle := SD_le ap (D := memB deps) (D' := fun j => listed.getD j false) fun j hj => hdl j (memB_mem hj)
          have hob' := hobi _ hle (SD_fresh ap hx (by simp [hi0]))
          obtain ⟨e1, e2⟩ := SD_add ap (D := fun j => listed.getD j false) (D' := fun j => (listed.setIfInBounds i true).getD j false) hot hx (by simp [hi0]) hset
          have next : ∀ a w hv, Ok U T w0 ((SD (fun j => listed.getD j false) 0 (l.take m) al (s.hide (dsts (l.take m)))).add o.dst x) a w hv → wpAny P .any l.toArray (Post U T w0 Q) fuel (listed.setIfInBounds i true) a w := fun a w hv ok => by
            refine ih _ a w hs' hu' ⟨hcl', .inl ⟨fun k hk => ?_, hv, ok.equiv (by rw [(SD_nt _ _ _ _).1, (add_nt _ _ _).1, (SD_nt _ _ _ _).1]) (by rw [(SD_nt _ _ _ _).2, (add_nt _ _ _).2, (SD_nt _ _ _ _).2]) e1 e2⟩⟩
            cases hg : (listed.setIfInBounds i true).getD k false with
            | false => rfl
            | true =>
              rcases (hset k).1 hg with h5 | h5
              · rw [hno k hk] at h5; cases h5
              · omega
          unfold wpOp
          rw [h2]
          simp only
          rcases hob' with ⟨hwant, hev⟩ | ⟨hwant, rfl, hd⟩
          · rw [if_pos (hwant.wanted ok.m)]
            exact .inl (hev U T w0 a w hv ok _ _ fun s' v w' hv' hs ok' _ => next _ _ hv' (hs ▸ ok'))
          · rw [if_neg (by rw [hwant.wanted ok.m]; simp)]
            refine next _ _ hv ?_
            have := ok.next (Fr.refl (fun _ => False) w) (fun _ e => e.elim) (fun _ id _ => Pass.refl _ _ id) (fun id _ => Pass.refl _ _ id) ok.m.hm (fun _ h _ => h) (d := o.dst) (r := .tup []) (v := undef) ⟨[], rfl, .nil⟩ hd
            exact this
        · -- the first of the second part
          have him2 : i = m := by
            rcases Nat.lt_or_ge m i with h5 | h5
            · have h6 := hedge m (hsf i o (by omega) ho m h5 (.inl h5))
              rw [hno m (Nat.le_refl _)] at h6; cases h6
            · omega
          have hyes : ∀ k, k < m → k ≠ e → listed.getD k false = true := fun k hk hne => hedge k (hsf i o (by omega) ho k (by omega) (.inr hne))
          cases hle : listed.getD e false with
          | true =>
            have hyes' : ∀ k, k < m → listed.getD k false = true := fun k hk => by
              by_cases h5 : k = e
              · rw [h5]; exact hle
              · exact hyes k hk h5
            refine step2 m (Nat.le_refl _) (fun j hj => ⟨fun h => ?_, fun h => hyes' j h⟩) (full listed a w hv hno hyes' ok)
            rcases Nat.lt_or_ge j m with h5 | h5
            · exact h5
            · rw [hno j h5] at h; cases h
          | false =>
            subst him2
            rw [ho] at hom
            injection hom with hom
            subst hom
            have hD : ∀ j, j < i → listed.getD j false = !Nat.beq j e := fun j hj => by
              by_cases h5 : j = e
              · rw [h5, hle, Nat.beq_refl]; rfl
              · rw [hyes j hj h5]
                cases h6 : Nat.beq j e
                · rfl
                · exact absurd (Nat.eq_of_beq_eq_true h6) h5
            have hSD : SD (fun j => listed.getD j false) 0 (l.take i) al (s.hide (dsts (l.take i))) = SD (fun j => !Nat.beq j e) 0 (l.take i) al (s.hide (dsts (l.take i))) := SD_congr 0 _ _ _ fun j _ hj => hD j (by rw [List.length_take] at hj; omega)
            rw [hSD] at ok
            have hwp := hlate U T w0 a w hv ok
            unfold wpOp
            rw [h2]
            simp only
            have next : ∀ a w, wpList P l.toArray (Post U T w0 Q) (oe :: l.drop (i + 1)) a w → wpAny P .any l.toArray (Post U T w0 Q) fuel (listed.setIfInBounds i true) a w := fun a w hwp => by
              refine ih _ a w hs' hu' ⟨hcl', .inr (.inr ⟨fun j hj => ?_, hwp⟩)⟩
              rw [hset]
              constructor
              · rintro (h5 | h5)
                · refine ⟨?_, fun h6 => by rw [h6, hle] at h5; cases h5⟩
                  rcases Nat.lt_or_ge j i with h6 | h6
                  · omega
                  · rw [hno j h6] at h5; cases h5
                · exact ⟨by omega, by omega⟩
              · rintro ⟨h5, h6⟩
                by_cases h7 : j = i
                · exact .inr h7
                · exact .inl (hyes j (by omega) h6)
            unfold wpList at hwp
            split
            · rename_i hw
              rw [if_pos hw] at hwp
              exact hwp.imp (Oper.wp_mono next) id
            · rename_i hw
              rw [if_neg hw] at hwp
              exact next _ _ hwp
      · exact step2 k hk1 hiff hwp
      · have hie : i = e := by
          by_cases h5 : i = e
          · exact h5
          · have h6 : ¬ i ≤ m := fun h6 => by have := (hiff i hil).2 ⟨h6, h5⟩; rw [hi0] at this; cases this
            have h7 := hedge e (hsf i o (by omega) ho e (by omega) (.inl (by omega)))
            exact absurd rfl ((hiff e (by omega)).1 h7).2
        subst hie
        rw [ho] at hoe
        injection hoe with hoe
        subst hoe
        unfold wpOp
        rw [h2]
        simp only
        have next : ∀ a w, wpList P l.toArray (Post U T w0 Q) (l.drop (m + 1)) a w → wpAny P .any l.toArray (Post U T w0 Q) fuel (listed.setIfInBounds i true) a w := fun a w hwp => by
          refine ih _ a w hs' hu' ⟨hcl', .inr (.inl ⟨m + 1, by omega, by omega, fun j hj => ?_, hwp⟩)⟩
          rw [hset, hiff j hj]
          constructor
          · rintro (h5 | h5) <;> omega
          · intro h5
            by_cases h6 : j = i
            · exact .inr h6
            · exact .inl ⟨by omega, h6⟩
        unfold wpList at hwp
        split
        · rename_i hw
          rw [if_pos hw] at hwp
          exact hwp.imp (Oper.wp_mono next) id
        · rename_i hw
          rw [if_neg hw] at hwp
          exact next _ _ hwp
  refine key _ _ a w (by simp) ?_ ⟨fun k o _ h => ?_, .inl ⟨fun k _ => ?_, hv, ?_⟩⟩
  · unfold unl
    have := List.length_filter_le (fun j => !(Array.replicate l.toArray.size false).getD j false) (List.range l.length)
    simpa using this
  · exfalso; simp [Array.getD] at h
  · simp [Array.getD]
  · have h0 := ok_hide ok (dsts (l.take m))
    refine h0.equiv (SD_nt _ _ _ _).1 (SD_nt _ _ _ _).2 (fun t => SD_get_none 0 _ al _ t fun j o' _ h4 _ _ => ?_) fun id => SD_look_none 0 _ al _ id fun j x' _ h4 _ _ => ?_
    · simp [Array.getD] at h4
    · simp [Array.getD] at h4
theorem aw_late {id : Nat} {oe om : Oper} (m e : Nat) (al : List Add) (hmix : P.follows .mixedOrders = true) (he : e < m) (hoe : l[e]? = some oe) (hom : l[m]? = some om) (hst : (lateOk l m e && noDefer l) = true) (hkeys : nodupB (keysOf al) = true) (hfr : (keysOf al).all (fun id => (look s.heap id).isNone) = true) (hob : Obs P l m al s 0 (l.take m) al)
    (hrest : AOps P l.toArray (l.drop m) (SD (fun _ => true) 0 (l.take m) al s) Q) (hlate : AOps P l.toArray (om :: oe :: l.drop (m + 1)) (SD (fun j => !Nat.beq j e) 0 (l.take m) al (s.hide (dsts (l.take m)))) Q) : AW P (.region id l.toArray true) s Q := fun n r U T w0 a w hv ok mk => by
  rw [Bool.and_eq_true] at hst
  exact wpIn_region_any hmix (any_in (ds := a.defers) (a := bare a) (fun e a' w' h' => post_in ok mk h') post_calm (noDefer_at hst.2) _ _ _ (draw_late he hoe hom hst.1 hkeys (fun id hid => by simpa using List.all_eq_true.1 hfr id hid) hob hrest hlate (by
    have := ok.base.next (w' := w.drew) (Fr.drew (fun _ => False) w) (fun _ e => e.elim) (fun _ id _ => Pass.refl _ _ id) (fun id _ => Pass.refl _ _ id) (ok.m.hm.keep (Fr.drew _ w)) (fun _ h _ => h) (d := none) (r := .one .any) (v := undef) trivial rfl
    exact this)))
end
end Abs
end Go.Proofs.YtjpiiejdaiaocaaDoor
namespace Go.Proofs.YtjpiiejdaiaocaaDoor
open Go.ChangeShapes Go.WideShapes Go.RowKit
set_option linter.unusedVariables false
set_option linter.unusedSimpArgs false
namespace Abs
abbrev NoA : Nat → Prop := fun _ => False
/-- What came in reads as f says. -/
def rC {α : Type} (f : α → List CV) : Kit.Rel α := fun w _ x cs => All2 (RepC NoA w) (f x) cs
theorem opens_c_byte {P : Program} {t : TypeId} (ht : P.underlying t = some (.int .u8)) (hc : P.cellsOf t = 1) : Kit.Opens P t 1 (rC byC) :=
  ⟨hc, fun H enc w base spare held fuel cs x h => by
    obtain ⟨b, hb⟩ := (Kit.opens_byte ht hc).2 H enc w base spare held fuel cs x h
    have hb2 : cs = [.int .u8 (b.toNat : Int)] := hb
    exact ⟨b, by rw [hb2]; exact .cons (.val _ rfl) .nil⟩⟩
theorem opens_c_slice {α : Type} [Inhabited α] {P : Program} {t e : TypeId} {size : Nat} {f : α → List CV} (h0 : 0 < size) (hs : ∀ x, (f x).length = size) (ht : P.underlying t = some (.slice e)) (hc : P.cellsOf t = 1) (ho : Kit.Opens P e size (rC f)) : Kit.Opens P t 1 (rC fun l => [CV.ls f l]) := by
  refine ⟨hc, fun H enc w base spare held fuel cs x h => ?_⟩
  rcases Deep.open_slice ht h with ⟨e, _⟩ | ⟨a, len, cap, m, n, D, Pl, e, hb, hl, hm, hmm, hx, hel⟩
  · exact ⟨[], by rw [e]; exact .cons (.nil _) .nil⟩
  · have hml : len ≤ m := by rw [hmm]; split <;> omega
    rw [ho.1] at hel hx
    have key : ∀ k, k ≤ len → ∃ xs : List α, xs.length = k ∧ ∀ (i : Nat) (y : α), xs[i]? = some y → ∀ (j : Nat) (c : CV), (f y)[j]? = some c → ∃ u, w.cell? (a.add (i * size + j)) = some u ∧ RepC NoA w c u := by
      intro k
      induction k with
      | zero => exact fun _ => ⟨[], rfl, fun i y hy => by simp at hy⟩
      | succ k ih =>
        intro hk
        obtain ⟨xs, hxl, hcell⟩ := ih (by omega)
        obtain ⟨cs', hcs, htr⟩ := hel k (by omega)
        obtain ⟨_, hcl, hat⟩ := World.cells?_some hcs
        obtain ⟨y, hy⟩ := ho.2 _ _ _ _ _ _ _ _ _ htr
        have hy' : All2 (RepC NoA w) (f y) cs' := hy
        refine ⟨xs ++ [y], by simp [hxl], fun i z hz j c hj => ?_⟩
        by_cases hi : i < xs.length
        · rw [List.getElem?_append_left hi] at hz
          exact hcell i z hz j c hj
        · rw [List.getElem?_append_right (by omega)] at hz
          have hi0 : i = k := by
            have := (List.getElem?_eq_some_iff.1 hz).1
            simp at this
            omega
          subst hi0
          have hzy : y = z := by rw [hxl, Nat.sub_self] at hz; simpa using hz
          subst hzy
          obtain ⟨u, hu, hr⟩ := hy'.get hj
          have hj2 : j < size := by
            have := (List.getElem?_eq_some_iff.1 hj).1
            rw [hs] at this
            exact this
          have h3 := hat j hj2
          rw [Deep.add_add, hu] at h3
          exact ⟨u, h3, hr⟩
    obtain ⟨xs, hxl, hcell⟩ := key len (Nat.le_refl _)
    refine ⟨xs, ?_⟩
    rw [e]
    refine .cons ?_ .nil
    show RepC NoA w (.slc xs.length (lsEl f xs)) (.slice (some a) len cap)
    rw [hxl]
    have hget : ∀ i, i < len → xs[i]? = some (xs.getD i default) := fun i hi => by
      have : i < xs.length := by omega
      simp [List.getD, this]
    rcases Nat.eq_zero_or_pos len with hl0 | hl0
    · rw [hl0]; exact .emp _ a cap hm
    · have hf0 : ∃ c, (f (xs.getD 0 default))[0]? = some c := ⟨_, List.getElem?_eq_getElem (by rw [hs]; exact h0)⟩
      obtain ⟨c0, hc0⟩ := hf0
      obtain ⟨u0, hu0, _⟩ := hcell 0 _ (hget 0 hl0) 0 c0 hc0
      have hblk : a.block < w.heap.size := by
        have := World.block_lt_of_cell? w _ hu0
        rwa [show (a.add (0 * size + 0)).block = a.block from by unfold Addr.add; split <;> simp_all] at this
      obtain ⟨b, off, spot⟩ := a
      have hsp : spot = none := by
        have := World.cell?_spot hu0
        unfold Addr.add at this
        split at this <;> simp_all
      subst hsp
      have hadd : ∀ j, (⟨b, off, none⟩ : Addr).add j = ⟨b, off + j, none⟩ := fun j => by unfold Addr.add; split <;> simp_all
      refine RepC.slc len _ size b off cap (fun i j => (w.cell? ⟨b, off + (i * size + j), none⟩).getD undef) hblk (fun h => h) hl hm (fun i _ => hs _) (fun i j c hi hj => ?_) (fun i j c hi hj => ?_)
      · obtain ⟨u, hu, _⟩ := hcell i _ (hget i hi) j c hj
        rw [hadd] at hu
        rw [hu]; rfl
      · obtain ⟨u, hu, hr⟩ := hcell i _ (hget i hi) j c hj
        rw [hadd] at hu
        rw [hu]; exact hr
section
variable {P : Program} {w : World}
theorem no_mine {hv : Nat → Value} {b : Nat} (h : mine [] hv b) : False := by
  obtain ⟨_, _, h1, _⟩ := h
  cases h1
abbrev InV (w : World) (x : AV) (v : Value) : Prop := RepV [] (fun _ => undef) (fun b => NoA b ∨ mine [] (fun _ => undef) b) w x v
theorem in_c {c : CV} {v : Value} (h : RepC NoA w c v) : InV w (.one c) v := rep_of_c (h.keep (Fr.refl (fun _ => False) w) (fun _ e => e.elim) fun _ _ e => e.elim (fun x => x) no_mine)
theorem in_v {v : Value} (h : v.oneCell' = true) : InV w (.one (.val v)) v := rep_of_c (.val v h)
/-- A contract that answers 'true' of arguments from outside, as a law's walk. -/
theorem fnc_law {f : FuncId} {xs : List AV} {vs : Array Value} (hfn : FnC P f xs [] (Det (.one (.val (.bool true))) [])) (hargs : All2 (InV w) xs vs.toList) (ht : Tabs [] (fun _ => undef) w := by exact tabs_none) : Calls P f vs w fun e w' => e = .returned (.bool true) ∧ Below w.heap.size w w' := by
  refine (hfn NoA NoA w vs (fun _ => undef) hargs ⟨fun id b hb => (by cases hb), fun id id' x y b h1 => (by cases h1), fun b hb => (no_mine hb).elim, fun b hb => False.elim hb, ht⟩ fun b hb => (no_mine hb).elim).mono ?_
  rintro e' w' ⟨r, h', hv', v, rfl, ⟨rfl, rfl⟩, hr, _, hf, _, _⟩
  exact ⟨by rw [rep_val hr], hf.below⟩
end
end Abs
end Go.Proofs.YtjpiiejdaiaocaaDoor
