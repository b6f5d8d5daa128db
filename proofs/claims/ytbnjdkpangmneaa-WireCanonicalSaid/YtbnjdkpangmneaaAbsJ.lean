/-
  A reading of Go's memory by values, tenth part: names of blocks changed; the contract of a function, out of its body; loops. No program of Go's is named here.
-/
import Derived.Test.YtbnjdkpangmneaaAbsI
namespace Go.Proofs.Ytbnjdkpangmneaa
open Go.ChangeShapes Go.WideShapes Go.RowKit
set_option linter.unusedVariables false
set_option linter.unusedSimpArgs false
namespace Abs

def capRen (g : Nat → Nat) : CV → CV
  | .own i => .own (g i)
  | .ptr i o => .ptr (g i) o
  | .rptr i sz j o => .rptr (g i) sz j o
  | c => c
def CV.ren (g : Nat → Nat) : CV → CV
  | .fn f caps => .fn f (caps.map (capRen g))
  | .own i => .own (g i)
  | .ptr i o => .ptr (g i) o
  | .rptr i sz j o => .rptr (g i) sz j o
  | c => c
def AV.ren1 (g : Nat → Nat) : AV → AV
  | .one c => .one (c.ren g)
  | .agg cs => .agg (cs.map (CV.ren g))
  | v => v
def AV.ren (g : Nat → Nat) : AV → AV
  | .tup vs => .tup (vs.map (AV.ren1 g))
  | .one c => .one (c.ren g)
  | .agg cs => .agg (cs.map (CV.ren g))
def Blk.ren (g : Nat → Nat) : Blk → Blk
  | .box cs => .box (cs.map (CV.ren g))
  | b => b

def IsRow (h : Heap) (id : Nat) : Prop := ∃ e sz n el, look h id = some (.row e sz n el)
def IsBox (h : Heap) (id : Nat) : Prop := ∃ cs, look h id = some (.box cs)
structure Link (h1 : Heap) (hv1 : Nat → Value) (h2 : Heap) (hv2 : Nat → Value) (g : Nat → Nat) (id : Nat) : Prop where
  row : IsRow h1 id ↔ IsRow h2 (g id)
  box : IsBox h1 id ↔ IsBox h2 (g id)
  hv : hv2 (g id) = hv1 id
section
variable {h1 h2 : Heap} {hv1 hv2 : Nat → Value} {g : Nat → Nat} {A : Nat → Prop} {w : World}
theorem repP_ren {c : CV} {v : Value} (hl : ∀ id, id ∈ capIds c → Link h1 hv1 h2 hv2 g id) : RepP h1 hv1 A w c v ↔ RepP h2 hv2 A w (capRen g c) v := by
  cases c with
  | own i =>
    have l := hl i (by simp [capIds])
    simp only [RepP, capRen]
    rw [l.hv]
    exact ⟨fun ⟨a, b⟩ => ⟨l.row.1 a, b⟩, fun ⟨a, b⟩ => ⟨l.row.2 a, b⟩⟩
  | ptr i o =>
    have l := hl i (by simp [capIds])
    simp only [RepP, capRen]
    rw [l.hv]
    exact ⟨fun ⟨a, b⟩ => ⟨l.box.1 a, b⟩, fun ⟨a, b⟩ => ⟨l.box.2 a, b⟩⟩
  | rptr i sz j o =>
    have l := hl i (by simp [capIds])
    simp only [RepP, capRen]
    rw [l.hv]
    exact ⟨fun ⟨a, b⟩ => ⟨l.row.1 a, b⟩, fun ⟨a, b⟩ => ⟨l.row.2 a, b⟩⟩
  | fn f caps => exact Iff.rfl
  | val u => exact Iff.rfl
  | slc n el => exact Iff.rfl
  | cptr cs => exact Iff.rfl
  | emp0 => exact Iff.rfl
  | any => exact Iff.rfl
theorem all2_ren {α : Type} {R1 R2 : α → Value → Prop} {f : α → α} {xs : List α} {vs : List Value} (h : ∀ x, x ∈ xs → ∀ v, R1 x v ↔ R2 (f x) v) : All2 R1 xs vs ↔ All2 R2 (xs.map f) vs := by
  induction xs generalizing vs with
  | nil => constructor <;> (intro h; cases h; exact .nil)
  | cons x xs ih =>
    have ih' := fun vs => ih (vs := vs) fun y hy => h y (by simp [hy])
    constructor
    · intro k
      cases k with
      | cons a t => exact .cons ((h x (by simp) _).1 a) ((ih' _).1 t)
    · intro k
      cases k with
      | cons a t => exact .cons ((h x (by simp) _).2 a) ((ih' _).2 t)
theorem repT_ren {c : CV} {v : Value} (hl : ∀ id, id ∈ c.ids → Link h1 hv1 h2 hv2 g id) : RepT h1 hv1 A w c v ↔ RepT h2 hv2 A w (c.ren g) v := by
  cases c with
  | fn f caps =>
    have key : ∀ vs : List Value, All2 (RepP h1 hv1 A w) caps vs ↔ All2 (RepP h2 hv2 A w) (caps.map (capRen g)) vs := fun vs => all2_ren fun x hx v => repP_ren fun id hid => hl id (List.mem_flatMap.2 ⟨x, hx, hid⟩)
    constructor
    · rintro ⟨vs, e, k⟩; exact ⟨vs, e, (key vs).1 k⟩
    · rintro ⟨vs, e, k⟩; exact ⟨vs, e, (key vs).2 k⟩
  | own i => exact repP_ren (A := A) (w := w) (c := .own i) hl
  | ptr i o => exact repP_ren (A := A) (w := w) (c := .ptr i o) hl
  | rptr i sz j o => exact repP_ren (A := A) (w := w) (c := .rptr i sz j o) hl
  | val u => exact Iff.rfl
  | slc n el => exact Iff.rfl
  | cptr cs => exact Iff.rfl
  | emp0 => exact Iff.rfl
  | any => exact Iff.rfl
theorem rep1_ren {x : AV} {v : Value} (hl : ∀ id, id ∈ x.ids1 → Link h1 hv1 h2 hv2 g id) : Rep1 h1 hv1 A w x v ↔ Rep1 h2 hv2 A w (x.ren1 g) v := by
  cases x with
  | one c => exact repT_ren hl
  | agg cs =>
    have key : ∀ vs : List Value, All2 (RepT h1 hv1 A w) cs vs ↔ All2 (RepT h2 hv2 A w) (cs.map (CV.ren g)) vs := fun vs => all2_ren fun x hx v => repT_ren fun id hid => hl id (List.mem_flatMap.2 ⟨x, hx, hid⟩)
    constructor
    · rintro ⟨vs, e, k⟩; exact ⟨vs, e, (key vs).1 k⟩
    · rintro ⟨vs, e, k⟩; exact ⟨vs, e, (key vs).2 k⟩
  | tup vs => exact Iff.rfl
theorem repV_ren {x : AV} {v : Value} (hl : ∀ id, id ∈ x.ids → Link h1 hv1 h2 hv2 g id) : RepV h1 hv1 A w x v ↔ RepV h2 hv2 A w (x.ren g) v := by
  cases x with
  | tup xs =>
    have key : ∀ vs : List Value, All2 (Rep1 h1 hv1 A w) xs vs ↔ All2 (Rep1 h2 hv2 A w) (xs.map (AV.ren1 g)) vs := fun vs => all2_ren fun x hx v => rep1_ren fun id hid => hl id (List.mem_flatMap.2 ⟨x, hx, hid⟩)
    constructor
    · rintro ⟨vs, e, k⟩; exact ⟨vs, e, (key vs).1 k⟩
    · rintro ⟨vs, e, k⟩; exact ⟨vs, e, (key vs).2 k⟩
  | one c => exact rep1_ren (A := A) (w := w) (x := .one c) hl
  | agg cs => exact rep1_ren (A := A) (w := w) (x := .agg cs) hl
theorem blk_ren {id : Nat} {b : Blk} (hb : ∀ j, j ∈ b.ids → Link h1 hv1 h2 hv2 g j) (hv : hv2 (g id) = hv1 id) : BlkRep h1 hv1 A w id b ↔ BlkRep h2 hv2 A w (g id) (b.ren g) := by
  cases b with
  | box cs =>
    have key : ∀ vs : List Value, All2 (RepT h1 hv1 A w) cs vs ↔ All2 (RepT h2 hv2 A w) (cs.map (CV.ren g)) vs := fun vs => all2_ren fun x hx v => repT_ren fun id hid => hb id (List.mem_flatMap.2 ⟨x, hx, hid⟩)
    simp only [BlkRep, Blk.ren]
    rw [hv]
    constructor
    · rintro ⟨a, vs, t, e1, e2, k⟩; exact ⟨a, vs, t, e1, e2, (key _).1 k⟩
    · rintro ⟨a, vs, t, e1, e2, k⟩; exact ⟨a, vs, t, e1, e2, (key _).2 k⟩
  | row e sz n el => simp only [BlkRep, Blk.ren]; rw [hv]
end

/-! ### the contract of a function -/
/-- From arguments that read as 'args', with the blocks h handed in, f returns; R says what the result reads as and what the blocks hold then. -/
def FnC (P : Program) (f : FuncId) (args : List AV) (h : Heap) (R : AV → Heap → Prop) : Prop :=
  ∀ (U T : Nat → Prop) (w : World) (vs : Array Value) (hv : Nat → Value), All2 (RepV h hv (fun b => U b ∨ mine h hv b) w) args vs.toList → HM U h w hv → (∀ b, mine h hv b → T b) →
    Calls P f vs w fun e w' => ∃ r h' hv' v, e = .returned v ∧ R r h' ∧ RepV h' hv' (fun b => U b ∨ mine h' hv' b) w' r v ∧ HM U h' w' hv' ∧ Fr T w w' ∧ (∀ b, mine h' hv' b → b < w.heap.size → T b) ∧
      ∀ id cs, look h id = some (.box cs) → IsBox h' id ∧ hv' id = hv id

def resVar (s : ASt) (P : Program) : ResultVar → AV → Prop
  | .tmp t, x => get s.env t = x
  | .cell a t, x => ∃ id off cs n agg, get s.env a = .one (.ptr id off) ∧ look s.heap id = some (.box cs) ∧ varOf P t = some (agg, n) ∧ Nat.ble (off + n) cs.length = true ∧
      (if agg then x = .agg ((cs.drop off).take n) else ∃ c, cs[off]? = some c ∧ x = .one c)
/-- What a function gives back out of its slots. -/
def Res (P : Program) (fn : Func) (s : ASt) (x : AV) : Prop :=
  (∃ rv, fn.results = #[rv] ∧ resVar s P rv x ∧ ∀ vs, x ≠ .tup vs) ∨ (fn.results.size ≠ 1 ∧ ∃ xs, x = .tup xs ∧ All2 (resVar s P) fn.results.toList xs ∧ ∀ y, y ∈ xs → ∀ vs, y ≠ .tup vs)

section
variable {P : Program} {fn : Func} {s : ASt} {x : AV} {U : Nat → Prop} {a : Act} {w : World} {hv : Nat → Value}
def resRun (tmps : Array Value) : ResultVar → Sem Value
  | .tmp t => pure (tmps.getD t undef)
  | .cell a t => do loadVar t (← asAddr (tmps.getD a undef))
theorem resVar_run {rv : ResultVar} (m : M U s a w hv) (h : resVar s P rv x) : ∃ v, (resRun a.tmps rv).run P w = .ok v w ∧ RepV s.heap hv (fun b => U b ∨ mine s.heap hv b) w x v := by
  cases rv with
  | tmp t => simp only [resVar] at h; subst h; exact ⟨_, rfl, m.env t⟩
  | cell ad t =>
    obtain ⟨id, off, cs, n, agg, h1, h2, h3, h40, h5⟩ := h
    have h4 := Nat.le_of_ble_eq_true h40
    have hT : TVar P t agg n := ⟨h3⟩
    obtain ⟨vs, h6, h7⟩ := box_cells (x := .tmp ad) m h1 h2
    have hlen := h7.length
    have he : a.eval (.tmp ad) = a.tmps.getD ad undef := rfl
    cases agg with
    | true =>
      simp only [if_true] at h5
      subst h5
      obtain ⟨u, h8, h9, _⟩ := run_load_cells (P := P) (t := t) (agg := true) (n := n) (h6.take n) (by simp; omega) (fun e => by cases e)
      obtain ⟨b, o, e, hc⟩ := h6
      refine ⟨u, ?_, by rw [h9 rfl]; exact ⟨_, rfl, (h7.drop off).take n⟩⟩
      rw [he] at e
      simp only [resRun, e, asAddr, Sem.run_bind, Sem.run_pure, Result.andThen_ok]
      rw [he, e] at h8
      simpa [Instr.loadAt, Instr.sureAddr] using h8
    | false =>
      simp only [Bool.false_eq_true, if_false] at h5
      obtain ⟨c, h8, rfl⟩ := h5
      obtain ⟨u, h9, h10⟩ := h7.get h8
      obtain ⟨b, o, e, hc⟩ := h6
      rw [he] at e
      have h0 := hc 0 u (by simpa using h9)
      simp only [Nat.add_zero] at h0
      refine ⟨u, ?_, h10⟩
      simp [resRun, e, asAddr, loadVar, run_isAgg (P := P) (t := t) (agg := false) (n := n), h0]
theorem resVars_run (m : M U s a w hv) : ∀ {rvs : List ResultVar} {xs : List AV}, All2 (resVar s P) rvs xs → ∃ vs : List Value, (rvs.mapM (resRun a.tmps)).run P w = .ok vs w ∧ All2 (RepV s.heap hv (fun b => U b ∨ mine s.heap hv b) w) xs vs
  | _, _, .nil => ⟨[], rfl, .nil⟩
  | _, _, .cons h t => by
    obtain ⟨v, h1, h2⟩ := resVar_run m h
    obtain ⟨vs, h3, h4⟩ := resVars_run m t
    exact ⟨v :: vs, by simp [List.mapM_cons, h1, h3], .cons h2 h4⟩
theorem res_run (m : M U s a w hv) (h : Res P fn s x) : ∃ v, (results fn a.tmps).run P w = .ok v w ∧ RepV s.heap hv (fun b => U b ∨ mine s.heap hv b) w x v := by
  have hres : (results fn a.tmps) = (do let vs ← fn.results.mapM (resRun a.tmps); pure (if h : vs.size = 1 then vs[0] else .tuple vs)) := by
    unfold results
    congr 1
  rw [hres]
  rcases h with ⟨rv, h1, h2, _⟩ | ⟨h1, xs, rfl, h2, h3⟩
  · obtain ⟨v, h4, h5⟩ := resVar_run m h2
    refine ⟨v, ?_, h5⟩
    rw [h1]
    simp [h4]
  · obtain ⟨vs, h4, h5⟩ := resVars_run m h2
    have hl := h2.length
    have hl2 := h5.length
    refine ⟨.tuple vs.toArray, ?_, vs, rfl, h5.impMem fun y v hy hr => ?_⟩
    · rw [Array.mapM_eq_mapM_toList]
      have hne : ¬ vs.toArray.size = 1 := by simp only [List.size_toArray]; rw [Array.length_toList] at hl; omega
      simp [h4]
      exact fun h => absurd h (by simpa using hne)
    · cases y with
      | tup us => exact absurd rfl (h3 _ hy us)
      | one c => exact hr
      | agg cs => exact hr
end
end Abs
end Go.Proofs.Ytbnjdkpangmneaa
