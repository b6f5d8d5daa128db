/-
  A reading of Go's memory by values, second part: states, the code's rules (sequence, test, block, loop, region), the function's contract. No program of Go's is named here.
-/
import Derived.Test.YtbnjdkpangmneaaAbsA
namespace Go.Proofs.Ytbnjdkpangmneaa
open Go.ChangeShapes Go.WideShapes Go.RowKit
set_option linter.unusedVariables false
set_option linter.unusedSimpArgs false
namespace Abs

def get : List (Nat × AV) → Nat → AV
  | [], _ => .one .any
  | (k, v) :: r, t => bif Nat.beq k t then v else get r t
theorem get_cons (k : Nat) (v : AV) (r : List (Nat × AV)) (t : Nat) : get ((k, v) :: r) t = if k = t then v else get r t := by
  show (bif Nat.beq k t then v else get r t) = _
  cases h : Nat.beq k t
  · rw [if_neg (Nat.ne_of_beq_eq_false h)]; rfl
  · rw [if_pos (Nat.eq_of_beq_eq_true h)]; rfl

/-- What the slots and the blocks of one's own stand for. -/
structure ASt where
  nt : Nat
  /-- the variables that were handed in -/
  kp : List Nat
  env : List (Nat × AV)
  heap : Heap
def ASt.put (s : ASt) (d : Option Nat) (v : AV) : ASt :=
  match d with
  | some d => { s with env := (d, v) :: s.env }
  | none => s

structure HM (U : Nat → Prop) (h : Heap) (w : World) (hv : Nat → Value) : Prop where
  blk : ∀ id b, look h id = some b → BlkRep h hv (fun b => U b ∨ mine h hv b) w id b
  inj : ∀ id id' x y b, look h id = some x → look h id' = some y → blockOf (hv id) = some b → blockOf (hv id') = some b → id = id'
  avoid : ∀ b, mine h hv b → ¬ U b
  ult : ∀ b, U b → b < w.heap.size

structure M (U : Nat → Prop) (s : ASt) (a : Act) (w : World) (hv : Nat → Value) : Prop where
  nt : a.tmps.size = s.nt
  defers : a.defers = []
  env : ∀ t, RepV s.heap hv (fun b => U b ∨ mine s.heap hv b) w (get s.env t) (a.tmps.getD t undef)
  hm : HM U s.heap w hv

structure Base where
  w : World
  v : Nat → Value
structure Ok (U T : Nat → Prop) (w0 : Base) (s : ASt) (a : Act) (w : World) (hv : Nat → Value) : Prop where
  m : M U s a w hv
  fr : Fr T w0.w w
  own : ∀ b, mine s.heap hv b → b < w0.w.heap.size → T b
  box : ∀ id, id ∈ s.kp → (∃ cs, look s.heap id = some (.box cs)) ∧ hv id = w0.v id

def Post (U T : Nat → Prop) (w0 : Base) (Q : Exit → ASt → Prop) : Exit → Act → World → Prop := fun e a w => ∃ s hv, Q e s ∧ Ok U T w0 s a w hv

/-- From every memory that reads as s the code comes to one that Q allows. -/
def AW (P : Program) (c : Code) (s : ASt) (Q : Exit → ASt → Prop) : Prop :=
  ∀ U T w0 a w hv, Ok U T w0 s a w hv → c.wp P (Post U T w0 Q) a w

def AOps (P : Program) (ops : Array Oper) (l : List Oper) (s : ASt) (Q : Exit → ASt → Prop) : Prop :=
  ∀ U T w0 a w hv, Ok U T w0 s a w hv → wpList P ops (Post U T w0 Q) l a w

/-- One operation. X: the ids whose handles are no longer good. -/
def Ev (P : Program) (X : List Nat) (s : ASt) (o : Oper) (S : ASt → Prop) : Prop :=
  ∀ U T w0 a w hv, Ok U T w0 s a w hv → ∀ (K : Act → World → Prop) (Q : Exit → Act → World → Prop),
    (∀ s' v w' hv', S s' → Ok U T w0 s' (a.put o.dst v) w' hv' → (∀ id, id ∉ X → (∃ b, look s.heap id = some b) → hv' id = hv id) → K (a.put o.dst v) w') → o.wp P a w K Q

section
variable {P : Program} {s : ASt} {Q : Exit → ASt → Prop}

abbrev Seq (P : Program) (y : Code) (Q : Exit → ASt → Prop) : Exit → ASt → Prop := fun e s => match e with
  | .normal => AW P y s Q
  | e => Q e s
abbrev Block (id : Nat) (Q : Exit → ASt → Prop) : Exit → ASt → Prop := fun e s => match e with
  | .exit id' => bif Nat.beq id' id then Q .normal s else Q (.exit id') s
  | e => Q e s

theorem aw_skip (h : Q .normal s) : AW P .skip s Q := fun U T w0 a w hv ok => wp_skip ⟨s, hv, h, ok⟩
theorem aw_ret (h : Q .ret s) : AW P .ret s Q := fun U T w0 a w hv ok => wp_ret ⟨s, hv, h, ok⟩
theorem aw_exit {id : Nat} (h : Q (.exit id) s) : AW P (.exit id) s Q := fun U T w0 a w hv ok => wp_exit ⟨s, hv, h, ok⟩
theorem aw_seq {x y : Code} (h : AW P x s (Seq P y Q)) : AW P (.seq x y) s Q := fun U T w0 a w hv ok =>
  wp_seq (wp_mono (h U T w0 a w hv ok) fun e a w ⟨s', hv', hq, ok'⟩ => by
    cases e with
    | normal => exact hq U T w0 a w hv' ok'
    | _ => exact ⟨s', hv', hq, ok'⟩)
theorem aw_block {id : Nat} {c : Code} (h : AW P c s (Block id Q)) : AW P (.block id c) s Q := fun U T w0 a w hv ok =>
  wp_block (wp_mono (h U T w0 a w hv ok) fun e a w ⟨s', hv', hq, ok'⟩ => by
    cases e with
    | exit id' =>
      simp only [Exit.inBlock]
      have hq' : (bif Nat.beq id' id then Q .normal s' else Q (.exit id') s') := hq
      by_cases hid : id' = id
      · subst hid
        rw [if_pos rfl]
        rw [Nat.beq_refl] at hq'
        exact ⟨s', hv', hq', ok'⟩
      · rw [if_neg hid]
        cases hb : Nat.beq id' id
        · rw [hb] at hq'; exact ⟨s', hv', hq', ok'⟩
        · exact absurd (Nat.eq_of_beq_eq_true hb) hid
    | _ => exact ⟨s', hv', hq, ok'⟩)
theorem aw_mono {c : Code} {Q' : Exit → ASt → Prop} (h : AW P c s Q) (hq : ∀ e s, Q e s → Q' e s) : AW P c s Q' := fun U T w0 a w hv ok =>
  wp_mono (h U T w0 a w hv ok) fun e a w ⟨s', hv', h1, ok'⟩ => ⟨s', hv', hq _ _ h1, ok'⟩

/-- What an operand stands for. -/
def constAV : Value → AV
  | .agg _ => .one .any
  | .tuple _ => .one .any
  | v => .one (.val v)
def ASt.ev (s : ASt) : Operand → AV
  | .tmp t => get s.env t
  | .const v => constAV v
  | .func f => .one (.fn f [])
  | .global _ => .one .any
theorem rep_const (h : Heap) (hv : Nat → Value) (A : Nat → Prop) (w : World) (v : Value) : RepV h hv A w (constAV v) v := by
  cases v <;> first | exact trivial | exact RepC.val _ rfl
theorem M.ev {U : Nat → Prop} {s : ASt} {a : Act} {w : World} {hv : Nat → Value} (m : M U s a w hv) (x : Operand) : RepV s.heap hv (fun b => U b ∨ mine s.heap hv b) w (s.ev x) (a.eval x) := by
  cases x with
  | tmp t => exact m.env t
  | const v => exact rep_const _ _ _ _ v
  | func f => exact ⟨[], rfl, .nil⟩
  | global g => exact trivial
theorem rep_val {h : Heap} {hv : Nat → Value} {A : Nat → Prop} {w : World} {v u : Value} (hr : RepV h hv A w (.one (.val v)) u) : u = v := by
  cases (show RepC A w (.val v) u from hr); rfl

theorem aw_cond {c : Operand} {x y : Code} {b : Bool} (hc : s.ev c = .one (.val (.bool b))) (ht : b = true → AW P x s Q) (hf : b = false → AW P y s Q) : AW P (.cond c x y) s Q := fun U T w0 a w hv ok => by
  have h := ok.m.ev c
  rw [hc] at h
  exact wp_cond_split (rep_val h) (fun e => ht e U T w0 a w hv ok) (fun e => hf e U T w0 a w hv ok)

theorem aw_region {id : Nat} {l : List Oper} (h : AOps P l.toArray l s Q) : AW P (.region id l.toArray false) s Q := fun U T w0 a w hv ok => wp_region_lit (h U T w0 a w hv ok)
theorem aops_nil {ops : Array Oper} (h : Q .normal s) : AOps P ops [] s Q := fun U T w0 a w hv ok => ⟨s, hv, h, ok⟩
theorem aops_step {ops : Array Oper} {o : Oper} {rest : List Oper} {X : List Nat} {S : ASt → Prop} (hg : o.guard = none) (he : Ev P X s o S) (hr : ∀ s', S s' → AOps P ops rest s' Q) : AOps P ops (o :: rest) s Q :=
  fun U T w0 a w hv ok => wpList_plain hg fun K hK => he U T w0 a w hv ok K _ fun s' v w' hv' hS ok' _ => hK _ _ (hr s' hS U T w0 _ w' hv' ok')
theorem aops_step1 {ops : Array Oper} {o : Oper} {rest : List Oper} {X : List Nat} {s' : ASt} (hg : o.guard = none) (he : Ev P X s o (· = s')) (hr : AOps P ops rest s' Q) : AOps P ops (o :: rest) s Q :=
  aops_step hg he fun _ h => h ▸ hr

/-- A guard that says yes, and one that says no. -/
theorem yielded_get {U : Nat → Prop} {a : Act} {w : World} {hv : Nat → Value} {ops : Array Oper} {j t : Nat} {b : Bool} (m : M U s a w hv) (hd : (ops[j]?).bind (·.dst) = some t) (ht : get s.env t = .one (.val (.bool b))) (hn : t < s.nt) : yielded ops a.tmps j = some b := by
  have h := m.env t
  rw [ht] at h
  have hv := rep_val h
  have hlt : t < a.tmps.size := by rw [m.nt]; exact hn
  have hg : a.tmps[t]? = some (.bool b) := by
    rw [Array.getElem?_eq_getElem hlt]
    congr 1
    rw [← hv]
    simp [Array.getD, hlt]
  simp [yielded, hd, hg]
theorem aops_yes {ops : Array Oper} {o : Oper} {rest : List Oper} {X : List Nat} {s' : ASt} {j t : Nat} {b want : Bool} (hg : o.guard = some (j, want)) (hd : (ops[j]?).bind (·.dst) = some t) (ht : get s.env t = .one (.val (.bool b))) (hn : Nat.blt t s.nt = true)
    (hb : b = want) (he : Ev P X s o (· = s')) (hr : AOps P ops rest s' Q) : AOps P ops (o :: rest) s Q :=
  fun U T w0 a w hv ok => wpList_step fun K hK => by
    have hy := yielded_get ok.m hd ht (by simpa [Nat.blt_eq] using hn)
    rw [if_pos (by simp [Region.wanted, hg, hy, hb])]
    exact he U T w0 a w hv ok K _ fun s' v w' hv' hS ok' _ => by subst hS; exact hK _ _ (hr U T w0 _ w' hv' ok')
end
end Abs
end Go.Proofs.Ytbnjdkpangmneaa
