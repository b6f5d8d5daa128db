/-
  A reading of Go's memory by values, seventh part: values built out of parts, slices built out of parts. No program of Go's is named here.
-/
import Derived.Test.YtbnjdkpangmneaaAbsF
namespace Go.Proofs.Ytbnjdkpangmneaa
open Go.ChangeShapes Go.WideShapes Go.RowKit
set_option linter.unusedVariables false
set_option linter.unusedSimpArgs false
namespace Abs
/-- A part laid over a list at a place. -/
def splice {α : Type} (l : List α) (off : Nat) (new : List α) : List α := l.take off ++ new ++ l.drop (off + new.length)
theorem fold_set : ∀ (new : List Value) (off j : Nat) (cs : Array Value), off + j + new.length ≤ cs.size →
    ((new.zipIdx j).foldl (fun (cs : Array Value) (p : Value × Nat) => cs.setIfInBounds (off + p.2) p.1) cs).toList = splice cs.toList (off + j) new
  | [], off, j, cs, h => by simp [splice]
  | v :: new, off, j, cs, h => by
    simp only [List.length_cons] at h
    simp only [List.zipIdx_cons, List.foldl_cons]
    rw [fold_set new off (j + 1) _ (by simp; omega)]
    have e := list_seg_step cs.toList (off + j) v new (by simp; omega)
    simpa [splice, Array.toList_setIfInBounds, Nat.add_assoc, Nat.add_comm 1, Nat.add_left_comm] using e
theorem All2.splice {α β : Type} {R : α → β → Prop} {xs : List α} {ys : List β} (h : All2 R xs ys) (off : Nat) {ns : List α} {ms : List β} (h2 : All2 R ns ms) : All2 R (splice xs off ns) (splice ys off ms) := by
  unfold Abs.splice
  rw [h2.length]
  exact ((h.take off).append h2).append (h.drop _)
theorem splice_length {α : Type} (l : List α) (off : Nat) (new : List α) (h : off + new.length ≤ l.length) : (splice l off new).length = l.length := by
  simp [splice]; omega

/-- The same as the model's 'fill', over what the cells stand for. -/
def fillC (place : Nat → Option (Nat × Nat)) (cells : List CV) : List (Nat × AV) → Option (List CV)
  | [] => some cells
  | (i, v) :: rest =>
    match place i, v.cells with
    | some (off, size), some new => bif Nat.beq new.length size && Nat.ble (off + new.length) cells.length then fillC place (splice cells off new) rest else none
    | _, _ => none
theorem fill_rep {R : CV → Value → Prop} {place : Nat → Option (Nat × Nat)} {parts : List (Nat × AV)} {vparts : List (Nat × Value)}
    (hp : All2 (fun p q => p.1 = q.1 ∧ ∀ new, p.2.cells = some new → ∃ us : List Value, q.2.cells = us.toArray ∧ All2 R new us) parts vparts) :
    ∀ (cells : List CV) (vcells : Array Value) (out : List CV), All2 R cells vcells.toList → fillC place cells parts = some out → ∃ vout, Instr.fill place vcells vparts = some vout ∧ All2 R out vout.toList := by
  induction hp with
  | nil => intro cells vcells out h ho; simp only [fillC, Option.some.injEq] at ho; subst ho; exact ⟨vcells, rfl, h⟩
  | @cons p q ps qs hpq t ih =>
    intro cells vcells out h ho
    obtain ⟨i, v⟩ := p
    obtain ⟨i', u⟩ := q
    obtain ⟨hi, hc⟩ := hpq
    simp only at hi hc
    subst hi
    simp only [fillC] at ho
    cases hpl : place i with
    | none => rw [hpl] at ho; cases ho
    | some os =>
      obtain ⟨off, size⟩ := os
      cases hv : v.cells with
      | none => rw [hpl, hv] at ho; cases ho
      | some new =>
        rw [hpl, hv] at ho
        simp only at ho
        obtain ⟨us, h1, h2⟩ := hc new hv
        have hlen := h2.length
        have hcl := h.length
        simp only [Array.length_toList] at hcl
        cases hb : (Nat.beq new.length size && Nat.ble (off + new.length) cells.length) with
        | false => rw [hb] at ho; cases ho
        | true =>
          rw [hb] at ho
          simp only [cond_true] at ho
          rw [Bool.and_eq_true] at hb
          have e1 := Nat.eq_of_beq_eq_true hb.1
          have e2 := Nat.le_of_ble_eq_true hb.2
          have hset := fold_set us off 0 vcells (by omega)
          simp only [Nat.add_zero] at hset
          have hsz : u.cells.size = us.length := by rw [h1]; simp
          obtain ⟨vout, h3, h4⟩ := ih (splice cells off new) (us.zipIdx.foldl (fun (cs : Array Value) (p : Value × Nat) => cs.setIfInBounds (off + p.2) p.1) vcells) out (by rw [hset]; exact h.splice off h2) ho
          refine ⟨vout, ?_, h4⟩
          unfold Instr.fill
          rw [hpl]
          simp only
          have hne : ¬ (u.cells.size ≠ size ∨ off + u.cells.size > vcells.size) := by omega
          rw [if_neg (by simpa using hne)]
          rw [← h3]
          congr 1
          rw [h1]
          simp [← Array.foldl_toList]

def placesOf (P : Program) (t : TypeId) : Option (List (Nat × Nat)) :=
  match P.underlying t with
  | some (.struct fs) => fs.toList.mapM fun f => (varOf P f.type).map fun (_, n) => (f.offset, n)
  | _ => none
class TPlaces (P : Program) (t : TypeId) (ps : outParam (List (Nat × Nat))) : Prop where
  h : placesOf P t = some ps
theorem run_places {P : Program} (w : World) : ∀ (fs : List Field) (ps : List (Nat × Nat)), (fs.mapM fun f => (varOf P f.type).map fun (_, n) => (f.offset, n)) = some ps →
    (fs.mapM fun f => (do pure (f.offset, ← sizeOf f.type) : Sem (Nat × Nat))).run P w = .ok ps w := by
  intro fs
  induction fs with
  | nil => intro ps h; simp at h; subst h; rfl
  | cons f fs ih =>
    intro ps h
    simp only [List.mapM_cons, Option.bind_eq_bind, Option.pure_def] at h
    cases hv : varOf P f.type with
    | none => rw [hv] at h; simp at h
    | some bn =>
      rw [hv] at h
      obtain ⟨b, n⟩ := bn
      simp only [Option.map_some, Option.bind_some] at h
      cases hr : (fs.mapM fun f => (varOf P f.type).map fun (x : Bool × Nat) => (f.offset, x.2)) with
      | none => rw [hr] at h; simp at h
      | some qs =>
        rw [hr] at h
        simp only [Option.bind_some, Option.some.injEq] at h
        subst h
        have : TVar P f.type b n := ⟨hv⟩
        have ih' := ih qs hr
        simp only [List.mapM_cons, Sem.run_bind, run_size (P := P) (t := f.type) (agg := b) (n := n), Result.andThen_ok, Sem.run_pure, ih']

section
variable {P : Program} {s : ASt} {d : Option Nat} {ty t xT yT : TypeId} {pos : String} {af : Array Edge} {g : Option (Nat × Bool)} {x y c : Operand} {id off n f o m sz len bytes e : Nat} {agg : Bool} {cs : List CV} {k : IntKind}
theorem parts_rep {U : Nat → Prop} {a : Act} {w : World} {hv : Nat → Value} (m : M U s a w hv) : ∀ (parts : List (Nat × Operand)),
    All2 (fun p q => p.1 = q.1 ∧ ∀ new, p.2.cells = some new → ∃ us : List Value, q.2.cells = us.toArray ∧ All2 (RepT s.heap hv (fun b => U b ∨ mine s.heap hv b) w) new us) (parts.map fun p => (p.1, s.ev p.2)) (parts.map fun p => (p.1, a.eval p.2))
  | [] => .nil
  | p :: ps => .cons ⟨rfl, fun new hn => cells_rep (m.ev p.2) hn⟩ (parts_rep m ps)
theorem run_struct_places {fs : Array Field} {ps : List (Nat × Nat)} (hu : P.underlying t = some (.struct fs)) [h : TPlaces P t ps] (w : World) :
    (fs.mapM fun f => (do pure (f.offset, ← sizeOf f.type) : Sem (Nat × Nat))).run P w = .ok ps.toArray w := by
  have h0 := h.h
  unfold placesOf at h0
  rw [hu] at h0
  have := run_places (P := P) w fs.toList ps h0
  rw [Array.mapM_eq_mapM_toList]
  show (Sem.run P ((fs.toList.mapM fun f => (do pure (f.offset, ← sizeOf f.type) : Sem (Nat × Nat))).bind fun l => .pure l.toArray) w) = _
  rw [show (Sem.run P ((fs.toList.mapM fun f => (do pure (f.offset, ← sizeOf f.type) : Sem (Nat × Nat))).bind fun l => .pure l.toArray) w) = _ from Sem.run_bind _ _ _ _]
  rw [this]
  rfl
theorem ev_build {parts : List (Nat × Operand)} {out : List CV} {z : Value} [kz : TZero P t z] {zs : List Value} (hz : z.cells = zs.toArray) (hone : zs.all (·.oneCell') = true) {ps : List (Nat × Nat)} [hp : TPlaces P t ps]
    (ho : fillC (fun (i : Nat) => ps[i]?) (zs.map CV.val) (parts.map fun p => (p.1, s.ev p.2)) = some out) (hd : dOk s d = true) : Ev P [] s ⟨d, .build t parts.toArray, ty, pos, af, g⟩ (· = s.put d (.agg out)) :=
  ev_of_run hd fun U a w hv m => by
    obtain ⟨vout, h1, h2⟩ := fill_rep (parts_rep m parts) (zs.map CV.val) zs.toArray out (by simpa using zero_rep zs fun v hv => List.all_eq_true.1 hone v hv) ho
    refine ⟨.agg vout, w, ?_, Fr.refl _ _, vout.toList, by simp, h2⟩
    have hp0 := hp.h
    unfold placesOf at hp0
    cases hu : P.underlying t with
    | none => rw [hu] at hp0; cases hp0
    | some dd =>
      cases dd with
      | struct fs =>
        have hpl := run_struct_places (P := P) (ps := ps) hu w
        have hpf : (fun (i : Nat) => ps.toArray[i]?) = (fun (i : Nat) => ps[i]?) := by funext i; simp
        have hl : (Array.map (fun (x : Nat × Operand) => (x.1, a.eval x.2)) parts.toArray).toList = parts.map fun p => (p.1, a.eval p.2) := by simp
        simp only [execOp, Instr.build, Sem.run_bind, TZero.run, Result.andThen_ok, run_underlying hu, hpl, hz, hpf]
        rw [hl, h1]
        simp
      | _ => rw [hu] at hp0; cases hp0
theorem ev_build_arr {parts : List (Nat × Operand)} {out : List CV} {z : Value} [kz : TZero P t z] {zs : List Value} (hz : z.cells = zs.toArray) (hone : zs.all (·.oneCell') = true) [hp : TArr P t len e sz agg]
    (ho : fillC (fun i => some (i * sz, sz)) (zs.map CV.val) (parts.map fun p => (p.1, s.ev p.2)) = some out) (hd : dOk s d = true) : Ev P [] s ⟨d, .build t parts.toArray, ty, pos, af, g⟩ (· = s.put d (.agg out)) :=
  ev_of_run hd fun U a w hv m => by
    obtain ⟨vout, h1, h2⟩ := fill_rep (parts_rep m parts) (zs.map CV.val) zs.toArray out (by simpa using zero_rep zs fun v hv => List.all_eq_true.1 hone v hv) ho
    refine ⟨.agg vout, w, ?_, Fr.refl _ _, vout.toList, by simp, h2⟩
    obtain ⟨hu, hT⟩ := TArr.parts (P := P) (t := t) (len := len) (e := e) (sz := sz) (agg := agg)
    have hl : (Array.map (fun (x : Nat × Operand) => (x.1, a.eval x.2)) parts.toArray).toList = parts.map fun p => (p.1, a.eval p.2) := by simp
    simp only [execOp, Instr.build, Sem.run_bind, TZero.run, Result.andThen_ok, run_underlying hu, run_size (P := P) (t := e) (agg := agg) (n := sz), hz]
    rw [hl, h1]
    simp
end
end Abs
end Go.Proofs.Ytbnjdkpangmneaa
