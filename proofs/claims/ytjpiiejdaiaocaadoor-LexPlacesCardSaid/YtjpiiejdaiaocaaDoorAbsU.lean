/-
  Iterators over strings, in states read by values. No condition of its own.
-/
import Derived.Test.YtjpiiejdaiaocaaDoorAbsT
import Derived.Laws.RangeString
import Derived.Laws.StructEq
import Derived.WideLaws
namespace Go.Proofs.YtjpiiejdaiaocaaDoor
open Go.ChangeShapes Go.WideShapes Go.RowKit
set_option linter.unusedVariables false
set_option linter.unusedSimpArgs false
namespace Abs
/-- An iterator over the bytes l, at a place. -/
abbrev itB (l : List UInt8) (p : Nat) : Blk := .iter ⟨l.toArray⟩ p
section
variable {U T : Nat → Prop} {w0 : Base} {w w' : World} {s : ASt} {a : Act} {hv hv' : Nat → Value} {h h' : Heap} {id : Nat}
theorem Pass.ofIter {S S' : ByteArray} {p p' : Nat} (hb : look h id = some (.iter S p)) (j : Nat) : Pass h hv ((id, some (.iter S' p')) :: h) hv j := by
  by_cases hj : id = j
  · subst hj
    refine ⟨?_, ?_, fun _ => rfl, fun _ => ⟨S', p', look_same _ _ _⟩⟩
    · rintro ⟨_, _, _, _, e⟩; rw [hb] at e; cases e
    · rintro ⟨_, e⟩; rw [hb] at e; cases e
  · exact ⟨fun x => by rw [look_other _ _ hj]; exact x, fun x => by rw [look_other _ _ hj]; exact x, fun _ => rfl, fun x => by rw [look_other _ _ hj]; exact x⟩
theorem mine_iter {S S' : ByteArray} {p p' : Nat} (hb : look h id = some (.iter S p)) (b : Nat) (hm : mine ((id, some (.iter S' p')) :: h) hv b) : mine h hv b := by
  obtain ⟨i, x, h1, h2⟩ := hm
  by_cases hi : id = i
  · subst hi; exact ⟨id, _, hb, h2⟩
  · rw [look_other _ _ hi] at h1; exact ⟨i, x, h1, h2⟩
theorem Fr.putObj (w : World) (b : Nat) (o : Obj) : Fr (fun g => g = b) w (w.putObj b o) := ⟨rfl, rfl, rfl, by simp, fun g _ hn => World.putObj_heap_other fun e => hn e⟩
/-- An iterator goes on. -/
theorem Ok.iter (ok : Ok U T w0 s a w hv) {S : ByteArray} {p p' : Nat} (hb : look s.heap id = some (.iter S p)) {b : Nat} (hid : hv id = .pointer (some ⟨b, 0, none⟩)) {d : Option Nat} (hd : dOk s d = true) (r : AV) (v : Value)
    (hr : ∀ (h : Heap) (hv : Nat → Value) (A : Nat → Prop) (w : World), RepV h hv A w r v) :
    Ok U T w0 (ASt.put { s with heap := (id, some (.iter S p')) :: s.heap } d r) (a.put d v) (w.putObj b (.stringIter S p')) hv := by
  obtain ⟨b', h3, h4⟩ := ok.m.hm.blk id _ hb
  rw [hid] at h3
  simp only [Value.pointer.injEq, Option.some.injEq, Addr.mk.injEq, and_true] at h3
  subst h3
  have hmb : mine s.heap hv b := ⟨id, _, hb, by rw [hid]; rfl⟩
  have hf := Fr.putObj w b (.stringIter S p')
  have hput := ok.m.hm.put (w' := w.putObj b (.stringIter S p')) (id := id) (blk := .iter S p') (u := hv id) hf (fun g hg => by subst hg; exact ⟨⟨_, hb⟩, by rw [hid]; rfl⟩) (fun g hg => .inr ⟨⟨_, hb⟩, hg⟩) (fun i x _ _ j _ => by rw [upd_self]; exact Pass.ofIter hb j) (by
    rw [upd_self]
    exact ⟨b, hid, World.putObj_heap_same (Array.getElem?_eq_some_iff.1 h4).1⟩)
  rw [upd_self] at hput
  exact ok.next hf (fun g hg => by subst hg; exact hmb) (fun _ j _ => Pass.ofIter hb j) (fun j _ => Pass.ofIter hb j) hput (fun g hg _ => mine_iter hb g hg) (hr _ _ _ _) hd
end
section
variable {P : Program} {s : ASt} {d : Option Nat} {ty t : TypeId} {pos : String} {af : Array Edge} {g : Option (Nat × Bool)} {x : Operand} {id p : Nat} {l : List UInt8}
theorem ev_range (id : Nat) (hid : look s.heap id = none) (hx : s.ev x = .one (.val (Sv l))) [ht : TStr P t] (hd : dOk s d = true) :
    Ev P [] s ⟨d, .range t x, ty, pos, af, g⟩ (· = ASt.put { s with heap := (id, some (itB l 0)) :: s.heap } d (.one (.itp id))) :=
  fun U T w0 a w hv ok K Q hK => by
    have hx' := ok.m.val hx
    have hrun : (execOp a.eval ⟨d, .range t x, ty, pos, af, g⟩).run P w = .ok (.value (.pointer (some ⟨w.heap.size, 0, none⟩))) (w.alloc (.stringIter ⟨l.toArray⟩ 0)) := by
      have h1 := run_range_string (P := P) w t ⟨l.toArray⟩ ht.h
      simp only [execOp, hx', Sv]
      simp [h1, World.iter]
    unfold Oper.wp
    rw [hrun]
    have hu : ∀ g, blockOf (.pointer (some ⟨w.heap.size, 0, none⟩)) = some g → w.heap.size ≤ g := fun g hg => by simp [blockOf] at hg; omega
    exact hK _ _ _ _ rfl (ok.new (blk := itB l 0) hid (Fr.alloc _ _ _) hu ⟨w.heap.size, upd_same _ _ _, World.alloc_heap_new w _⟩ ⟨⟨_, _, look_same _ _ _⟩, (upd_same _ _ _).symm, _, rfl⟩ hd) fun j _ ⟨b, hb⟩ => upd_other fun e => by subst e; rw [hid] at hb; cases hb
theorem ev_next_yes (hx : s.ev x = .one (.itp id)) (hb : look s.heap id = some (itB l p)) (hp : p < l.length) (ha : (l.getD p 0).toNat < 128) (hd : dOk s d = true) :
    Ev P [] s ⟨d, .next x true, ty, pos, af, g⟩ (· = ASt.put { s with heap := (id, some (itB l (p + 1))) :: s.heap } d (.tup [.one (.val (.bool true)), .one (.val (.int .i64 (p : Int))), .one (.val (.int .i32 ((l.getD p 0).toNat : Int)))])) :=
  fun U T w0 a w hv ok K Q hK => by
    have hr := ok.m.ev x
    rw [hx] at hr
    obtain ⟨_, h1, b, h2⟩ := hr
    obtain ⟨b', h3, h4⟩ := ok.m.hm.blk id _ hb
    rw [h1, h3] at h2
    simp only [Value.pointer.injEq, Option.some.injEq, Addr.mk.injEq, and_true] at h2
    subst h2
    have hsz : p < (⟨l.toArray⟩ : ByteArray).size := hp
    have hg : ((⟨l.toArray⟩ : ByteArray)[p]'hsz) = l.getD p 0 := by
      show l.toArray[p] = _
      simp [List.getD, hp]
    have hdec := decode_ascii ⟨l.toArray⟩ p hsz (by rw [hg]; exact ha)
    rw [hg] at hdec
    have hrun : (execOp a.eval ⟨d, .next x true, ty, pos, af, g⟩).run P w = .ok (.value (.tuple #[.bool true, .int .i64 (p : Int), .int .i32 ((l.getD p 0).toNat : Int)])) (w.putObj b' (.stringIter ⟨l.toArray⟩ (p + 1))) := by
      simp only [execOp, h1, h3, Instr.next, getObj, setObj, Sem.run_bind, Sem.run, h4, Result.andThen, hsz, if_true, hdec]
      simp [goInt, Sem.run, h4, World.putObj]
    unfold Oper.wp
    rw [hrun]
    refine hK _ _ _ hv rfl (ok.iter hb h3 hd _ _ fun _ _ _ _ => ⟨_, rfl, .cons (RepC.val _ rfl) (.cons (RepC.val _ rfl) (.cons (RepC.val _ rfl) .nil))⟩) fun j _ _ => rfl
theorem ev_next_no (hx : s.ev x = .one (.itp id)) (hb : look s.heap id = some (itB l p)) (hp : ¬ p < l.length) (hd : dOk s d = true) :
    Ev P [] s ⟨d, .next x true, ty, pos, af, g⟩ (· = s.put d (.tup [.one (.val (.bool false))])) :=
  ev_of_run hd fun U a w hv M => by
    have hr := M.ev x
    rw [hx] at hr
    obtain ⟨_, h1, b, h2⟩ := hr
    obtain ⟨b', h3, h4⟩ := M.hm.blk id _ hb
    refine ⟨.tuple #[.bool false], w, ?_, Fr.refl _ _, ⟨_, rfl, .cons (RepC.val _ rfl) .nil⟩⟩
    have hsz : ¬ p < (⟨l.toArray⟩ : ByteArray).size := hp
    simp [execOp, h1, h3, Instr.next, getObj, Sem.run, h4, hsz]
end
theorem agg_val {h : Heap} {hv : Nat → Value} {A : Nat → Prop} {w : World} {vs : List Value} {v : Value} (hr : RepV h hv A w (.agg (vs.map CV.val)) v) : v = .agg vs.toArray := by
  obtain ⟨us, rfl, h2⟩ := hr
  congr 2
  induction vs generalizing us with
  | nil => cases h2; rfl
  | cons x vs ih =>
    cases h2 with
    | cons h1 h3 => rw [ih _ h3]; congr 1; cases (show RepC A w (.val x) _ from h1); rfl
/-- An error: none, or one. -/
def errC (b : Bool) : CV := bif b then .ifc else .val .nilIface
section
variable {P : Program} {s : ASt} {d : Option Nat} {ty xT yT : TypeId} {pos : String} {af : Array Edge} {g : Option (Nat × Bool)} {x : Operand} {b : Bool}
theorem err_inv {h : Heap} {hv : Nat → Value} {A : Nat → Prop} {w : World} {v : Value} (hr : RepV h hv A w (.one (errC b)) v) : (b = true ∧ ∃ t p, v = .iface t p) ∨ (b = false ∧ v = .nilIface) := by
  cases b with
  | true => cases (show RepC A w .ifc v from hr); exact .inl ⟨rfl, _, _, rfl⟩
  | false => exact .inr ⟨rfl, rep_val hr⟩
theorem ev_err_ne (hT : P.underlying xT = some (.interface (P.methodsAt xT))) (hx : s.ev x = .one (errC b)) (hd : dOk s d = true) : Ev P [] s ⟨d, .binOp .neq xT x (.const .nilIface) yT, ty, pos, af, g⟩ (· = s.put d (.one (.val (.bool b)))) :=
  ev_of_val hd rfl fun U a w hv M => by
    have hr := M.ev x
    rw [hx] at hr
    rcases err_inv hr with ⟨rfl, t, p, e⟩ | ⟨rfl, e⟩
    · have hc : a.eval (.const .nilIface) = .nilIface := rfl
      simp [execOp, eqGuard, e, hc, run_neq_held_nil w xT t p hT]
    · have hc : a.eval (.const .nilIface) = .nilIface := rfl
      simp [execOp, eqGuard, e, hc, run_neq_nil_nil w xT hT]
theorem ev_err_eq (hT : P.underlying xT = some (.interface (P.methodsAt xT))) (hx : s.ev x = .one (errC b)) (hd : dOk s d = true) : Ev P [] s ⟨d, .binOp .eql xT x (.const .nilIface) yT, ty, pos, af, g⟩ (· = s.put d (.one (.val (.bool (!b))))) :=
  ev_of_val hd rfl fun U a w hv M => by
    have hr := M.ev x
    rw [hx] at hr
    rcases err_inv hr with ⟨rfl, t, p, e⟩ | ⟨rfl, e⟩
    · have hc : a.eval (.const .nilIface) = .nilIface := rfl
      simp [execOp, eqGuard, e, hc, run_eql_held_nil w xT t p hT]
    · have hc : a.eval (.const .nilIface) = .nilIface := rfl
      simp [execOp, eqGuard, e, hc, run_eql_nil_nil w xT hT]
/-- Two structs are compared. -/
theorem ev_agg_eq {y : Operand} {vs us : List Value} (hm : P.eqGuardType P.depth xT = false) (hx : s.ev x = .agg (vs.map CV.val)) (hy : s.ev y = .agg (us.map CV.val)) (hq : ∀ w, (Op.equalIn 10000 xT (.agg vs.toArray) (.agg us.toArray)).run P w = .ok b w) (hd : dOk s d = true) :
    Ev P [] s ⟨d, .binOp .eql xT x y yT, ty, pos, af, g⟩ (· = s.put d (.one (.val (.bool b)))) :=
  ev_of_val hd rfl fun U a w hv M => by
    have h1 := agg_val (by have := M.ev x; rw [hx] at this; exact this)
    have h2 := agg_val (by have := M.ev y; rw [hy] at this; exact this)
    simp only [execOp, h1, h2, Sem.run_bind, run_eqGuard_agg _ _ _ _ _ _ _ hm, Result.andThen_ok, run_eql_struct, hq, Sem.run_pure]
theorem ev_agg_ne {y : Operand} {vs us : List Value} (hm : P.eqGuardType P.depth xT = false) (hx : s.ev x = .agg (vs.map CV.val)) (hy : s.ev y = .agg (us.map CV.val)) (hq : ∀ w, (Op.equalIn 10000 xT (.agg vs.toArray) (.agg us.toArray)).run P w = .ok b w) (hd : dOk s d = true) :
    Ev P [] s ⟨d, .binOp .neq xT x y yT, ty, pos, af, g⟩ (· = s.put d (.one (.val (.bool (!b))))) :=
  ev_of_val hd rfl fun U a w hv M => by
    have h1 := agg_val (by have := M.ev x; rw [hx] at this; exact this)
    have h2 := agg_val (by have := M.ev y; rw [hy] at this; exact this)
    simp only [execOp, h1, h2, Sem.run_bind, run_eqGuard_agg _ _ _ _ _ _ _ hm, Result.andThen_ok, run_neq_struct, hq, Sem.run_pure]
end
section
variable {P : Program} {s : ASt} {d : Option Nat} {ty t e : TypeId} {pos : String} {af : Array Edge} {g : Option (Nat × Bool)} {x y : Operand} {k : IntKind} {i : Int} {len sz : Nat} {cs ds : List CV}
/-- An element of an array, at a place that is not a constant. -/
theorem ev_index_get (hx : s.ev x = .agg cs) (hy : s.ev y = .one (.val (.int k i))) (hg : ∃ j : Nat, i = (j : Int) ∧ Nat.blt j len = true ∧ (cs.drop (j * sz)).take sz = ds ∧ Nat.ble (j * sz + sz) cs.length = true) (hd : dOk s d = true) [h : TArr P t len e sz true] :
    Ev P [] s ⟨d, .index t x y, ty, pos, af, g⟩ (· = s.put d (.agg ds)) := by
  obtain ⟨j, h1, h2, h3, h4⟩ := hg
  exact ev_index_agg (j := j) hx hy h1 h2 h3 h4 hd
end
/-- A contract out of a row's contract of the kit's: values in, values out. -/
theorem fnc_val {P : Program} {f : FuncId} (us : List Value) {r : AV} (R : Value → Prop) (hr : ∀ v h hv A w, R v → RepV h hv A w r v) (hc : ∀ w, Tabs [] (fun _ => undef) w → Calls P f us.toArray w fun e w' => ∃ v, e = .returned v ∧ R v ∧ Below w.heap.size w w') :
    FnC P f (us.map fun u => .one (.val u)) [] (Det r []) := fun U T w vs hv hargs hm hT => by
  have hvs : vs.toList = us := by
    clear hm hT hc
    generalize vs.toList = l at hargs
    induction us generalizing l with
    | nil => cases hargs; rfl
    | cons u us ih =>
      cases hargs with
      | cons h1 h2 => rw [ih _ h2]; congr 1; exact rep_val h1
  have he : vs = us.toArray := by rw [← hvs]
  subst he
  have nm : ∀ (hv : Nat → Value) b, mine [] hv b → False := fun hv b ⟨_, _, h1, _⟩ => by cases h1
  refine (hc w (hm.tab.sub fun b hb => (nm _ b hb).elim)).mono ?_
  rintro e w' ⟨v, rfl, hv', hb⟩
  exact ⟨r, [], hv, v, rfl, ⟨rfl, rfl⟩, hr _ _ _ _ _ hv', hm.keep (Fr.of_below hb), (Fr.of_below hb).mono fun _ _ e => e.elim, fun b hb => (nm _ b hb).elim, fun id cs hid => by cases hid⟩
end Abs
namespace Md
theorem neg_u64 (a : UInt64) : IntKind.u64.wrap (-(a.toNat : Int)) = ((-a).toNat : Int) := by
  have h := sub_u64 0 a
  simp only [UInt64.zero_sub] at h
  rw [← h]
  congr 1
  have : (0 : UInt64).toNat = 0 := rfl
  omega
theorem nz_u64 {a : UInt64} (h : a ≠ 0) : (a.toNat : Int) ≠ 0 := fun e => h (by
  apply UInt64.toNat_inj.1
  have : (0 : UInt64).toNat = 0 := rfl
  omega)
end Md
end Go.Proofs.YtjpiiejdaiaocaaDoor
