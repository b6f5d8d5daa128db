/-
  A reading of Go's memory by values, sixth part: stores into blocks of one's own; parts of values; strings; lengths. No program of Go's is named here.
-/
import Derived.Test.YtbnjdkpangmneaaAbsE
namespace Go.Proofs.Ytbnjdkpangmneaa
open Go.ChangeShapes Go.WideShapes Go.RowKit
set_option linter.unusedVariables false
set_option linter.unusedSimpArgs false
namespace Abs
section
variable {U T : Nat → Prop} {w0 : Base} {w w' : World} {s : ASt} {a : Act} {hv hv' : Nat → Value} {h h' : Heap} {id : Nat}
theorem Fr.setRow (w : World) (b : Nat) (vs : Array Value) : Fr (fun g => g = b) w (w.setRow b vs) := ⟨rfl, rfl, rfl, by simp, fun g _ hn => setRow_other w b g vs hn⟩
theorem Pass.ofBox {cs cs' : List CV} (hb : look h id = some (.box cs)) (j : Nat) : Pass h hv ((id, some (.box cs')) :: h) hv j := by
  by_cases hj : id = j
  · subst hj
    refine ⟨?_, fun _ => ⟨cs', look_same _ _ _⟩, fun _ => rfl⟩
    rintro ⟨_, _, _, _, e⟩; rw [hb] at e; cases e
  · exact ⟨fun x => by rw [look_other _ _ hj]; exact x, fun x => by rw [look_other _ _ hj]; exact x, fun _ => rfl⟩
theorem Pass.ofRow {e sz n : Nat} {el : Nat → List CV} {e' sz' n' : Nat} {el' : Nat → List CV} (hb : look h id = some (.row e sz n el)) (j : Nat) : Pass h hv ((id, some (.row e' sz' n' el')) :: h) hv j := by
  by_cases hj : id = j
  · subst hj
    refine ⟨fun _ => ⟨e', sz', n', el', look_same _ _ _⟩, ?_, fun _ => rfl⟩
    rintro ⟨_, e⟩; rw [hb] at e; cases e
  · exact ⟨fun x => by rw [look_other _ _ hj]; exact x, fun x => by rw [look_other _ _ hj]; exact x, fun _ => rfl⟩
theorem mine_box {cs cs' : List CV} (hb : look h id = some (.box cs)) (b : Nat) (hm : mine ((id, some (.box cs')) :: h) hv b) : mine h hv b := by
  obtain ⟨i, x, h1, h2⟩ := hm
  by_cases hi : id = i
  · subst hi; exact ⟨id, _, hb, h2⟩
  · rw [look_other _ _ hi] at h1; exact ⟨i, x, h1, h2⟩
theorem Ok.write (ok : Ok U T w0 s a w hv) {cs cs' : List CV} (hb : look s.heap id = some (.box cs)) {b : Nat} (hid : hv id = .pointer (some ⟨b, 0, none⟩)) {vs' : List Value} (hr : All2 (RepT s.heap hv (fun b => U b ∨ mine s.heap hv b) w) cs' vs') {d : Option Nat} (hd : dOk s d = true) (v : Value) :
    Ok U T w0 (ASt.put { s with heap := (id, some (.box cs')) :: s.heap } d (.one .any)) (a.put d v) (w.setRow b vs'.toArray) hv := by
  obtain ⟨b', vs, ty, h3, h4, h5⟩ := ok.m.hm.blk id _ hb
  rw [hid] at h3
  simp only [Value.pointer.injEq, Option.some.injEq, Addr.mk.injEq, and_true] at h3
  subst h3
  have hmb : mine s.heap hv b := ⟨id, _, hb, by rw [hid]; rfl⟩
  have hf := Fr.setRow w b vs'.toArray
  have hput := ok.m.hm.put (w' := w.setRow b vs'.toArray) (id := id) (blk := .box cs') (u := hv id) hf (fun g hg => by subst hg; exact ⟨⟨_, hb⟩, by rw [hid]; rfl⟩) (fun g hg => .inr ⟨⟨_, hb⟩, hg⟩) (fun i x _ _ j _ => by rw [upd_self]; exact Pass.ofBox hb j) (by
    rw [upd_self]
    refine ⟨b, vs'.toArray, ty, hid, setRow_heap w b vs vs'.toArray ty (0, 0) h4, ?_⟩
    exact hr.imp fun x y hxy => hxy.keep (fun j _ => Pass.ofBox hb j) hf (fun g hg => by subst hg; exact .inr hmb) fun g hlt hg => hg.imp (fun x => x) (mine_box hb g))
  rw [upd_self] at hput
  exact ok.next hf (fun g hg => by subst hg; exact hmb) (fun _ j _ => Pass.ofBox hb j) (fun j _ => Pass.ofBox hb j) hput (fun g hg _ => mine_box hb g hg) trivial hd
end

section
variable {P : Program} {s : ASt} {d : Option Nat} {ty t xT yT : TypeId} {pos : String} {af : Array Edge} {g : Option (Nat × Bool)} {x y c : Operand} {id off n f o m sz len bytes e : Nat} {agg : Bool} {cs : List CV} {k : IntKind}

theorem ev_store {r : AV} {new : List CV} (hx : s.ev x = .one (.ptr id off)) (hb : look s.heap id = some (.box cs)) (hy : s.ev y = r) (hc : r.cells = some new) (hsol : new.all CV.solid = true) [kk : TVar P t agg n] (hn : new.length = n) (hl : Nat.ble (off + n) cs.length = true) (hd : dOk s d = true) :
    Ev P [] s ⟨d, .store t x y, ty, pos, af, g⟩ (· = ASt.put { s with heap := (id, some (.box (cs.take off ++ new ++ cs.drop (off + n)))) :: s.heap } d (.one .any)) :=
  fun U T w0 a w hv ok K Q hK => by
    have hr := ok.m.ev y
    rw [hy] at hr
    obtain ⟨us, hus, h2⟩ := cells_rep hr hc
    have hrx := ok.m.ev x
    rw [hx] at hrx
    obtain ⟨_, b, h3, h4⟩ := hrx
    obtain ⟨b', vs, ty', h5, h6, h7⟩ := ok.m.hm.blk id _ hb
    rw [h3] at h5
    simp only [Value.pointer.injEq, Option.some.injEq, Addr.mk.injEq, and_true] at h5
    subst h5
    have hlen := h7.length
    have hlu := h2.length
    have hl' := Nat.le_of_ble_eq_true hl
    simp only [Array.length_toList] at hlen
    have hone : ∀ u ∈ us, u.oneCell' = true := fun u hu => by
      obtain ⟨j, hj⟩ := List.mem_iff_getElem?.1 hu
      have hjl : j < new.length := by rw [hlu]; exact (List.getElem?_eq_some_iff.1 hj).1
      obtain ⟨u', h8, h9⟩ := h2.get (List.getElem?_eq_getElem hjl)
      rw [hj] at h8
      injection h8 with h8
      subst h8
      exact RepT.one h9 (List.all_eq_true.1 hsol _ (List.getElem_mem hjl))
    have hst := run_storeCells_at (P := P) b off ty' us 0 vs w h6 (by omega) hone
    simp only [Nat.add_zero] at hst
    have hun : us.length = n := by omega
    rw [hun] at hst
    have hall : All2 (RepT s.heap hv (fun b => U b ∨ mine s.heap hv b) w) (cs.take off ++ new ++ cs.drop (off + n)) (vs.toList.take off ++ us ++ vs.toList.drop (off + n)) := ((h7.take off).append h2).append (h7.drop (off + n))
    have hrun : (execOp a.eval ⟨d, .store t x y, ty, pos, af, g⟩).run P w = .ok .skip (w.setRow b (vs.toList.take off ++ us ++ vs.toList.drop (off + n)).toArray) := by
      have hsz : us.toArray.size = n := by simpa using hun
      simp [execOp, Instr.storeAt, h4, Instr.sureAddr, storeVar, hus, run_size (P := P) (t := t) (agg := agg) (n := n), hun, hst]
    unfold Oper.wp
    rw [hrun]
    exact hK _ undef _ hv rfl (ok.write hb h3 hall hd undef) fun _ _ _ => rfl

/-! ### parts of values -/
theorem ev_extract {vs : List AV} {r : AV} (hx : s.ev x = .tup vs) (hr : vs[n]? = some r) (hd : dOk s d = true) : Ev P [] s ⟨d, .extract x n, ty, pos, af, g⟩ (· = s.put d r) :=
  ev_of_run hd fun U a w hv m => by
    have h := m.ev x
    rw [hx] at h
    obtain ⟨us, h1, h2⟩ := h
    obtain ⟨u, h3, h4⟩ := h2.get hr
    refine ⟨u, w, by simp [execOp, Instr.extract, h1, h3], Fr.refl _ _, ?_⟩
    cases r with
    | tup _ => exact h4.elim
    | one c => exact h4
    | agg cs => exact h4
theorem ev_index_str {b : ByteArray} {i : Int} {j : Nat} (hx : s.ev x = .one (.val (.string b))) (hy : s.ev y = .one (.val (.int k i))) (hi : i = (j : Int)) (hj : j < b.size) [ht : TStr P t] (hd : dOk s d = true) :
    Ev P [] s ⟨d, .index t x y, ty, pos, af, g⟩ (· = s.put d (.one (.val (.int .u8 (b[j].toNat : Int))))) :=
  ev_of_val hd rfl fun U a w hv m => by
    have h1 : (0 : Int) ≤ i := by omega
    have h2 : i.toNat = j := by omega
    simp [execOp, Instr.index, m.val hx, m.val hy, asIntOf, run_underlying ht.h, h1, h2, hj]

/-! ### lengths -/
theorem ev_len_str {b : ByteArray} (hx : s.ev x = .one (.val (.string b))) [ht : TStr P t] (hd : dOk s d = true) :
    Ev P [] s ⟨d, .call { callee := .builtin .len, args := #[x], argTypes := #[t] }, ty, pos, af, g⟩ (· = s.put d (.one (.val (.int .i64 (b.size : Int))))) :=
  ev_of_val hd rfl fun U a w hv m => by
    simp [execOp, resolve, invoke, builtin, Builtin.len_, m.val hx, run_underlying ht.h, goInt]
theorem ev_len_slc {el : Nat → List CV} (hx : s.ev x = .one (.slc n el)) [h : TSl P t e sz bytes] (hd : dOk s d = true) :
    Ev P [] s ⟨d, .call { callee := .builtin .len, args := #[x], argTypes := #[t] }, ty, pos, af, g⟩ (· = s.put d (.one (.val (.int .i64 (n : Int))))) :=
  ev_of_val hd rfl fun U a w hv m => by
    have hr := m.ev x
    rw [hx] at hr
    have hE := (TSl.elem (P := P) (t := t) (e := e) (sz := sz) (bytes := bytes))
    rcases RepC.slc_inv hr with ⟨h0, _, _, hv', _⟩ | ⟨size, b, off, cap, vals, hv', _⟩
    · simp [execOp, resolve, invoke, builtin, Builtin.len_, hv', run_underlying hE.slice, goInt, h0]
    · simp [execOp, resolve, invoke, builtin, Builtin.len_, hv', run_underlying hE.slice, goInt]
theorem ev_len_nil (hx : s.ev x = .one (.val (.slice none 0 0))) [h : TSl P t e sz bytes] (hd : dOk s d = true) :
    Ev P [] s ⟨d, .call { callee := .builtin .len, args := #[x], argTypes := #[t] }, ty, pos, af, g⟩ (· = s.put d (.one (.val (.int .i64 0)))) :=
  ev_of_val hd rfl fun U a w hv m => by
    have hE := (TSl.elem (P := P) (t := t) (e := e) (sz := sz) (bytes := bytes))
    simp [execOp, resolve, invoke, builtin, Builtin.len_, m.val hx, run_underlying hE.slice, goInt]
theorem own_len {U : Nat → Prop} {a : Act} {w : World} {hv : Nat → Value} {e' : TypeId} {el : Nat → List CV} (m : M U s a w hv) (hx : s.ev x = .one (.own id)) (hb : look s.heap id = some (.row e' sz n el)) : ∃ A c, a.eval x = .slice A n c ∧ hv id = .slice A n c ∧ n ≤ c ∧ c ≤ maxLen := by
  have hr := m.ev x
  rw [hx] at hr
  obtain ⟨_, h2, _⟩ := hr
  obtain ⟨vs, h3, _⟩ := m.hm.blk id _ hb
  obtain ⟨A, c, h4, h5, h6, _⟩ := Kit.own_slice h3
  exact ⟨A, c, h2.trans h4, h4, h5, h6⟩
theorem ev_len_own {e' : TypeId} {el : Nat → List CV} (hx : s.ev x = .one (.own id)) (hb : look s.heap id = some (.row e' sz n el)) {e'' sz'' : Nat} [h : TSl P t e'' sz'' bytes] (hd : dOk s d = true) :
    Ev P [] s ⟨d, .call { callee := .builtin .len, args := #[x], argTypes := #[t] }, ty, pos, af, g⟩ (· = s.put d (.one (.val (.int .i64 (n : Int))))) :=
  ev_of_val hd rfl fun U a w hv m => by
    obtain ⟨A, c, h1, _⟩ := own_len m hx hb
    have hE := (TSl.elem (P := P) (t := t) (e := e'') (sz := sz'') (bytes := bytes))
    simp [execOp, resolve, invoke, builtin, Builtin.len_, h1, run_underlying hE.slice, goInt]
theorem ev_min {p : Array TypeId} {i j : Int} (hx : s.ev x = .one (.val (.int k i))) (hy : s.ev y = .one (.val (.int k j))) (hd : dOk s d = true) {q : Int} (hq : (if j < i then j else i) = q) :
    Ev P [] s ⟨d, .call { callee := .builtin .min, args := #[x, y], argTypes := p }, ty, pos, af, g⟩ (· = s.put d (.one (.val (.int k q)))) :=
  ev_of_val hd rfl fun U a w hv m => by
    simp [execOp, resolve, invoke, builtin, Builtin.min_, Builtin.min2, m.val hx, m.val hy, ← hq]
theorem ev_max {p : Array TypeId} {i j : Int} (hx : s.ev x = .one (.val (.int k i))) (hy : s.ev y = .one (.val (.int k j))) (hd : dOk s d = true) {q : Int} (hq : (if j > i then j else i) = q) :
    Ev P [] s ⟨d, .call { callee := .builtin .max, args := #[x, y], argTypes := p }, ty, pos, af, g⟩ (· = s.put d (.one (.val (.int k q)))) :=
  ev_of_val hd rfl fun U a w hv m => by
    simp [execOp, resolve, invoke, builtin, Builtin.max_, Builtin.max2, m.val hx, m.val hy, ← hq]
end
end Abs
end Go.Proofs.Ytbnjdkpangmneaa
