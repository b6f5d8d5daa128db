/-
  A reading of Go's memory by values, fifteenth part: guards and tests; strings; bytes of strings; rows made out of parts; closures. No program of Go's is named here.
-/
import Derived.Test.YtbnjdkpangmneaaAbsN
import Derived.Laws.IdiomStrings
namespace Go.Proofs.Ytbnjdkpangmneaa
open Go.ChangeShapes Go.WideShapes Go.RowKit
set_option linter.unusedVariables false
set_option linter.unusedSimpArgs false
namespace Abs
theorem loop_list (bs : ByteArray) : ∀ (k i : Nat) (r : List UInt8), bs.size - i = k → ByteArray.toList.loop bs i r = r.reverse ++ bs.data.toList.drop i := by
  intro k
  induction k with
  | zero =>
    intro i r h
    unfold ByteArray.toList.loop
    have h1 : ¬ i < bs.size := by omega
    have h0 : bs.data.toList.length = bs.size := by simp
    have h2 : bs.data.toList.drop i = [] := List.drop_eq_nil_of_le (by omega)
    simp [h1, h2]
  | succ k ih =>
    intro i r h
    unfold ByteArray.toList.loop
    have h1 : i < bs.size := by omega
    rw [if_pos h1, ih (i + 1) _ (by omega)]
    have hh : i < bs.data.size := h1
    have h2 : bs.data.toList.drop i = bs.get! i :: bs.data.toList.drop (i + 1) := by
      rw [List.drop_eq_getElem_cons (by simpa using hh)]
      congr 1
      exact (getElem!_pos bs.data i hh).symm
    rw [h2]
    simp
theorem bytes_list (bs : ByteArray) : bs.toList = bs.data.toList := by
  unfold ByteArray.toList
  rw [loop_list bs _ 0 [] rfl]
  rfl
theorem bytes_eq (x y : ByteArray) : (x.toList == y.toList) = decide (x = y) := by
  rw [bytes_list, bytes_list, Bool.eq_iff_iff]
  simp only [beq_iff_eq, decide_eq_true_eq]
  refine ⟨fun h => ?_, fun h => by rw [h]⟩
  obtain ⟨⟨a⟩⟩ := x
  obtain ⟨⟨b⟩⟩ := y
  simp only at h
  rw [h]

section
variable {P : Program} {s : ASt} {Q : Exit → ASt → Prop} {d : Option Nat} {ty t u xT yT : TypeId} {pos : String} {af : Array Edge} {g : Option (Nat × Bool)} {x y c : Operand} {id off n m f o sz len bytes e : Nat} {agg : Bool} {cs : List CV} {k : IntKind} {el el' : Nat → List CV}
theorem aops_skip {ops : Array Oper} {o : Oper} {rest : List Oper} (hw : ∀ (U : Nat → Prop) (a : Act) (w : World) (hv : Nat → Value), M U s a w hv → Region.wanted o (yielded ops a.tmps) = false) (hdd : dOk s o.dst = true) (hr : AOps P ops rest (s.put o.dst (.tup [])) Q) : AOps P ops (o :: rest) s Q :=
  fun U T w0 a w hv ok => wpList_step fun K hK => by
    rw [if_neg (by rw [hw U a w hv ok.m]; simp)]
    refine hK _ _ (hr U T w0 _ w hv ?_)
    have := ok.next (Fr.refl (fun _ => False) w) (fun _ e => e.elim) (fun _ id _ => Pass.refl _ _ id) (fun id _ => Pass.refl _ _ id) ok.m.hm (fun _ h _ => h) (d := o.dst) (r := .tup []) (v := undef) ⟨[], rfl, .nil⟩ hdd
    exact this
theorem aops_no {ops : Array Oper} {o : Oper} {rest : List Oper} {j t : Nat} {b want : Bool} (hg : o.guard = some (j, want)) (hd : (ops[j]?).bind (·.dst) = some t) (ht : get s.env t = .one (.val (.bool b))) (hn : Nat.blt t s.nt = true) (hdd : dOk s o.dst = true)
    (hb : b = !want) (hr : AOps P ops rest (s.put o.dst (.tup [])) Q) : AOps P ops (o :: rest) s Q := aops_skip (fun U a w hv m => by
  have hy := yielded_get m hd ht (by simpa [Nat.blt_eq] using hn)
  simp [Region.wanted, hg, hy, hb]) hdd hr
theorem aops_und {ops : Array Oper} {o : Oper} {rest : List Oper} {j t : Nat} {want : Bool} (hg : o.guard = some (j, want)) (hd : (ops[j]?).bind (·.dst) = some t) (ht : get s.env t = .tup []) (hn : Nat.blt t s.nt = true) (hdd : dOk s o.dst = true) (hr : AOps P ops rest (s.put o.dst (.tup [])) Q) : AOps P ops (o :: rest) s Q := aops_skip (fun U a w hv m => by
  have hy := undef_get m hd ht (by simpa [Nat.blt_eq] using hn)
  simp [Region.wanted, hg, hy]) hdd hr
/-- A guard that is open: both ways. -/
theorem aops_fork {ops : Array Oper} {o : Oper} {rest : List Oper} {j t : Nat} {b want : Bool} (hg : o.guard = some (j, want)) (hd : (ops[j]?).bind (·.dst) = some t) (ht : get s.env t = .one (.val (.bool b)))
    (h1 : b = true → AOps P ops (o :: rest) s Q) (h2 : b = false → AOps P ops (o :: rest) s Q) : AOps P ops (o :: rest) s Q := by
  cases b
  · exact h2 rfl
  · exact h1 rfl
theorem aw_yes {x y : Code} {b : Bool} (hc : s.ev c = .one (.val (.bool b))) (hb : b = true) (h : AW P x s Q) : AW P (.cond c x y) s Q := aw_cond hc (fun _ => h) fun e => by rw [hb] at e; cases e
theorem aw_no {x y : Code} {b : Bool} (hc : s.ev c = .one (.val (.bool b))) (hb : b = false) (h : AW P y s Q) : AW P (.cond c x y) s Q := aw_cond hc (fun e => by rw [hb] at e; cases e) fun _ => h

/-! ### strings -/
theorem ev_str_eq {p q : ByteArray} {b : Bool} (hx : s.ev x = .one (.val (.string p))) (hy : s.ev y = .one (.val (.string q))) (hd : dOk s d = true) (hb : decide (p = q) = b) : Ev P [] s ⟨d, .binOp .eql xT x y yT, ty, pos, af, g⟩ (· = s.put d (.one (.val (.bool b)))) :=
  ev_of_val hd rfl fun U a w hv M => by
    rw [← bytes_eq] at hb
    simp [execOp, eqGuard, binOp, M.val hx, M.val hy, Op.stringOp, hb]
theorem ev_str_ne {p q : ByteArray} {b : Bool} (hx : s.ev x = .one (.val (.string p))) (hy : s.ev y = .one (.val (.string q))) (hd : dOk s d = true) (hb : (!decide (p = q)) = b) : Ev P [] s ⟨d, .binOp .neq xT x y yT, ty, pos, af, g⟩ (· = s.put d (.one (.val (.bool b)))) :=
  ev_of_val hd rfl fun U a w hv M => by
    rw [← bytes_eq] at hb
    simp [execOp, eqGuard, binOp, M.val hx, M.val hy, Op.stringOp, ← hb, bne]
theorem ev_str_add {p q : ByteArray} (hx : s.ev x = .one (.val (.string p))) (hy : s.ev y = .one (.val (.string q))) (hd : dOk s d = true) (hs : p.size + q.size ≤ 9223372036854775807) : Ev P [] s ⟨d, .binOp .add xT x y yT, ty, pos, af, g⟩ (· = s.put d (.one (.val (.string (p ++ q))))) :=
  ev_of_val hd rfl fun U a w hv M => by
    have h := run_string_add_sum (P := P) w p q hs
    simp [execOp, eqGuard, binOp, M.val hx, M.val hy, h]
theorem run_equal_bool {d : Nat} {p q : Bool} {w : World} (hT : P.underlying xT = some .bool) : (Op.equalIn (d + 1) xT (.bool p) (.bool q)).run P w = .ok (p == q) w := by
  simp [Op.equalIn, run_underlying hT]
theorem ev_bool_eq {p q : Bool} {b : Bool} (hx : s.ev x = .one (.val (.bool p))) (hy : s.ev y = .one (.val (.bool q))) (hd : dOk s d = true) (hT : P.underlying xT = some .bool) (hb : (p == q) = b) : Ev P [] s ⟨d, .binOp .eql xT x y yT, ty, pos, af, g⟩ (· = s.put d (.one (.val (.bool b)))) :=
  ev_of_val hd rfl fun U a w hv M => by
    have h : (Op.equal xT (.bool p) (.bool q)).run P w = .ok (p == q) w := run_equal_bool (d := 9999) hT
    simp [execOp, eqGuard, binOp, M.val hx, M.val hy, h, hb]
theorem ev_bool_ne {p q : Bool} {b : Bool} (hx : s.ev x = .one (.val (.bool p))) (hy : s.ev y = .one (.val (.bool q))) (hd : dOk s d = true) (hT : P.underlying xT = some .bool) (hb : (!(p == q)) = b) : Ev P [] s ⟨d, .binOp .neq xT x y yT, ty, pos, af, g⟩ (· = s.put d (.one (.val (.bool b)))) :=
  ev_of_val hd rfl fun U a w hv M => by
    have h : (Op.equal xT (.bool p) (.bool q)).run P w = .ok (p == q) w := run_equal_bool (d := 9999) hT
    simp [execOp, eqGuard, binOp, M.val hx, M.val hy, h, ← hb]
theorem ev_conv_int {k' : IntKind} {i q : Int} {dd : TypeDesc} (hx : s.ev x = .one (.val (.int k i))) (hd : dOk s d = true) (hS : P.underlying xT = some dd) (hT : P.underlying yT = some (.int k')) (hq : k'.wrap i = q) : Ev P [] s ⟨d, .convert xT yT x, ty, pos, af, g⟩ (· = s.put d (.one (.val (.int k' q)))) :=
  ev_of_val hd rfl fun U a w hv M => by
    simp [execOp, convert, run_underlying hS, run_underlying hT, M.val hx, Conv.intToInt, hq]
/-- Bytes of a string: new memory, only read from now on. -/
theorem ev_bytes_str {b : ByteArray} (hx : s.ev x = .one (.val (.string b))) (hS : P.underlying xT = some .string) (hT : P.underlying yT = some (.slice e)) (hE : P.underlying e = some (.int .u8)) (hm : b.size ≤ maxLen) (hd : dOk s d = true) :
    Ev P [] s ⟨d, .convert xT yT x, ty, pos, af, g⟩ (· = s.put d (.one (CV.by b.data.toList))) :=
  ev_of_run hd fun U a w hv M => by
    refine ⟨.slice (some ⟨w.heap.size, 0, none⟩) b.size (grownCap w b.size 0 e), w.drew.alloc (.cells (bytesRow b (grownCap w b.size 0 e)) e ((bytesRow b (grownCap w b.size 0 e)).size, (bytesRow b (grownCap w b.size 0 e)).size + 1)), by simp only [execOp, Sem.run_bind, M.val hx, run_bytes_of_string (P := P) w xT yT e b hS hT hE, Result.andThen_ok, Sem.run_pure], (Fr.drew (fun _ => False) w).trans (Fr.alloc (fun _ => False) _ _) (fun _ _ e => e), ?_⟩
    have hlen : b.data.toList.length = b.size := by simp
    have hnew : ∀ x, (U x ∨ mine s.heap hv x) → x < w.heap.size := fun x hx => hx.elim (M.hm.ult x) fun hx => M.hm.lt hx
    show RepC _ _ (.slc b.data.toList.length (lsEl byC b.data.toList)) _
    rw [hlen]
    refine RepC.slc b.size _ 1 w.heap.size 0 _ (fun i _ => .int .u8 (((b.data.toList.getD i default)).toNat : Int)) (by simp) (fun hx => Nat.lt_irrefl _ (hnew _ hx)) (grownCap_ge w b.size 0 e) (grownCap_le_maxLen w b.size 0 e hm) (fun i _ => rfl) (fun i j c hi hj => ?_) (fun i j c hi hj => ?_)
    · have hj0 : j = 0 := by
        have := (List.getElem?_eq_some_iff.1 hj).1
        simp [lsEl, byC] at this
        omega
      subst hj0
      rw [cell_of_row _ w.heap.size _ _ e _ (heap_alloc_new w.drew _)]
      have hi2 : i < b.data.size := hi
      have hi3 : b.data[i]? = some b.data[i] := Array.getElem?_eq_getElem hi2
      have hi4 : i < b.size := hi
      simp [bytesRow, Array.getElem?_append, hi3, hi4]
    · have hj0 : j = 0 := by
        have := (List.getElem?_eq_some_iff.1 hj).1
        simp [lsEl, byC] at this
        omega
      subst hj0
      have hj2 : some (CV.val (.int .u8 ((b.data.toList.getD i default).toNat : Int))) = some c := hj
      injection hj2 with hj2
      subst hj2
      exact RepC.val (.int .u8 _) rfl
/-! ### a row made out of parts -/
theorem ev_slice_lit (id : Nat) (hid : look s.heap id = none) {parts : List (Nat × Operand)} {L : Nat} [kk : TSl P t e sz bytes] {z : Value} [kz : TZero P e z] {zs : List Value} (hz : z.cells = zs.toArray) (hone : zs.all (·.oneCell') = true) {out : List CV}
    (ho : fillC (fun i => some (i * sz, sz)) ((List.range (L * sz)).map fun i => CV.val (zs.getD (i % zs.length) undef)) (parts.map fun p => (p.1, s.ev p.2)) = some out) (hrd : out.all CV.read = true) (hlen : out.length = L * sz) (hL : Nat.ble (L * sz) 16777216 = true) {el : Nat → List CV} (hel : ∀ i, i < L → (out.drop (i * sz)).take sz = el i) (hd : dOk s d = true) :
    Ev P [] s ⟨d, .buildSlice t L parts.toArray, ty, pos, af, g⟩ (· = ASt.put { s with heap := (id, some (.row e sz L el)) :: s.heap } d (.one (.own id))) :=
  fun U T w0 a w hv ok K Q hK => by
    have E := TSl.elem (P := P) (t := t) (e := e) (sz := sz) (bytes := bytes)
    have hL' := Nat.le_of_ble_eq_true hL
    let zero : Array Value := if L * sz = 0 then #[] else z.cells
    let vc : Array Value := (Array.range (L * sz)).map fun i => zero[i % zero.size]!
    have hinit : All2 (RepT s.heap hv (fun b => U b ∨ mine s.heap hv b) w) ((List.range (L * sz)).map fun i => CV.val (zs.getD (i % zs.length) undef)) vc.toList := by
      refine All2.of (by simp [vc]) fun j c hj => ?_
      have hlt : j < L * sz := by
        obtain ⟨h, _⟩ := List.getElem?_eq_some_iff.1 hj
        simpa using h
      have h0 : ¬ L * sz = 0 := by omega
      have hzs : 0 < zs.length := by
        obtain ⟨i', z', hi', hz', hs', _, hc'⟩ := E.info
        have h6 : z' = z := by
          have h7 := kz.h
          rw [hi'] at h7
          simp only [Option.bind_some] at h7
          rw [hz'] at h7
          injection h7
        rw [h6, hz] at hc'
        have := E.pos
        simp at hc'
        omega
      have hzero : zero = zs.toArray := by show (if L * sz = 0 then #[] else z.cells) = _; rw [if_neg h0, hz]
      have hm := Nat.mod_lt j hzs
      refine ⟨zs[j % zs.length]'hm, ?_, ?_⟩
      · show vc.toList[j]? = _
        have : zero.size = zs.length := by rw [hzero]; simp
        simp [vc, hlt, hzero, hm]
      · rw [List.getElem?_map, List.getElem?_range hlt] at hj
        simp only [Option.map_some, Option.some.injEq] at hj
        subst hj
        simp only [List.getD, List.getElem?_eq_getElem hm, Option.getD_some]
        exact RepC.val _ (List.all_eq_true.1 hone _ (List.getElem_mem hm))
    obtain ⟨vout, h1, h2⟩ := fill_rep (parts_rep ok.m parts) _ vc out hinit ho
    have hrun : (execOp a.eval ⟨d, .buildSlice t L parts.toArray, ty, pos, af, g⟩).run P w = .ok (.value (.slice (some ⟨w.heap.size, 0, none⟩) L L)) (w.alloc (.cells vout e)) := by
      have hpl : (Array.map (fun (x : Nat × Operand) => (x.1, a.eval x.2)) parts.toArray).toList = parts.map fun p => (p.1, a.eval p.2) := by simp
      have hbig : ¬ (L * sz > 2 ^ 24) := by omega
      by_cases h0 : L * sz = 0
      · have hv0 : vc = (Array.range (L * sz)).map fun i => (#[] : Array Value)[i % (#[] : Array Value).size]! := by
          show ((Array.range (L * sz)).map fun i => (if L * sz = 0 then #[] else z.cells)[i % (if L * sz = 0 then #[] else z.cells).size]!) = _
          rw [if_pos h0]
        rw [hv0] at h1
        simp only [execOp, Instr.buildSlice, Sem.run_bind, run_underlying E.slice, Result.andThen_ok, TSl.run_size (P := P) (t := t) (e := e) (sz := sz) (bytes := bytes), if_neg hbig, if_pos h0, Sem.run_pure]
        rw [hpl, h1]
        rfl
      · have hv0 : vc = (Array.range (L * sz)).map fun i => z.cells[i % z.cells.size]! := by
          show ((Array.range (L * sz)).map fun i => (if L * sz = 0 then #[] else z.cells)[i % (if L * sz = 0 then #[] else z.cells).size]!) = _
          rw [if_neg h0]
        rw [hv0] at h1
        simp only [execOp, Instr.buildSlice, Sem.run_bind, run_underlying E.slice, Result.andThen_ok, TSl.run_size (P := P) (t := t) (e := e) (sz := sz) (bytes := bytes), if_neg hbig, if_neg h0, Sem.run_pure, TZero.run]
        rw [hpl, h1]
        rfl
    unfold Oper.wp
    rw [hrun]
    have hvl : vout.size = L * sz := by have := h2.length; simp at this; omega
    have hget : ∀ (i j : Nat) (c : CV), i < L → (el i)[j]? = some c → out[i * sz + j]? = some c ∧ j < sz := fun i j c hi hj => by
      rw [← hel i hi, List.getElem?_take] at hj
      split at hj
      · rename_i hlt; rw [List.getElem?_drop] at hj; exact ⟨hj, hlt⟩
      · cases hj
    have hbl : ∀ i, i < L → (el i).length = sz := fun i hi => by
      rw [← hel i hi, List.length_take, List.length_drop, hlen]
      have := Nat.mul_le_mul_right sz (Nat.succ_le_of_lt hi)
      rw [Nat.succ_mul] at this
      omega
    have hLm : L ≤ maxLen := by
      have h3 := Nat.le_mul_of_pos_right L E.pos
      unfold maxLen
      omega
    have hu : ∀ g, blockOf (.slice (some ⟨w.heap.size, 0, none⟩) L L) = some g → w.heap.size ≤ g := fun g hg => by simp [blockOf] at hg; omega
    refine hK _ _ _ _ rfl (ok.new (blk := .row e sz L el) hid (Fr.alloc _ _ _) hu ⟨vout.toList, ?_, hbl, fun i j c hi hj => ?_⟩ ⟨⟨e, sz, L, el, look_same _ _ _⟩, (upd_same _ _ _).symm, _, _, _, rfl⟩ hd) fun j _ ⟨b, hb⟩ => upd_other fun e => by subst e; rw [hid] at hb; cases hb
    · rw [upd_same]
      exact ⟨by simpa using hvl, .inr ⟨w.heap.size, L, vout, rfl, Nat.zero_le _, heap_alloc_new w _, Nat.le_refl _, hLm, hvl, by rw [List.take_of_length_le (by simp [hvl])]⟩⟩
    · obtain ⟨hc, _⟩ := hget i j c hi hj
      obtain ⟨u, h3, h4⟩ := h2.get hc
      exact ⟨u, h3, (h4.read (List.all_eq_true.1 hrd c (List.mem_of_getElem? hc))).keep (Fr.alloc (fun _ => False) w _) (fun _ e => e.elim) fun b hlt hb => hb.imp (fun x => x) fun hb => mine_upd (fun g hg => .inl (hu g hg)) b hb hlt⟩
end
end Abs
end Go.Proofs.Ytbnjdkpangmneaa
