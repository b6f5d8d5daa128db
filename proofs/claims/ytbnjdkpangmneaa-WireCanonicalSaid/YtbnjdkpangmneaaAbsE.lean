/-
  A reading of Go's memory by values, fifth part: places in memory, stores, parts of values, strings. No program of Go's is named here.
-/
import Derived.Test.YtbnjdkpangmneaaAbsD
namespace Go.Proofs.Ytbnjdkpangmneaa
open Go.ChangeShapes Go.WideShapes Go.RowKit
set_option linter.unusedVariables false
set_option linter.unusedSimpArgs false
namespace Abs
theorem RepC.cptr_inv {A : Nat → Prop} {w : World} {cs : List CV} {v : Value} (h : RepC A w (.cptr cs) v) : ∃ (b off : Nat) (vals : Nat → Value), v = .pointer (some ⟨b, off, none⟩) ∧ b < w.heap.size ∧ ¬ A b ∧
    (∀ (j : Nat) (c : CV), cs[j]? = some c → w.cell? ⟨b, off + j, none⟩ = some (vals j)) ∧ ∀ (j : Nat) (c : CV), cs[j]? = some c → RepC A w c (vals j) := by
  cases h with
  | cptr _ b off vals hb hA hc hr => exact ⟨b, off, vals, rfl, hb, hA, hc, hr⟩
theorem RepC.empty {A : Nat → Prop} {w : World} {el : Nat → List CV} {Ad : Option Addr} {cap : Nat} (hm : cap ≤ maxLen) (h : Ad = none → cap = 0) : RepC A w (.slc 0 el) (.slice Ad 0 cap) := by
  cases Ad with
  | none => rw [h rfl]; exact .nil el
  | some a => exact .emp el a cap hm
theorem RepC.slc_inv {A : Nat → Prop} {w : World} {n : Nat} {el : Nat → List CV} {v : Value} (h : RepC A w (.slc n el) v) : (n = 0 ∧ ∃ (Ad : Option Addr) (cap : Nat), v = .slice Ad 0 cap ∧ cap ≤ maxLen ∧ (Ad = none → cap = 0)) ∨ ∃ (size b off cap : Nat) (vals : Nat → Nat → Value), v = .slice (some ⟨b, off, none⟩) n cap ∧ b < w.heap.size ∧ ¬ A b ∧ n ≤ cap ∧ cap ≤ maxLen ∧ (∀ i, i < n → (el i).length = size) ∧
    (∀ (i j : Nat) (c : CV), i < n → (el i)[j]? = some c → w.cell? ⟨b, off + (i * size + j), none⟩ = some (vals i j)) ∧ ∀ (i j : Nat) (c : CV), i < n → (el i)[j]? = some c → RepC A w c (vals i j) := by
  cases h with
  | nil => exact .inl ⟨rfl, none, 0, rfl, by unfold maxLen; decide, fun _ => rfl⟩
  | emp _ a cap hm => exact .inl ⟨rfl, some a, cap, rfl, hm, fun e => by cases e⟩
  | slc _ _ size b off cap vals hb hA hc hm hsz hcell hrep => exact .inr ⟨size, b, off, cap, vals, rfl, hb, hA, hc, hm, hsz, hcell, hrep⟩
theorem cells_of {A : Nat → Prop} {w : World} {cs : List CV} {b off : Nat} {vals : Nat → Value} (hc : ∀ (j : Nat) (c : CV), cs[j]? = some c → w.cell? ⟨b, off + j, none⟩ = some (vals j)) (hr : ∀ (j : Nat) (c : CV), cs[j]? = some c → RepC A w c (vals j)) :
    CellsAt w (.pointer (some ⟨b, off, none⟩)) ((List.range cs.length).map vals) ∧ All2 (RepC A w) cs ((List.range cs.length).map vals) := by
  have key : ∀ (j : Nat), j < cs.length → ((List.range cs.length).map vals)[j]? = some (vals j) := fun j hj => by simp [hj]
  refine ⟨⟨b, off, rfl, fun j u hu => ?_⟩, All2.of (by simp) fun j c hj => ?_⟩
  · have hlt : j < cs.length := by
      obtain ⟨h, _⟩ := List.getElem?_eq_some_iff.1 hu
      simpa using h
    rw [key j hlt] at hu
    injection hu with hu
    rw [← hu]
    exact hc j _ (List.getElem?_eq_getElem hlt)
  · have hlt : j < cs.length := (List.getElem?_eq_some_iff.1 hj).1
    exact ⟨_, key j hlt, hr j c hj⟩
theorem rep_of_c {h : Heap} {hv : Nat → Value} {A : Nat → Prop} {w : World} {c : CV} {v : Value} (hr : RepC A w c v) : RepV h hv A w (.one c) v := by
  cases hr with
  | val v h => exact RepC.val v h
  | nil el => exact RepC.nil el
  | emp el a cap hm => exact RepC.emp el a cap hm
  | emp0 Ad => exact RepC.emp0 Ad
  | slc n el size b off cap vals hb hA hc hm hs hcell hrep => exact RepC.slc n el size b off cap vals hb hA hc hm hs hcell hrep
  | cptr cs b off vals hb hA hcell hrep => exact RepC.cptr cs b off vals hb hA hcell hrep
section
variable {P : Program} {s : ASt} {d : Option Nat} {ty t xT yT : TypeId} {pos : String} {af : Array Edge} {g : Option (Nat × Bool)} {x y c : Operand} {id off n f o m sz len bytes e : Nat} {agg : Bool} {cs : List CV} {k : IntKind}

theorem run_field {v : Value} {b off : Nat} [h : TFld P t f o n agg] (h0 : Nat.blt 0 n = true) (w : World) (hv : v = .pointer (some ⟨b, off, none⟩)) : (Instr.fieldAt t v f).run P w = .ok (.pointer (some ⟨b, off + o, none⟩)) w := by
  obtain ⟨fs, fd, h1, h2, h3, h4⟩ := TFld.parts (P := P) (t := t) (f := f) (off := o) (n := n) (agg := agg)
  subst hv
  have hn : ¬ n = 0 := by have := Nat.le_of_ble_eq_true h0; omega
  simp [Instr.fieldAt, run_underlying h1, h2, Instr.sureAddr, fieldPlace, run_size (P := P) (t := fd.type) (agg := agg) (n := n), hn, add_at, h3]
theorem ev_field (hx : s.ev x = .one (.ptr id off)) [TFld P t f o n agg] (h0 : Nat.blt 0 n = true) (hd : dOk s d = true) : Ev P [] s ⟨d, .fieldAddr t x f, ty, pos, af, g⟩ (· = s.put d (.one (.ptr id (off + o)))) :=
  ev_of_run hd fun U a w hv M => by
    have hr := M.ev x
    rw [hx] at hr
    obtain ⟨h1, b, h2, h3⟩ := hr
    exact ⟨.pointer (some ⟨b, off + o, none⟩), w, by simp [execOp, run_field (P := P) (o := o) (n := n) (agg := agg) h0 w h3], Fr.refl _ _, h1, b, h2, rfl⟩
theorem ev_field_row {j q : Nat} (hx : s.ev x = .one (.rptr id sz j q)) [TFld P t f o n agg] (h0 : Nat.blt 0 n = true) (hd : dOk s d = true) : Ev P [] s ⟨d, .fieldAddr t x f, ty, pos, af, g⟩ (· = s.put d (.one (.rptr id sz j (q + o)))) :=
  ev_of_run hd fun U a w hv M => by
    have hr := M.ev x
    rw [hx] at hr
    obtain ⟨h1, b, n', c, h2, h3⟩ := hr
    exact ⟨.pointer (some ⟨b, j * sz + q + o, none⟩), w, by simp [execOp, run_field (P := P) (o := o) (n := n) (agg := agg) h0 w h3], Fr.refl _ _, h1, b, n', c, h2, by rw [Nat.add_assoc]⟩
theorem ev_field_in (hx : s.ev x = .one (.cptr cs)) [TFld P t f o n agg] (h0 : Nat.blt 0 n = true) (hd : dOk s d = true) : Ev P [] s ⟨d, .fieldAddr t x f, ty, pos, af, g⟩ (· = s.put d (.one (.cptr (cs.drop o)))) :=
  ev_of_run hd fun U a w hv M => by
    have hr := M.ev x
    rw [hx] at hr
    obtain ⟨b, off, vals, he, hb, hA, hc, hrep⟩ := RepC.cptr_inv hr
    exact ⟨.pointer (some ⟨b, off + o, none⟩), w, by simp [execOp, run_field (P := P) (o := o) (n := n) (agg := agg) h0 w he], Fr.refl _ _,
      RepC.cptr _ b _ (fun j => vals (o + j)) hb hA (fun j c hj => by rw [Nat.add_assoc]; exact hc _ c (by simpa using hj)) (fun j c hj => hrep _ c (by simpa using hj))⟩

theorem ev_index_in {el : Nat → List CV} {i : Int} {j : Nat} (hx : s.ev x = .one (.slc n el)) (hy : s.ev y = .one (.val (.int k i))) (hi : i = (j : Int)) (hj : j < n) [h : TSl P t e sz bytes] (hs : (el j).length = sz) (hd : dOk s d = true) :
    Ev P [] s ⟨d, .indexAddr t x y, ty, pos, af, g⟩ (· = s.put d (.one (.cptr (el j)))) :=
  ev_of_run hd fun U a w hv M => by
    have hr := M.ev x
    rw [hx] at hr
    have hE := (TSl.elem (P := P) (t := t) (e := e) (sz := sz) (bytes := bytes))
    rcases RepC.slc_inv hr with ⟨h0, _⟩ | ⟨size, b, off, cap, vals, hv', hb, hA, hc, hm, hsz, hcell, hrep⟩
    · omega
    · have hsize : size = sz := (hsz j hj).symm.trans hs
      subst hsize
      refine ⟨.pointer (some ⟨b, off + j * size, none⟩), w, ?_, Fr.refl _ _, RepC.cptr _ b _ (fun q => vals j q) hb hA (fun q c hq => by rw [Nat.add_assoc]; exact hcell j q c hj hq) (fun q c hq => hrep j q c hj hq)⟩
      have h1 : (0 : Int) ≤ i ∧ i < (n : Int) := by omega
      have h2 : i.toNat = j := by omega
      simp [execOp, Instr.indexAt, hv', M.val hy, asIntOf, run_underlying hE.slice, h1.1, h1.2, h2, TSl.run_size (P := P) (t := t) (e := e) (sz := size) (bytes := bytes), add_at]

theorem ev_index_row {el : Nat → List CV} {i : Int} {j : Nat} (hx : s.ev x = .one (.own id)) (hb : look s.heap id = some (.row e sz n el)) (hy : s.ev y = .one (.val (.int k i))) (hi : i = (j : Int)) (hj : j < n) [h : TSl P t e sz bytes] (hd : dOk s d = true) :
    Ev P [] s ⟨d, .indexAddr t x y, ty, pos, af, g⟩ (· = s.put d (.one (.rptr id sz j 0))) :=
  ev_of_run hd fun U a w hv M => by
    have hr := M.ev x
    rw [hx] at hr
    obtain ⟨h1, h2, _⟩ := hr
    have hE := (TSl.elem (P := P) (t := t) (e := e) (sz := sz) (bytes := bytes))
    obtain ⟨vs, h3, _⟩ := M.hm.blk id _ hb
    rcases h3.2 with ⟨_, h0⟩ | ⟨q, cap, cur, h4, _, h5, _⟩
    · omega
    · refine ⟨.pointer (some ⟨q, j * sz, none⟩), w, ?_, Fr.refl _ _, h1, q, n, cap, h4, by simp⟩
      have h6 : (0 : Int) ≤ i ∧ i < (n : Int) := by omega
      have h7 : i.toNat = j := by omega
      simp [execOp, Instr.indexAt, h2, h4, M.val hy, asIntOf, run_underlying hE.slice, h6.1, h6.2, h7, TSl.run_size (P := P) (t := t) (e := e) (sz := sz) (bytes := bytes), add_at]
/-- A place in an array, in a variable of one's own. -/
theorem ev_index_arr {i : Int} {j : Nat} (hx : s.ev x = .one (.ptr id off)) (hy : s.ev y = .one (.val (.int k i))) (hi : i = (j : Int)) [h : TArr P t len e sz agg] (hj : Nat.blt j len = true) (hd : dOk s d = true) :
    Ev P [] s ⟨d, .indexAddr t x y, ty, pos, af, g⟩ (· = s.put d (.one (.ptr id (off + j * sz)))) :=
  ev_of_run hd fun U a w hv M => by
    have hr := M.ev x
    rw [hx] at hr
    obtain ⟨h1, b, h2, h3⟩ := hr
    obtain ⟨h4, h5⟩ := TArr.parts (P := P) (t := t) (len := len) (e := e) (sz := sz) (agg := agg)
    have hj' := Nat.le_of_ble_eq_true hj
    have h6 : (0 : Int) ≤ i ∧ i < (len : Int) := by omega
    have h7 : i.toNat = j := by omega
    exact ⟨.pointer (some ⟨b, off + j * sz, none⟩), w, by simp [execOp, Instr.indexAt, h3, Instr.sureAddr, M.val hy, asIntOf, run_underlying h4, h6.1, h6.2, h7, run_size (P := P) (t := e) (agg := agg) (n := sz), add_at], Fr.refl _ _, h1, b, h2, rfl⟩

/-! ### reading through an address -/
theorem ev_load_in (hx : s.ev x = .one (.cptr cs)) [kk : TVar P t false n] {c : CV} (hc : cs[0]? = some c) (hd : dOk s d = true) : Ev P [] s ⟨d, .load t x, ty, pos, af, g⟩ (· = s.put d (.one c)) :=
  ev_of_run hd fun U a w hv m => by
    have hr := m.ev x
    rw [hx] at hr
    obtain ⟨b, off, vals, e, hb, hA, hcell, hrep⟩ := RepC.cptr_inv hr
    have h0 := hcell 0 c hc
    simp only [Nat.add_zero] at h0
    refine ⟨vals 0, w, ?_, Fr.refl _ _, rep_of_c (hrep 0 c hc)⟩
    simp [execOp, e, Instr.loadAt, Instr.sureAddr, loadVar, run_isAgg (P := P) (t := t) (agg := false) (n := n), h0]
theorem ev_loads_in (hx : s.ev x = .one (.cptr cs)) [kk : TVar P t true n] {ds : List CV} (hc : cs.take n = ds) (hl : Nat.ble n cs.length = true) (hd : dOk s d = true) : Ev P [] s ⟨d, .load t x, ty, pos, af, g⟩ (· = s.put d (.agg ds)) :=
  ev_of_run hd fun U a w hv m => by
    have hr := m.ev x
    rw [hx] at hr
    obtain ⟨b, off, vals, e, hb, hA, hcell, hrep⟩ := RepC.cptr_inv hr
    have hl' := Nat.le_of_ble_eq_true hl
    obtain ⟨hca, hall⟩ := cells_of hcell hrep
    rw [← e] at hca
    have h3 := hall.take n
    obtain ⟨u, h4, h5, _⟩ := run_load_cells (P := P) (t := t) (agg := true) (n := n) (hca.take n) (by simp; omega) (fun e => by cases e)
    refine ⟨u, w, ?_, Fr.refl _ _, ?_⟩
    · simp only [execOp, Sem.run_bind, h4, Result.andThen_ok, Sem.run_pure]
    · rw [h5 rfl, ← hc]
      exact ⟨_, rfl, h3.imp fun c v hr => rep_of_c hr⟩
end
end Abs
end Go.Proofs.Ytbnjdkpangmneaa
