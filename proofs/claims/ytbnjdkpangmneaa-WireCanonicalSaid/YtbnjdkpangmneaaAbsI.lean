/-
  A reading of Go's memory by values, ninth part: append, slices of slices, strings and bytes. No program of Go's is named here.
-/
import Derived.Test.YtbnjdkpangmneaaAbsH
import Derived.Laws.BytesArg
import Derived.Lib.AppendStr
namespace Go.Proofs.Ytbnjdkpangmneaa
open Go.ChangeShapes Go.WideShapes Go.RowKit
set_option linter.unusedVariables false
set_option linter.unusedSimpArgs false
namespace Abs

/-! ### lists, as what a slice holds -/
def lsEl {α : Type} [Inhabited α] (f : α → List CV) (l : List α) : Nat → List CV := fun i => f (l.getD i default)
theorem lsEl_append {α : Type} [Inhabited α] (f : α → List CV) (l k : List α) (i : Nat) : lsEl f (l ++ k) i = if i < l.length then lsEl f l i else lsEl f k (i - l.length) := by
  unfold lsEl
  by_cases h : i < l.length
  · rw [if_pos h]; simp [List.getElem?_append_left h]
  · rw [if_neg h]; simp [List.getElem?_append_right (Nat.le_of_not_lt h)]
abbrev CV.ls {α : Type} [Inhabited α] (f : α → List CV) (l : List α) : CV := .slc l.length (lsEl f l)
def byC (b : UInt8) : List CV := [.val (.int .u8 (b.toNat : Int))]
abbrev CV.by (l : List UInt8) : CV := CV.ls byC l

theorem M.src {U : Nat → Prop} {w : World} {s : ASt} {a : Act} {hv : Nat → Value} (m : M U s a w hv) {x : Operand} {n sz : Nat} {el : Nat → List CV}
    (h : s.ev x = .one (.slc n el) ∨ ∃ id e, s.ev x = .one (.own id) ∧ look s.heap id = some (.row e sz n el)) (hs : ∀ i, i < n → (el i).length = sz) (h0 : 0 < sz) : Src (fun b => U b ∨ mine s.heap hv b) w (a.eval x) n sz el := by
  have hr := m.ev x
  rcases h with h | ⟨id, e, h, hb⟩
  · rw [h] at hr; exact src_slc hr hs h0
  · rw [h] at hr; rw [hr.2.1]; exact src_own m hb

section
variable {P : Program} {s : ASt} {d : Option Nat} {ty t u xT yT : TypeId} {pos : String} {af : Array Edge} {g : Option (Nat × Bool)} {x y c : Operand} {id off n m f o sz len bytes e : Nat} {agg : Bool} {cs : List CV} {k : IntKind} {el el' el2 : Nat → List CV}

theorem run_app_op {a : Act} {w w' : World} {v v' : Value} (hrun : (Builtin.append_ #[t, u] ty #[a.eval x, a.eval y]).run P w = .ok v' w') :
    (execOp a.eval ⟨d, .call { callee := .builtin .append, args := #[x, y], argTypes := #[t, u] }, ty, pos, af, g⟩).run P w = .ok (.value v') w' := by
  simp only [execOp, resolve, invoke, builtin, Sem.run_bind, Sem.run_pure, Result.andThen_ok, List.map_toArray, List.map_cons, List.map_nil, hrun]

/-- Onto a row of one's own. -/
theorem ev_append (hx : s.ev x = .one (.own id)) (hb : look s.heap id = some (.row e sz n el)) (hy : s.ev y = .one (.slc m el2) ∨ ∃ i2 e2, s.ev y = .one (.own i2) ∧ look s.heap i2 = some (.row e2 sz m el2)) (hs : ∀ i, i < m → (el2 i).length = sz)
    [TSl P t e sz bytes] {n' : Nat} (hn : n + m = n') (hel : ∀ i, i < n' → el' i = if i < n then el i else el2 (i - n)) (hfit : n' * bytes ≤ 140737488355328) (hmax : n' ≤ maxLen) (hd : dOk s d = true) :
    Ev P [id] s ⟨d, .call { callee := .builtin .append, args := #[x, y], argTypes := #[t, t] }, ty, pos, af, g⟩ (· = ASt.put { s.kill id with heap := (id, some (.row e sz n' el')) :: (s.kill id).heap } d (.one (.own id))) :=
  fun U T w0 a w hv ok K Q hK => by
    subst hn
    have E := TSl.elem (P := P) (t := t) (e := e) (sz := sz) (bytes := bytes)
    obtain ⟨vs, h1, h2, h3⟩ := ok.m.hm.blk id _ hb
    obtain ⟨Ad, cap, news, hv2, _, _, hfl, hlen, hone, hrep⟩ := ok.m.src hy hs E.pos
    have hx' := ok.m.ev x
    rw [hx] at hx'
    obtain ⟨_, hxv, _⟩ := hx'
    obtain ⟨v', w', hrun, ho, hg, hv'⟩ := Kit.run_app E w ty 0 (hv id) n vs h1 Ad m cap w.heap.size news hfl hlen hone hmax hfit (Nat.zero_le _)
    rw [← hv2, ← hxv] at hrun
    unfold Oper.wp
    rw [run_app_op (v := undef) hrun]
    have hT : ∀ b, some b = (hv id).ownBlock → (U b ∨ mine s.heap hv b) := fun b hb2 => .inr ⟨id, _, hb, by
      obtain ⟨A, c, h4, _⟩ := Kit.own_slice h1
      rw [h4] at hb2 ⊢
      cases A with
      | none => cases hb2
      | some a => exact hb2.symm⟩
    refine hK _ _ _ _ rfl (ok.regrow hb hg hv' ho (fun i hi => ?_) (fun A' i j c hA' hi hj => ?_) hd) fun j hj hal => upd_other fun e => hj (by simp [e])
    · rw [hel i hi]
      split
      · rename_i hlt; exact h2 i hlt
      · exact hs _ (by omega)
    · rw [hel i hi] at hj
      have hf : Fr (fun b => some b = (hv id).ownBlock) w w' := Fr.grown hg fun k hk => hk.symm
      split at hj
      · rename_i hlt
        obtain ⟨u, hu1, hu2⟩ := h3 i j c hlt hj
        exact ⟨u, by rw [List.getElem?_append_left (List.getElem?_eq_some_iff.1 hu1).1]; exact hu1, hu2.keep hf hT hA'⟩
      · rename_i hlt
        obtain ⟨u, hu1, hu2⟩ := hrep (i - n) j c (by omega) hj
        refine ⟨u, ?_, hu2.keep hf hT hA'⟩
        have : i * sz + j = vs.length + ((i - n) * sz + j) := by
          have h5 : i = n + (i - n) := by omega
          rw [h1.1]
          conv => lhs; rw [h5]
          rw [Nat.add_mul]; omega
        rw [this, List.getElem?_append_right (by omega)]
        rw [← hu1]; congr 1; omega

/-- Onto nil: a new row. -/
theorem ev_append_nil (id : Nat) (hid : look s.heap id = none) (hx : s.ev x = .one (.val (.slice none 0 0))) (hy : s.ev y = .one (.slc n el) ∨ ∃ i2 e2, s.ev y = .one (.own i2) ∧ look s.heap i2 = some (.row e2 sz n el)) (hs : ∀ i, i < n → (el i).length = sz)
    [TSl P t e sz bytes] (hfit : n * bytes ≤ 140737488355328) (hmax : n ≤ maxLen) (hd : dOk s d = true) :
    Ev P [] s ⟨d, .call { callee := .builtin .append, args := #[x, y], argTypes := #[t, t] }, ty, pos, af, g⟩ (· = ASt.put { s with heap := (id, some (.row e sz n el)) :: s.heap } d (.one (.own id))) :=
  fun U T w0 a w hv ok K Q hK => by
    have E := TSl.elem (P := P) (t := t) (e := e) (sz := sz) (bytes := bytes)
    obtain ⟨Ad, cap, news, hv2, _, _, hfl, hlen, hone, hrep⟩ := ok.m.src hy hs E.pos
    obtain ⟨v', w', hrun, ho, hg, hv'⟩ := Kit.run_app E w ty w.heap.size (.slice none 0 0) 0 [] ⟨by simp, .inl ⟨rfl, rfl⟩⟩ Ad n cap w.heap.size news hfl hlen hone (by omega) (by simpa using hfit) (Nat.le_refl _)
    simp only [Nat.zero_add, List.nil_append] at ho
    rw [← hv2, ← ok.m.val hx] at hrun
    unfold Oper.wp
    rw [run_app_op (v := undef) hrun]
    have hf : Fr (fun _ => False) w w' := Fr.grown hg fun k hk => by simp [Value.ownBlock] at hk
    have hsl : ∃ A c, v' = .slice A n c := by obtain ⟨A, c, h, _⟩ := Kit.own_slice ho; exact ⟨A, c, h⟩
    have hbo : blockOf v' = v'.ownBlock := by obtain ⟨A, c, rfl⟩ := hsl; cases A <;> rfl
    have hu : ∀ g, blockOf v' = some g → w.heap.size ≤ g := fun g hg2 => (ho.lt g (by rw [← hbo]; exact hg2)).1
    refine hK _ _ _ _ rfl (ok.new (blk := .row e sz n el) hid hf hu ⟨news, by rw [upd_same]; exact Kit.own_base ho (Nat.zero_le _), hs, fun i j c hi hj => ?_⟩ ⟨⟨e, sz, n, el, look_same _ _ _⟩, (upd_same _ _ _).symm, ?_⟩ hd) fun j _ ⟨b, hb⟩ => upd_other fun e => by subst e; rw [hid] at hb; cases hb
    · obtain ⟨u, h1, h2⟩ := hrep i j c hi hj
      exact ⟨u, h1, h2.keep hf (fun _ e => e.elim) fun b hlt hb => hb.imp (fun x => x) fun hb => mine_upd (fun g hg => .inl (hu g hg)) b hb hlt⟩
    · obtain ⟨A, c, h⟩ := hsl; exact ⟨A, n, c, h⟩

/-! ### slices of slices -/
/-- A bound, given or left out. -/
def Bnd (s : ASt) (o : Option Operand) (dflt v : Nat) : Prop :=
  match o with
  | none => v = dflt
  | some x => ∃ (k : IntKind) (i : Int), s.ev x = .one (.val (.int k i)) ∧ i = (v : Int)
def BndV (o : Option Value) (dflt v : Nat) : Prop :=
  match o with
  | none => v = dflt
  | some x => ∃ (k : IntKind), x = .int k (v : Int)
theorem Bnd.v {U : Nat → Prop} {a : Act} {w : World} {hv : Nat → Value} (m : M U s a w hv) {o : Option Operand} {dflt v : Nat} (h : Bnd s o dflt v) : BndV (o.map a.eval) dflt v := by
  cases o with
  | none => exact h
  | some x => obtain ⟨k, i, h1, rfl⟩ := h; exact ⟨k, m.val h1⟩
theorem run_bounds {isS : Bool} {w : World} {lo hi : Option Value} {len cap l h : Nat} (hl : BndV lo 0 l) (hh : BndV hi len h) (h1 : l ≤ h) (h2 : h ≤ cap) : (Instr.sliceBounds isS len cap lo hi none).run P w = .ok (l, h, cap) w := by
  unfold Instr.sliceBounds
  cases lo with
  | none =>
    cases hi with
    | none => simp only [BndV] at hl hh; subst hl hh; simp
    | some y => obtain ⟨k, rfl⟩ := hh; simp only [BndV] at hl; subst hl; simp [Instr.sliceBound, asIntOf, h2]
  | some x =>
    obtain ⟨k, rfl⟩ := hl
    cases hi with
    | none => simp only [BndV] at hh; subst hh; simp [Instr.sliceBound, asIntOf, h1]
    | some y => obtain ⟨k', rfl⟩ := hh; simp [Instr.sliceBound, asIntOf, h1, h2]
theorem run_cut {w : World} {lo hi : Option Value} {l h cap : Nat} {A : Option Addr} [TSl P t e sz bytes] (hl : BndV lo 0 l) (hh : BndV hi n h) (h1 : l ≤ h) (h2 : h ≤ cap) :
    (Instr.sliceAt t (.slice A n cap) lo hi none).run P w = .ok (.slice (if cap = l then A else A.map (·.add (l * sz))) (h - l) (cap - l)) w := by
  have E := TSl.elem (P := P) (t := t) (e := e) (sz := sz) (bytes := bytes)
  have hb := run_bounds (P := P) (isS := true) (w := w) hl hh h1 h2
  simp only [Instr.sliceAt, Sem.run_bind, run_underlying E.slice, Result.andThen_ok, Instr.slice, hb, TSl.run_size (P := P) (t := t) (e := e) (sz := sz) (bytes := bytes), Sem.run_pure]
theorem ev_slice {lo hi : Option Operand} {l h : Nat} {n' : Nat} (hx : s.ev x = .one (.slc n el)) (hl : Bnd s lo 0 l) (hh : Bnd s hi n h) (h1 : l ≤ h) (h2 : h ≤ n) [TSl P t e sz bytes] (hs : ∀ i, i < n → (el i).length = sz) (hn : h - l = n') (hel : ∀ i, i < n' → el' i = el (l + i)) (hd : dOk s d = true) :
    Ev P [] s ⟨d, .slice t x lo hi none, ty, pos, af, g⟩ (· = s.put d (.one (.slc n' el'))) :=
  ev_of_run hd fun U a w hv m => by
    subst hn
    have hr := m.ev x
    rw [hx] at hr
    rcases RepC.slc_inv hr with ⟨h0, Ad, c0, hv', hc0, hn0⟩ | ⟨size, b, off, cap, vals, hv', hb, hA, hc, hm, hsz, hcell, hrep⟩
    · have hl0 : l = 0 := by omega
      have hh0 : h = 0 := by omega
      refine ⟨.slice (if c0 = 0 then Ad else Ad.map (·.add (0 * sz))) 0 c0, w, ?_, Fr.refl _ _, ?_⟩
      · have := run_cut (P := P) (t := t) (e := e) (sz := sz) (bytes := bytes) (w := w) (A := Ad) (cap := c0) (n := n) (hl.v m) (hh.v m) h1 (by omega)
        simp only [execOp, hv', Sem.run_bind, Sem.run_pure, Option.map_none]
        rw [h0] at this
        rw [this]
        simp [hl0, hh0]
      · rw [show h - l = 0 by omega]
        refine RepC.empty hc0 fun e => ?_
        split at e
        · assumption
        · cases Ad with
          | none => exact hn0 rfl
          | some a => cases e
    · have hrun := run_cut (P := P) (t := t) (e := e) (sz := sz) (bytes := bytes) (w := w) (A := some ⟨b, off, none⟩) (cap := cap) (n := n) (hl.v m) (hh.v m) h1 (by omega)
      refine ⟨.slice (if cap = l then some ⟨b, off, none⟩ else (some ⟨b, off, none⟩ : Option Addr).map (·.add (l * sz))) (h - l) (cap - l), w, ?_, Fr.refl _ _, ?_⟩
      · simp only [execOp, hv', Sem.run_bind, Sem.run_pure, Option.map_none]
        rw [hrun]
        rfl
      · by_cases hcl : cap = l
        · rw [if_pos hcl]
          refine RepC.slc _ _ sz b off _ vals hb hA (by omega) (by omega) (fun i hi => by omega) (fun i j c hi => by omega) (fun i j c hi => by omega)
        · rw [if_neg hcl]
          simp only [Option.map_some, add_at]
          have hsize : ∀ i, i < n → size = sz := fun i hi => (hsz i hi).symm.trans (hs i hi)
          refine RepC.slc _ _ sz b (off + l * sz) _ (fun i j => vals (l + i) j) hb hA (by omega) (by omega) (fun i hi => by rw [hel i hi]; exact hs _ (by omega)) (fun i j c hi hj => ?_) (fun i j c hi hj => ?_)
          · rw [hel i hi] at hj
            have h5 := hcell (l + i) j c (by omega) hj
            rw [hsize (l + i) (by omega)] at h5
            rw [← h5]
            congr 2
            rw [Nat.add_mul]; omega
          · rw [hel i hi] at hj
            exact hrep (l + i) j c (by omega) hj
/-- A string cut. -/
theorem ev_slice_str {b : ByteArray} {lo hi : Option Operand} {l h : Nat} (hx : s.ev x = .one (.val (.string b))) (hl : Bnd s lo 0 l) (hh : Bnd s hi b.size h) (h1 : l ≤ h) (h2 : h ≤ b.size) [ht : TStr P t] (hd : dOk s d = true) :
    Ev P [] s ⟨d, .slice t x lo hi none, ty, pos, af, g⟩ (· = s.put d (.one (.val (.string (b.extract l h))))) :=
  ev_of_val hd rfl fun U a w hv m => by
    have hb := run_bounds (P := P) (isS := false) (w := w) (hl.v m) (hh.v m) h1 h2
    simp only [execOp, m.val hx, Sem.run_bind, Sem.run_pure, Option.map_none, Instr.sliceAt, run_underlying ht.h, Result.andThen_ok, Instr.slice, hb, Option.isSome_none, Bool.false_eq_true, if_false]
/-- A row of one's own, cut short: it is the same row, with fewer elements. -/
theorem ev_shrink {hi : Option Operand} {h : Nat} (hx : s.ev x = .one (.own id)) (hb : look s.heap id = some (.row e sz n el)) (hh : Bnd s hi n h) (h2 : h ≤ n) [TSl P t e sz bytes] (hd : dOk s d = true) :
    Ev P [id] s ⟨d, .slice t x none hi none, ty, pos, af, g⟩ (· = ASt.put { s.kill id with heap := (id, some (.row e sz h el)) :: (s.kill id).heap } d (.one (.own id))) :=
  fun U T w0 a w hv ok K Q hK => by
    obtain ⟨vs, h1, h3, h4⟩ := ok.m.hm.blk id _ hb
    obtain ⟨A, c, hxv, hid, hnc, hcm⟩ := own_len ok.m hx hb
    have hrun := run_cut (P := P) (t := t) (e := e) (sz := sz) (bytes := bytes) (w := w) (A := A) (cap := c) (n := n) (lo := none) (l := 0) rfl (hh.v ok.m) (Nat.zero_le _) (by omega)
    have hA : (if c = 0 then A else A.map (·.add (0 * sz))) = A := by
      split
      · rfl
      · cases A with
        | none => rfl
        | some a => simp [Addr.add]
    simp only [hA, Nat.sub_zero] at hrun
    have hop : (execOp a.eval ⟨d, .slice t x none hi none, ty, pos, af, g⟩).run P w = .ok (.value (.slice A h c)) w := by
      simp only [execOp, hxv, Sem.run_bind, Sem.run_pure, Option.map_none]
      rw [hrun]
      rfl
    unfold Oper.wp
    rw [hop]
    have hlen : vs.length = n * sz := h1.1
    have hmul : h * sz ≤ n * sz := Nat.mul_le_mul_right _ h2
    have hbk : Value.ownBlock (.slice A h c) = (hv id).ownBlock := by rw [hid]; cases A <;> rfl
    refine hK _ _ _ _ rfl (ok.regrow (w' := w) (v' := .slice A h c) (vs' := vs.take (h * sz)) hb ⟨rfl, rfl, rfl, Nat.le_refl _, fun _ _ _ => rfl⟩ (.inl hbk) ?_ (fun i hi => h3 i (by omega)) (fun A' i j c' hA' hi hj => ?_) hd) fun j hj _ => upd_other fun e => hj (by simp [e])
    · refine ⟨by rw [List.length_take]; omega, ?_⟩
      rcases h1.2 with ⟨h5, h6⟩ | ⟨q, cap, cur, h5, h6, h7, h8, h9, h10, h11⟩
      · rw [hid] at h5
        injection h5 with e1 e2 e3
        subst e1 e3
        exact .inl ⟨by congr 1; omega, by omega⟩
      · rw [hid] at h5
        injection h5 with e1 e2 e3
        subst e1 e3
        refine .inr ⟨q, c, cur, rfl, h6, h7, by omega, h9, h10, ?_⟩
        rw [← h11, List.take_take, Nat.min_eq_left hmul]
    · obtain ⟨u, h5, h6⟩ := h4 i j c' (by omega) hj
      refine ⟨u, ?_, h6.keep (Fr.refl (fun _ => False) w) (fun _ e => e.elim) hA'⟩
      rw [List.getElem?_take, if_pos, h5]
      have hj' : j < sz := by rw [← h3 i (by omega)]; exact (List.getElem?_eq_some_iff.1 hj).1
      have := Nat.mul_le_mul_right sz (Nat.succ_le_of_lt hi)
      rw [Nat.succ_mul] at this
      omega

/-! ### bytes and strings -/
theorem src_bytes {A : Nat → Prop} {w : World} {v : Value} {l : List UInt8} (h : Src A w v l.length 1 (lsEl byC l)) : ∃ Ad cap, v = .slice Ad l.length cap ∧ Kit.Flat w w.heap.size Ad (l.map fun b => Value.int .u8 (b.toNat : Int)) := by
  obtain ⟨Ad, cap, news, hv, _, _, hfl, hlen, _, hrep⟩ := h
  refine ⟨Ad, cap, hv, ?_⟩
  have : news = l.map fun b => Value.int .u8 (b.toNat : Int) := by
    apply List.ext_getElem?
    intro i
    by_cases hi : i < l.length
    · obtain ⟨u, h1, h2⟩ := hrep i 0 (.val (.int .u8 ((l.getD i default).toNat : Int))) hi rfl
      cases h2
      simp only [Nat.mul_one, Nat.add_zero] at h1
      rw [h1]
      simp [hi, List.getD]
    · rw [List.getElem?_eq_none (by omega), List.getElem?_eq_none (by simp; omega)]
  rw [← this]
  exact hfl
theorem ev_str_bytes {l : List UInt8} (hx : s.ev x = .one (.slc l.length (lsEl byC l)) ∨ ∃ id e, s.ev x = .one (.own id) ∧ look s.heap id = some (.row e 1 l.length (lsEl byC l))) (hsr : P.underlying xT = some (.slice e)) (he : P.underlying e = some (.int .u8)) (hds : P.underlying yT = some .string) (hd : dOk s d = true) :
    Ev P [] s ⟨d, .convert xT yT x, ty, pos, af, g⟩ (· = s.put d (.one (.val (.string ⟨l.toArray⟩)))) :=
  ev_of_val hd rfl fun U a w hv m => by
    obtain ⟨Ad, cap, h1, h2⟩ := src_bytes (m.src hx (fun i _ => rfl) (by decide))
    have hrun : (convert xT yT (a.eval x)).run P w = .ok (.string ⟨l.toArray⟩) w := by
      rw [h1]
      cases Ad with
      | none =>
        have hl : l = [] := by
          cases l with
          | nil => rfl
          | cons b r => obtain ⟨_, _, e, _⟩ := h2 (by simp); cases e
        subst hl
        exact run_convert_bytes_nil (P := P) w xT e hsr he _ _ yT hds
      | some ad =>
        have hcells : (loadCells ad l.length).run P w = .ok ((l.map fun b => (b.toNat : Int)).map (Value.int .u8)).toArray w := by
          have h3 := run_loadCells_list (P := P) w ad (l.map fun b => Value.int .u8 (b.toNat : Int)) (fun j v hj => by
            obtain ⟨b, off, e, _, hc⟩ := h2 (by intro e; rw [e] at hj; simp at hj)
            injection e with e
            subst e
            rw [add_at]
            exact hc j v hj)
          rw [List.length_map] at h3
          rw [h3, List.map_map]
          rfl
        rw [run_convert_bytes_string w xT yT e _ l.length cap hsr he hds, run_bytesToString w ad l.length cap _ hcells, foldl_push_bytes]
        have hmm : (l.map fun b => (b.toNat : Int)).map (fun n => UInt8.ofNat n.toNat) = l := by
          rw [List.map_map]
          conv => rhs; rw [← List.map_id l]
          exact List.map_congr_left fun b _ => by simp
        rw [hmm]
        simp [ByteArray.empty, ByteArray.emptyWithCapacity]
        rfl
    simp only [execOp, Sem.run_bind, hrun, Result.andThen_ok, Sem.run_pure]
end
end Abs
end Go.Proofs.Ytbnjdkpangmneaa
