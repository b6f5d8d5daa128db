/-
  A reading of Go's memory by values: slices made empty, rows that are only read from the start. No program of Go's is named here.
-/
import Derived.Test.YtkcfkcgclljncaaAbsW
namespace Go.Proofs.Ytkcfkcgclljncaa
open Go.ChangeShapes Go.WideShapes Go.RowKit
set_option linter.unusedVariables false
set_option linter.unusedSimpArgs false
namespace Abs
section
variable {P : Program} {s : ASt} {d : Option Nat} {ty t xT yT : TypeId} {pos : String} {af : Array Edge} {g : Option (Nat × Bool)} {x y c : Operand} {e sz bytes n : Nat} {el : Nat → List CV}
/-- A row made by nobody else, only read from then on. -/
theorem slc_of_own {A : Nat → Prop} {w : World} {base : Nat} {v : Value} {vs : List Value} (h1 : w.ownsRow base e sz v n vs) (hA : ∀ b, base ≤ b → ¬ A b) (h2 : ∀ i, i < n → (el i).length = sz)
    (h3 : ∀ (i j : Nat) (c : CV), i < n → (el i)[j]? = some c → ∃ u, vs[i * sz + j]? = some u ∧ RepC A w c u) : RepC A w (.slc n el) v := by
  have hget : ∀ (i j : Nat) (c : CV), i < n → (el i)[j]? = some c → vs[i * sz + j]? = some (vs.getD (i * sz + j) undef) := fun i j c hi hj => by
    obtain ⟨u, h4, _⟩ := h3 i j c hi hj
    rw [List.getD, h4]
    rfl
  rcases h1.2 with ⟨h4, h5⟩ | ⟨g, cap, cur, h4, h5, h6, h7, h8, h9, h10⟩
  · rw [h4, h5]; exact RepC.nil _
  · rw [h4]
    refine RepC.slc n el sz g 0 cap (fun i j => vs.getD (i * sz + j) undef) (Array.getElem?_eq_some_iff.1 h6).1 (hA g h5) h7 h8 h2 (fun i j c hi hj => ?_) (fun i j c hi hj => ?_)
    · rw [Nat.zero_add]
      have h11 := h1.cells (g := g) (by rw [h4]; rfl) _ _ (hget i j c hi hj)
      rw [add_at, Nat.zero_add] at h11
      exact h11
    · obtain ⟨u, h11, h12⟩ := h3 i j c hi hj
      rw [hget i j c hi hj] at h11
      injection h11 with h11
      simp only [h11]
      exact h12
theorem st_slice_emp [kk : TSl P t e sz bytes] (hd : dOk s d = true) : Ev P [] s ⟨d, .buildSlice t 0 #[], ty, pos, af, g⟩ (· = s.put d (.one .emp0)) :=
  ev_of_run hd fun U a w hv m => by
    have E := TSl.elem (P := P) (t := t) (e := e) (sz := sz) (bytes := bytes)
    refine ⟨.slice (some ⟨w.heap.size, 0, none⟩) 0 0, w.alloc (.cells #[] e), ?_, Fr.alloc _ _ _, RepC.emp0 _⟩
    simp only [execOp, Instr.buildSlice, Sem.run_bind, run_underlying E.slice, Result.andThen_ok, TSl.run_size (P := P) (t := t) (e := e) (sz := sz) (bytes := bytes)]
    simp [Instr.fill, newRow, newObj, show Array.range 0 = #[] from rfl]
    rfl
theorem emp_inv {h : Heap} {hv : Nat → Value} {A : Nat → Prop} {w : World} {v : Value} (hr : RepV h hv A w (.one .emp0) v) : ∃ Ad, v = .slice Ad 0 0 := by
  cases (show RepC A w .emp0 v from hr)
  exact ⟨_, rfl⟩
theorem st_len_emp (hx : s.ev x = .one .emp0) [h : TSl P t e sz bytes] (hd : dOk s d = true) :
    Ev P [] s ⟨d, .call { callee := .builtin .len, args := #[x], argTypes := #[t] }, ty, pos, af, g⟩ (· = s.put d (.one (.val (.int .i64 0)))) :=
  ev_of_val hd rfl fun U a w hv m => by
    have hE := (TSl.elem (P := P) (t := t) (e := e) (sz := sz) (bytes := bytes))
    have hr := m.ev x
    rw [hx] at hr
    obtain ⟨Ad, he⟩ := emp_inv hr
    simp [execOp, resolve, invoke, builtin, Builtin.len_, he, run_underlying hE.slice, goInt]
variable {α : Type} [Inhabited α] {f : α → List CV}
/-- Onto a slice without room: what comes out is only read from then on. -/
theorem st_app_emp_z (l : List α) (hs : ∀ x, (f x).length = sz) (hx : s.ev x = .one .emp0) (hy : s.ev y = .one (.slc l.length (lsEl f l)) ∨ ∃ i2 e2, s.ev y = .one (.own i2) ∧ look s.heap i2 = some (.row e2 sz l.length (lsEl f l)))
    [TSl P t e sz bytes] (hfit : l.length * bytes ≤ 140737488355328) (hmax : l.length ≤ 140737488355328) (hd : dOk s d = true) :
    Ev P [] s ⟨d, .call { callee := .builtin .append, args := #[x, y], argTypes := #[t, t] }, ty, pos, af, g⟩ (· = s.put d (.one (CV.ls f l))) :=
  ev_of_run hd fun U a w hv m => by
    have E := TSl.elem (P := P) (t := t) (e := e) (sz := sz) (bytes := bytes)
    have hmax' := maxLen_ge hmax
    obtain ⟨Ad, cap, news, hv2, _, hcm, hfl, hlen, hone, hrep⟩ := m.src hy (fun i _ => hs _) E.pos
    have hr := m.ev x
    rw [hx] at hr
    obtain ⟨A0, he⟩ := emp_inv hr
    have hAlt : ∀ b, w.heap.size ≤ b → ¬ (U b ∨ mine s.heap hv b) := fun b hb h => by
      rcases h with h | h
      · have := m.hm.ult b h; omega
      · have := m.hm.lt h; omega
    have fin : ∀ v' w', (Builtin.append_ #[t, t] ty #[a.eval x, a.eval y]).run P w = .ok v' w' → w'.ownsRow w.heap.size e sz v' l.length news → w.grownBy w' none →
        ∃ v w', (execOp a.eval ⟨d, .call { callee := .builtin .append, args := #[x, y], argTypes := #[t, t] }, ty, pos, af, g⟩).run P w = .ok (.value v) w' ∧ Fr (fun _ => False) w w' ∧ RepV s.heap hv (fun b => U b ∨ mine s.heap hv b) w' (.one (CV.ls f l)) v := fun v' w' h1 h2 h3 => by
      have hf : Fr (fun _ => False) w w' := Fr.grown h3 fun k hk => by cases hk
      refine ⟨v', w', run_app_op (v := undef) h1, hf, slc_of_own h2 hAlt (fun i _ => hs _) fun i j c hi hj => ?_⟩
      obtain ⟨u, h4, h5⟩ := hrep i j c hi hj
      exact ⟨u, h4, h5.keep hf (fun _ e => e.elim) fun _ _ h => h⟩
    cases A0 with
    | none =>
      obtain ⟨v', w', hrun, ho, hg, _⟩ := Kit.run_app E w ty w.heap.size (.slice none 0 0) 0 [] ⟨by simp, .inl ⟨rfl, rfl⟩⟩ Ad l.length cap w.heap.size news hfl hlen hone (by omega) (by simpa using hfit) (Nat.le_refl _)
      simp only [Nat.zero_add, List.nil_append] at ho
      rw [← hv2, ← he] at hrun
      exact fin v' w' hrun ho hg
    | some a0 =>
      rcases Nat.eq_zero_or_pos l.length with h0 | h0
      · have hrun := Kit.run_app_zero (P := P) E w ty (some a0) 0 0 (Nat.le_refl _) Ad cap
        rw [h0] at hv2
        rw [← hv2, ← he] at hrun
        refine ⟨_, w, run_app_op (v := undef) hrun, Fr.refl _ _, ?_⟩
        rw [he]
        show RepC _ w (.slc l.length (lsEl f l)) _
        rw [h0]
        exact RepC.empty (by unfold maxLen; decide) (fun _ => rfl)
      · obtain ⟨v', w', hrun, ho, hg⟩ := Kit.run_app_full E w ty w.heap.size (some a0) 0 w.heap.size [] (Kit.Flat.nil _ _ _) (by simp) Ad l.length cap w.heap.size news hfl hlen h0 (by omega) (by simpa using hfit) (Nat.le_refl _) rfl
        simp only [Nat.zero_add, List.nil_append] at ho
        rw [← hv2, ← he] at hrun
        exact fin v' w' hrun ho hg
theorem st_slice_lit_z {parts : List (Nat × Operand)} {vs : List AV} {L : Nat} {out : List CV} [kk : TSl P t e sz bytes] {z : Value} [kz : TZero P e z] {zs : List Value} (hx : parts.map (fun p => s.ev p.2) = vs) (hz : z.cells = zs.toArray) (hone : zs.all (·.oneCell') = true)
    (ho : fillC (fun i => some (i * sz, sz)) ((List.range (L * sz)).map fun i => CV.val (zs.getD (i % zs.length) undef)) ((parts.map (·.1)).zip vs) = some out) (hrd : out.all CV.read = true) (hlen : out.length = L * sz) (hL : Nat.ble (L * sz) 16777216 = true) (hel : ∀ i, i < L → (out.drop (i * sz)).take sz = el i) (hd : dOk s d = true) :
    Ev P [] s ⟨d, .buildSlice t L parts.toArray, ty, pos, af, g⟩ (· = s.put d (.one (.slc L el))) :=
  ev_frz [] fun k hk _ => st_slice_lit k hk hx hz hone ho hrd hlen hL hel hd
/-- A slot that holds nil, as a row of one's own. -/
theorem aw_own_nil {code : Code} {Q : Exit → ASt → Prop} (tt id e sz : Nat) (el : Nat → List CV) (hid : look s.heap id = none) (ht : get s.env tt = .one (.val (.slice none 0 0)))
    (h : AW P code ⟨s.nt, s.kp, (tt, .one (.own id)) :: s.env, (id, some (.row e sz 0 el)) :: s.heap⟩ Q) : AW P code s Q := fun U T w0 a w hv ok => by
  have hval : a.tmps.getD tt undef = .slice none 0 0 := ok.m.val (x := .tmp tt) ht
  have ok1 := ok.new (w' := w) (blk := .row e sz 0 el) (u := .slice none 0 0) hid (Fr.refl (fun _ => False) w) (fun g hg => by cases hg) ⟨[], by rw [upd_same]; exact ⟨by simp, .inl ⟨rfl, rfl⟩⟩, fun i hi => by omega, fun i j c hi => by omega⟩ (d := none) (r := .one .any) (v := undef) trivial rfl
  refine h U T w0 a w _ ⟨⟨ok1.m.nt, ok1.m.defers, fun t' => ?_, ok1.m.hm⟩, ok1.fr, ok1.own, ok1.box⟩
  show RepV _ _ _ _ (get (_ :: _) t') _
  rw [get_cons]
  by_cases e : tt = t'
  · rw [if_pos e]
    subst e
    exact ⟨⟨_, sz, 0, el, look_same _ _ _⟩, by rw [hval, upd_same], none, 0, 0, hval⟩
  · rw [if_neg e]
    exact ok1.m.env t'
variable {Q : Exit → ASt → Prop}
/-- Behind a part of the code a state that says less. -/
theorem aw_seq_mid {p q : Code} (mid : ASt) (h1 : AW P p s (fun e s' => match e with | .normal => Weak s' mid | e => Q e s')) (h2 : AW P q mid Q) : AW P (.seq p q) s Q :=
  aw_seq (aw_mono h1 fun e s' h => by
    cases e with
    | normal => exact aw_weak h h2
    | _ => exact h)
abbrev XQ {ε : Type} (id : Nat) (out : ε → ASt) (I : ε → Prop) (Q : Exit → ASt → Prop) : Exit → ASt → Prop := fun e s => match e with
  | .exit j => bif Nat.beq j id then ∃ x, I x ∧ Weak s (out x) else Q (.exit j) s
  | e => Q e s
theorem again_exit {ι ε : Type} {inv : ι → ASt} {μ : ι → Nat} {i : ι} {id : Nat} {out : ε → ASt} {I : ε → Prop} (x : ε) (h : I x) (hw : Weak s (out x)) : Again inv μ i (XQ id out I Q) (.exit id) s := by
  show (bif Nat.beq id id then ∃ x, I x ∧ Weak s (out x) else Q (.exit id) s)
  rw [Nat.beq_refl]
  exact ⟨x, h, hw⟩
/-- A loop with a way out that is gone on from once. -/
theorem aw_loop_x {ι ε : Type} {code : Code} (inv : ι → ASt) (μ : ι → Nat) (i0 : ι) (h0 : Weak s (inv i0)) (id : Nat) (out : ε → ASt) (I : ε → Prop) (hQ : ∀ s s', Weak s s' → Q (.exit id) s' → Q (.exit id) s)
    (cont : ∀ x, I x → Q (.exit id) (out x)) (round : ∀ i, AW P code (inv i) (Again inv μ i (XQ id out I Q))) : AW P (.loop code) s Q :=
  aw_loop inv μ i0 h0 fun i => aw_mono (round i) fun e s' h => by
    cases e with
    | exit j =>
      have h' : (bif Nat.beq j id then ∃ x, I x ∧ Weak s' (out x) else Q (.exit j) s') := h
      show Q (.exit j) s'
      cases hb : Nat.beq j id with
      | false => rw [hb] at h'; exact h'
      | true =>
        have hj := Nat.eq_of_beq_eq_true hb
        subst hj
        rw [hb] at h'
        obtain ⟨x, h1, h2⟩ := h'
        exact hQ _ _ h2 (cont x h1)
    | normal => exact h
    | _ => exact h
end
end Abs
end Go.Proofs.Ytkcfkcgclljncaa
