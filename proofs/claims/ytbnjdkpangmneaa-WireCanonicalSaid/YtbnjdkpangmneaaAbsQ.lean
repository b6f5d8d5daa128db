/-
  A reading of Go's memory by values, seventeenth part: slices that hold lists. No program of Go's is named here.
-/
import Derived.Test.YtbnjdkpangmneaaAbsP
namespace Go.Proofs.Ytbnjdkpangmneaa
open Go.ChangeShapes Go.WideShapes Go.RowKit
set_option linter.unusedVariables false
set_option linter.unusedSimpArgs false
namespace Abs
theorem maxLen_ge {n : Nat} (h : n ≤ 140737488355328) : n ≤ maxLen := by unfold maxLen; omega
theorem lsEl_len {α : Type} [Inhabited α] {f : α → List CV} {sz : Nat} (hs : ∀ x, (f x).length = sz) (l : List α) (i : Nat) : (lsEl f l i).length = sz := hs _
theorem flat_drop {α : Type} {f : α → List CV} {sz : Nat} (hs : ∀ x, (f x).length = sz) : ∀ (l : List α) (i : Nat), (l.flatMap f).drop (i * sz) = (l.drop i).flatMap f
  | l, 0 => by simp
  | [], i + 1 => by simp
  | x :: l, i + 1 => by
    rw [List.flatMap_cons, List.drop_append, List.drop_of_length_le (by rw [hs, Nat.add_mul]; omega), List.nil_append, hs, show (i + 1) * sz - sz = i * sz by rw [Nat.add_mul]; omega, flat_drop hs l i]
    rfl
theorem lit_el {α : Type} [Inhabited α] (f : α → List CV) (sz : Nat) (l : List α) (hs : ∀ x, (f x).length = sz) : ∀ i, i < l.length → ((l.flatMap f).drop (i * sz)).take sz = lsEl f l i := fun i hi => by
  rw [flat_drop hs, List.drop_eq_getElem_cons hi, List.flatMap_cons, List.take_append, List.take_of_length_le (by rw [hs]; omega), hs, Nat.sub_self, List.take_zero, List.append_nil]
  simp [lsEl, hi]
section
variable {P : Program} {s : ASt} {d : Option Nat} {ty t : TypeId} {pos : String} {af : Array Edge} {g : Option (Nat × Bool)} {x y : Operand} {id e sz bytes : Nat} {α : Type} [Inhabited α] {f : α → List CV}
theorem st_app_ls (l1 l2 : List α) (hs : ∀ x, (f x).length = sz) (hx : s.ev x = .one (.own id)) (hb : look s.heap id = some (.row e sz l1.length (lsEl f l1))) (hy : s.ev y = .one (.slc l2.length (lsEl f l2)) ∨ ∃ i2 e2, s.ev y = .one (.own i2) ∧ look s.heap i2 = some (.row e2 sz l2.length (lsEl f l2)))
    [TSl P t e sz bytes] (hfit : (l1.length + l2.length) * bytes ≤ 140737488355328) (hmax : l1.length + l2.length ≤ 140737488355328) (hd : dOk s d = true) :
    Ev P [id] s ⟨d, .call { callee := .builtin .append, args := #[x, y], argTypes := #[t, t] }, ty, pos, af, g⟩ (· = ((s.kill id).blk id (.row e sz (l1 ++ l2).length (lsEl f (l1 ++ l2)))).put d (.one (.own id))) :=
  st_append hx hb hy (fun i _ => hs _) List.length_append.symm (fun i _ => lsEl_append f l1 l2 i) (by rw [List.length_append]; exact hfit) (by rw [List.length_append]; exact maxLen_ge hmax) hd
theorem st_app_nil_ls (id : Nat) (l : List α) (hs : ∀ x, (f x).length = sz) (hid : look s.heap id = none) (hx : s.ev x = .one (.val (.slice none 0 0))) (hy : s.ev y = .one (.slc l.length (lsEl f l)) ∨ ∃ i2 e2, s.ev y = .one (.own i2) ∧ look s.heap i2 = some (.row e2 sz l.length (lsEl f l)))
    [TSl P t e sz bytes] (hfit : l.length * bytes ≤ 140737488355328) (hmax : l.length ≤ 140737488355328) (hd : dOk s d = true) :
    Ev P [] s ⟨d, .call { callee := .builtin .append, args := #[x, y], argTypes := #[t, t] }, ty, pos, af, g⟩ (· = (s.blk id (.row e sz l.length (lsEl f l))).put d (.one (.own id))) :=
  st_append_nil id hid hx hy (fun i _ => hs _) hfit (maxLen_ge hmax) hd
theorem st_cut {lo hi : Option Operand} {k : List α} (l : List α) (a b : Nat) (hs : ∀ x, (f x).length = sz) (hx : s.ev x = .one (.slc l.length (lsEl f l))) (hl : Bnd s lo 0 a) (hh : Bnd s hi l.length b) (h1 : a ≤ b) (h2 : b ≤ l.length) [TSl P t e sz bytes] (hk : (l.drop a).take (b - a) = k) (hd : dOk s d = true) :
    Ev P [] s ⟨d, .slice t x lo hi none, ty, pos, af, g⟩ (· = s.put d (.one (.slc k.length (lsEl f k)))) := by
  subst hk
  have hlen : ((l.drop a).take (b - a)).length = b - a := by simp; omega
  rw [hlen]
  refine ev_slice hx hl hh h1 h2 (fun i _ => hs _) rfl (fun i hi => ?_) hd
  have h3 : a + i < l.length := by omega
  simp [lsEl, List.getElem?_take, hi]
end

/-! ### a loop's head, row by row -/
def EnvLe (s : ASt) : List (Nat × AV) → Prop
  | [] => True
  | (t, v) :: r => VLe (get s.env t) v ∧ EnvLe s r
def HeapLe (s : ASt) : Heap → Prop
  | [] => True
  | (k, b) :: r => BLe (look s.heap k) b ∧ HeapLe s r
theorem EnvLe.all {s : ASt} : ∀ {env : List (Nat × AV)}, EnvLe s env → ∀ p, p ∈ env → VLe (get s.env p.1) p.2
  | [], _, p, hp => by cases hp
  | (t, v) :: r, h, p, hp => by
    rcases List.mem_cons.1 hp with rfl | hp
    · exact h.1
    · exact EnvLe.all h.2 p hp
theorem HeapLe.all {s : ASt} : ∀ {h : Heap}, HeapLe s h → ∀ p, p ∈ h → BLe (look s.heap p.1) p.2
  | [], _, p, hp => by cases hp
  | (t, v) :: r, h, p, hp => by
    rcases List.mem_cons.1 hp with rfl | hp
    · exact h.1
    · exact HeapLe.all h.2 p hp
theorem weak_mk {s : ASt} {nt : Nat} {kp : List Nat} {env : List (Nat × AV)} {heap : Heap} (h1 : nt = s.nt) (h2 : kp = s.kp) (h3 : EnvLe s env) (h4 : HeapLe s heap) (h5 : (kp ++ envIds env ++ heapIds heap).all (fun j => (look heap j).isSome) = true) : Weak s ⟨nt, kp, env, heap⟩ :=
  ⟨h1, h2, h3.all, h4.all, fun j hj => List.all_eq_true.1 h5 j hj⟩
theorem flat_succ {α : Type} (L : List (List α)) {i : Nat} (hi : i < L.length) : (L.take (i + 1)).flatten = (L.take i).flatten ++ L.getD i default := by
  rw [List.take_succ_eq_append_getElem hi, List.flatten_append]
  simp [List.getD, hi]
theorem flat_le {α : Type} (L : List (List α)) (i : Nat) : (L.take i).flatten.length ≤ L.flatten.length := by
  conv => rhs; rw [← List.take_append_drop i L, List.flatten_append, List.length_append]
  omega

/-- A contract of the elder form, as one over values: values in, one new row out. -/
theorem fnc_of_row {P : Program} {f : FuncId} {us : List Value} {e sz n : Nat} {el : Nat → List CV} {xs : List Value} (hl : ∀ i, i < n → (el i).length = sz) (hr : ∀ (A : Nat → Prop) (w : World) (i j : Nat) (c : CV), i < n → (el i)[j]? = some c → ∃ u, xs[i * sz + j]? = some u ∧ RepC A w c u)
    (h : ∀ w : World, Calls P f us.toArray w fun e' w' => ∃ v, e' = .returned v ∧ w'.ownsRow w.heap.size e sz v n xs ∧ Below w.heap.size w w') : FnC P f (us.map fun u => .one (.val u)) [] (Det (.one (.own 0)) [(0, some (.row e sz n el))]) := by
  intro U T w vs hv hargs hm hT
  have hvs : vs = us.toArray := by
    have : ∀ {us : List Value} {vs : List Value}, All2 (RepV [] hv (fun b => U b ∨ mine [] hv b) w) (us.map fun u => .one (.val u)) vs → vs = us := by
      intro us
      induction us with
      | nil => intro vs h; cases h; rfl
      | cons u us ih => intro vs h; cases h with | cons a t => rw [rep_val a, ih t]
    have h2 := this hargs
    apply Array.ext'
    rw [h2]
  subst hvs
  refine (h w).mono ?_
  rintro e' w' ⟨v, rfl, ho, hb⟩
  have hlook : ∀ {id : Nat} {b : Blk}, look [(0, some (Blk.row e sz n el))] id = some b → id = 0 ∧ b = .row e sz n el := by
    intro id b hb
    rw [look_cons] at hb
    by_cases h0 : 0 = id
    · rw [if_pos h0] at hb; injection hb with hb; exact ⟨h0.symm, hb.symm⟩
    · rw [if_neg h0] at hb; cases hb
  obtain ⟨A, c, hv', hc1, hc2, _⟩ := Kit.own_slice ho
  have hge : ∀ b, mine [(0, some (Blk.row e sz n el))] (fun _ => v) b → w.heap.size ≤ b := by
    rintro b ⟨id, x, _, h2⟩
    refine (ho.lt b ?_).1
    rw [hv'] at h2 ⊢
    cases A with
    | none => cases h2
    | some a => exact h2
  refine ⟨.one (.own 0), _, fun _ => v, v, rfl, ⟨rfl, rfl⟩, ⟨⟨e, sz, n, el, rfl⟩, rfl, A, n, c, hv'⟩, ⟨fun id b hb2 => ?_, fun id id' x y b h1 h2 _ _ => (hlook h1).1.trans (hlook h2).1.symm, fun b hb2 hU => ?_, fun b hU => Nat.lt_of_lt_of_le (hm.ult b hU) hb.size⟩, (Fr.of_below hb).mono fun _ _ e => e.elim, fun b hb2 hlt => ?_, fun id cs hid => by cases hid⟩
  · obtain ⟨rfl, rfl⟩ := hlook hb2
    exact ⟨xs, Kit.own_base ho (Nat.zero_le _), hl, fun i j c hi hj => hr _ _ i j c hi hj⟩
  · have := hge b hb2; have := hm.ult b hU; omega
  · have := hge b hb2; omega
end Abs
end Go.Proofs.Ytbnjdkpangmneaa
