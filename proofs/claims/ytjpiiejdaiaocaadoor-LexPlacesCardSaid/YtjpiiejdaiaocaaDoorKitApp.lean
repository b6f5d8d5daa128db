/-
  append, once for every source: a slice that reads flat (nil, empty or not), onto a row that the call owns. No program of Go's is named here.
-/
import Derived.Test.YtjpiiejdaiaocaaDoorKit
import Derived.Deep.RegionHeld3
import Derived.Deep.DrawnRows
namespace Go.Proofs.YtjpiiejdaiaocaaDoor
open Go.ChangeShapes Go.WideShapes Go.RowKit
namespace Kit

/-- What the laws ask of a slice type t over the element type e. -/
structure Elem (P : Program) (t e : TypeId) (size bytes : Nat) : Prop where
  slice : P.underlying t = some (.slice e)
  info : ∃ i z, P.info? e = some i ∧ i.zero = some z ∧ i.size = size ∧ i.bytes = bytes ∧ z.cells.size = size
  pos : 0 < size

theorem elem_mk {P : Program} {t e : TypeId} {size bytes : Nat} {z : Value} (hs : P.underlying t = some (.slice e)) (hi : (P.info? e).map (fun i => (i.zero, i.size, i.bytes)) = some (some z, size, bytes)) (hz : z.cells.size = size) (hp : 0 < size) : Elem P t e size bytes := by
  refine ⟨hs, ?_, hp⟩
  cases h : P.info? e with
  | none => rw [h] at hi; cases hi
  | some i =>
    rw [h] at hi
    simp only [Option.map_some, Option.some.injEq, Prod.mk.injEq] at hi
    exact ⟨i, z, rfl, hi.1, hi.2.1, hi.2.2, hz⟩

section
variable {P : Program} {t e : TypeId} {size bytes : Nat}

theorem run_app (E : Elem P t e size bytes) (w : World) (ty : TypeId) (base : Nat) (v : Value) (n : Nat) (xs : List Value) (hown : w.ownsRow base e size v n xs) (A : Option Addr) (m c B : Nat) (news : List Value)
    (hf : Flat w B A news) (hl : news.length = m * size) (h1 : ∀ u ∈ news, u.oneCell' = true) (h63 : n + m ≤ maxLen) (hbytes : (n + m) * bytes ≤ 140737488355328) (hbase : base ≤ w.heap.size) :
    ∃ v' w', (Builtin.append_ #[t, t] ty #[v, .slice A m c]).run P w = .ok v' w' ∧ w'.ownsRow base e size v' (n + m) (xs ++ news) ∧ w.grownBy w' v.ownBlock ∧ (v'.ownBlock = v.ownBlock ∨ v'.ownBlock = some w.heap.size) := by
  obtain ⟨i, z, hi, hz, hsize, hby, hzs⟩ := E.info
  cases A with
  | none =>
    have hn : news = [] := by
      rcases news with _ | ⟨x, r⟩
      · rfl
      · obtain ⟨b, off, e, _⟩ := hf (by simp)
        cases e
    subst hn
    obtain rfl : m = 0 := by
      have := E.pos
      rcases Nat.eq_zero_or_pos m with h | h
      · exact h
      · have : 0 < m * size := Nat.mul_pos h this
        simp at hl
        omega
    refine ⟨v, w, ?_, by simpa using hown, ⟨rfl, rfl, rfl, Nat.le_refl _, fun _ _ _ => rfl⟩, .inl rfl⟩
    rcases hown.2 with ⟨rfl, rfl⟩ | ⟨g, cap, cur, rfl, _, _, hnc, _⟩
    · simp [Builtin.append_, run_underlying E.slice, sizeOf, typeInfo, hi, Builtin.lenOf, Builtin.firstCells]
    · simp [Builtin.append_, run_underlying E.slice, sizeOf, typeInfo, hi, Builtin.lenOf, Builtin.firstCells, hnc, storeCells]
  | some a =>
    have hnews : ∀ j u, news[j]? = some u → w.cell? (a.add j) = some u := fun j u hu => by
      obtain ⟨b, off, e, _, hc⟩ := hf (by intro e; rw [e] at hu; simp at hu)
      injection e with e
      subst e
      have hadd : (⟨b, off, none⟩ : Addr).add j = ⟨b, off + j, none⟩ := by unfold Addr.add; split <;> simp_all
      rw [hadd]
      exact hc j u hu
    obtain ⟨v', w', hr, h2, h3, _, h5⟩ := run_append_own_at (P := P) w base t ty e i z size bytes E.slice hi hz hsize hby hzs E.pos v n xs hown a m c news hl hnews h1 h63 hbytes hbase
    exact ⟨v', w', hr, h2, h3, h5⟩

theorem wp_app (E : Elem P t e size bytes) {w : World} {o : Oper} {a : Act} {K : Act → World → Prop} {Q : Exit → Act → World → Prop} (s x : Operand) (ho : o.op = .call { callee := .builtin .append, args := #[s, x], argTypes := #[t, t] })
    (base : Nat) (v : Value) (n : Nat) (xs : List Value) (hs : a.eval s = v) (hown : w.ownsRow base e size v n xs) (A : Option Addr) (m c B : Nat) (news : List Value) (hx : a.eval x = .slice A m c)
    (hf : Flat w B A news) (hl : news.length = m * size) (h1 : ∀ u ∈ news, u.oneCell' = true) (h63 : n + m ≤ maxLen) (hbytes : (n + m) * bytes ≤ 140737488355328) (hbase : base ≤ w.heap.size)
    (h : ∀ v' w', w'.ownsRow base e size v' (n + m) (xs ++ news) → w.grownBy w' v.ownBlock → (v'.ownBlock = v.ownBlock ∨ v'.ownBlock = some w.heap.size) → K (a.put o.dst v') w') : o.wp P a w K Q := by
  obtain ⟨v', w', hr, h2, h3, h4⟩ := run_app E w o.type base v n xs hown A m c B news hf hl h1 h63 hbytes hbase
  unfold Oper.wp execOp
  simp only [ho, resolve, invoke, builtin, Sem.run_bind, Sem.run_pure, Result.andThen_ok, List.map_toArray, List.map_cons, List.map_nil, hs, hx, hr]
  exact h v' w' h2 h3 h4

theorem wpList_app (E : Elem P t e size bytes) {w : World} {ops : Array Oper} {rest : List Oper} {o : Oper} {a : Act} {Q : Exit → Act → World → Prop} (hgd : o.guard = none) (s x : Operand)
    (ho : o.op = .call { callee := .builtin .append, args := #[s, x], argTypes := #[t, t] })
    (base : Nat) (v : Value) (n : Nat) (xs : List Value) (hs : a.eval s = v) (hown : w.ownsRow base e size v n xs) (A : Option Addr) (m c B : Nat) (news : List Value) (hx : a.eval x = .slice A m c)
    (hf : Flat w B A news) (hl : news.length = m * size) (h1 : ∀ u ∈ news, u.oneCell' = true) (h63 : n + m ≤ maxLen) (hbytes : (n + m) * bytes ≤ 140737488355328) (hbase : base ≤ w.heap.size)
    (h : ∀ v' w', w'.ownsRow base e size v' (n + m) (xs ++ news) → w.grownBy w' v.ownBlock → (v'.ownBlock = v.ownBlock ∨ v'.ownBlock = some w.heap.size) → wpList P ops Q rest (a.put o.dst v') w') : wpList P ops Q (o :: rest) a w :=
  wpList_plain hgd fun _ hK => wp_app E s x ho base v n xs hs hown A m c B news hx hf hl h1 h63 hbytes hbase fun v' w' h2 h3 h4 => hK _ _ (h v' w' h2 h3 h4)

/-- At a step of a region that draws its order: for go_region_law, go_region_held3. -/
theorem step_app (E : Elem P t e size bytes) {w : World} {ops : Array Oper} {o : Oper} {a : Act} {K : Act → World → Prop} {Q : Exit → Act → World → Prop} {X : Prop} (hgd : o.guard = none) (s x : Operand)
    (ho : o.op = .call { callee := .builtin .append, args := #[s, x], argTypes := #[t, t] })
    (base : Nat) (v : Value) (n : Nat) (xs : List Value) (hs : a.eval s = v) (hown : w.ownsRow base e size v n xs) (A : Option Addr) (m c B : Nat) (news : List Value) (hx : a.eval x = .slice A m c)
    (hf : Flat w B A news) (hl : news.length = m * size) (h1 : ∀ u ∈ news, u.oneCell' = true) (h63 : n + m ≤ maxLen) (hbytes : (n + m) * bytes ≤ 140737488355328) (hbase : base ≤ w.heap.size)
    (h : ∀ v' w', w'.ownsRow base e size v' (n + m) (xs ++ news) → w.grownBy w' v.ownBlock → (v'.ownBlock = v.ownBlock ∨ v'.ownBlock = some w.heap.size) → K (a.put o.dst v') w') :
    if Region.wanted o (yielded ops a.tmps) = true then Oper.wp P o a w K Q else X := by
  have hw : Region.wanted o (yielded ops a.tmps) = true := by simp [Region.wanted, hgd]
  rw [if_pos hw]
  exact wp_app E s x ho base v n xs hs hown A m c B news hx hf hl h1 h63 hbytes hbase h
/-- append onto a slice without spare room: it grows; nothing that was there is written. -/
theorem run_app_full (E : Elem P t e size bytes) (w : World) (ty : TypeId) (base : Nat) (A0 : Option Addr) (n B0 : Nat) (xs : List Value) (hf0 : Flat w B0 A0 xs) (hl0 : xs.length = n * size) (A : Option Addr) (m c B : Nat) (news : List Value)
    (hf : Flat w B A news) (hl : news.length = m * size) (hm : 0 < m) (h63 : n + m ≤ maxLen) (hbytes : (n + m) * bytes ≤ 140737488355328) (hbase : base ≤ w.heap.size) (hA0 : A0.isSome = true) :
    ∃ v' w', (Builtin.append_ #[t, t] ty #[.slice A0 n n, .slice A m c]).run P w = .ok v' w' ∧ w'.ownsRow base e size v' (n + m) (xs ++ news) ∧ w.grownBy w' none := by
  obtain ⟨i, z, hi, hz, hsize, hby, hzs⟩ := E.info
  subst hsize
  subst hby
  have cells : ∀ {A : Option Addr} {B : Nat} {xs : List Value} {a : Addr}, Flat w B A xs → A = some a → ∀ j u, xs[j]? = some u → w.cell? (a.add j) = some u := by
    intro A B xs a hf hA j u hu
    obtain ⟨b, off, e, _, hc⟩ := hf (by intro e; rw [e] at hu; simp at hu)
    rw [hA] at e
    injection e with e
    subst e
    have hadd : (⟨b, off, none⟩ : Addr).add j = ⟨b, off + j, none⟩ := by unfold Addr.add; split <;> simp_all
    rw [hadd]
    exact hc j u hu
  obtain ⟨a0, rfl⟩ := Option.isSome_iff_exists.1 hA0
  have hnn : news ≠ [] := by
    intro h
    rw [h] at hl
    have := Nat.mul_pos hm E.pos
    simp at hl
    omega
  obtain ⟨b, off, rfl, _, _⟩ := hf hnn
  have hlen : (xs ++ news).length = (n + m) * i.size := by rw [List.length_append, hl0, hl, Nat.add_mul]
  have hr := run_append_grow (P := P) w t ty e i z E.slice hi hz a0 n n xs hl0 (cells hf0 rfl) ⟨b, off, none⟩ m c news hl (cells hf rfl) (by omega) (by unfold maxLen at h63; omega) (growslice_fits (by omega) hbytes)
  have hge := grownCap_ge w (n + m) n e
  have hcm : grownCap w (n + m) n e ≤ maxLen := grownCap_le_maxLen w (n + m) n e h63
  refine ⟨_, _, hr, ⟨hlen, .inr ⟨w.heap.size, _, _, rfl, hbase, heap_alloc_new w.drew _, hge, hcm, ?_, ?_⟩⟩, ⟨rfl, rfl, rfl, by simp, fun k hk _ => Below.heap_alloc w.drew _ k hk⟩⟩
  · simp only [Array.size_append, List.size_toArray, size_zeroCells, hzs, hl0, hl, ← Nat.add_mul]
    congr 1
    omega
  · simp only [Array.toList_append, List.append_assoc]
    rw [← List.append_assoc, ← hlen]
    exact List.take_left

/-- Nothing is appended: the slice as it was. -/
theorem run_app_zero (E : Elem P t e size bytes) (w : World) (ty : TypeId) (A0 : Option Addr) (n c0 : Nat) (hn : n ≤ c0) (A : Option Addr) (c : Nat) :
    (Builtin.append_ #[t, t] ty #[.slice A0 n c0, .slice A 0 c]).run P w = .ok (.slice A0 n c0) w := by
  obtain ⟨i, z, hi, hz, hsize, hby, hzs⟩ := E.info
  cases A0 <;> cases A <;> simp [Builtin.append_, run_underlying E.slice, sizeOf, typeInfo, hi, Builtin.lenOf, Builtin.firstCells, hn, storeCells, loadCells, loadCellsFrom]

/-- An append of which the run is known, at a step of a region that draws its order. -/
theorem step_run {w : World} {ops : Array Oper} {o : Oper} {a : Act} {K : Act → World → Prop} {Q : Exit → Act → World → Prop} {X : Prop} (hgd : o.guard = none) (s x : Operand)
    (ho : o.op = .call { callee := .builtin .append, args := #[s, x], argTypes := #[t, t] }) (u y : Value) (hs : a.eval s = u) (hx : a.eval x = y) (R : Value → World → Prop)
    (hr : ∀ ty, ∃ v' w', (Builtin.append_ #[t, t] ty #[u, y]).run P w = .ok v' w' ∧ R v' w')
    (h : ∀ v' w', R v' w' → K (a.put o.dst v') w') : if Region.wanted o (yielded ops a.tmps) = true then Oper.wp P o a w K Q else X := by
  have hw : Region.wanted o (yielded ops a.tmps) = true := by simp [Region.wanted, hgd]
  rw [if_pos hw]
  obtain ⟨v', w', hr', h2⟩ := hr o.type
  unfold Oper.wp execOp
  simp only [ho, resolve, invoke, builtin, Sem.run_bind, Sem.run_pure, Result.andThen_ok, List.map_toArray, List.map_cons, List.map_nil, hs, hx, hr']
  exact h v' w' h2
end

/-- An empty row that the call has just made. -/
theorem own_empty {w : World} {base g : Nat} {e : TypeId} {size : Nat} {fr : Array Value} (hb : base ≤ g) (h : w.heap[g]? = some (.cells fr e (0, 0))) (hs : fr.size = 0) : w.ownsRow base e size (.slice (some ⟨g, 0, none⟩) 0 0) 0 [] :=
  ⟨by simp, .inr ⟨g, 0, fr, rfl, hb, h, Nat.le_refl _, by unfold maxLen; decide, by simp [hs], by simp⟩⟩

theorem own_below {w w' : World} {base : Nat} {e : TypeId} {size n : Nat} {v : Value} {xs : List Value} (h : w.ownsRow base e size v n xs) (hb : Below w.heap.size w w') : w'.ownsRow base e size v n xs := by
  refine ⟨h.1, ?_⟩
  rcases h.2 with hn | ⟨g, cap, cur, hv, hbg, hg, r⟩
  · exact .inl hn
  · exact .inr ⟨g, cap, cur, hv, hbg, by rw [hb.block g (Array.getElem?_eq_some_iff.1 hg).1]; exact hg, r⟩
/-- Owned from a later block on is owned from an earlier one on. -/
theorem own_base {w : World} {base base' : Nat} {e : TypeId} {size n : Nat} {v : Value} {xs : List Value} (h : w.ownsRow base e size v n xs) (hb : base' ≤ base) : w.ownsRow base' e size v n xs := by
  refine ⟨h.1, ?_⟩
  rcases h.2 with hn | ⟨g, cap, cur, hv, hbg, r⟩
  · exact .inl hn
  · exact .inr ⟨g, cap, cur, hv, Nat.le_trans hb hbg, r⟩
/-- A block just made, as a reading. -/
theorem flat_new (w : World) (cs : List Value) (t : TypeId) : Flat (w.alloc (.cells cs.toArray t)) (w.heap.size + 1) (some ⟨w.heap.size, 0, none⟩) cs := fun _ =>
  ⟨w.heap.size, 0, rfl, by omega, fun j u hu => by
    rw [cell_of_row _ w.heap.size (0 + j) cs.toArray t (0, 0) (heap_alloc_new w _)]
    simpa using hu⟩
/-- Behind an append onto an owned row: what was below stays. -/
theorem below_app {w0 w w' : World} {base : Nat} {e : TypeId} {size n : Nat} {v : Value} {xs : List Value} (h0 : Below w0.heap.size w0 w) (hown : w.ownsRow base e size v n xs) (hb : w0.heap.size ≤ base) (hg : w.grownBy w' v.ownBlock) : Below w0.heap.size w0 w' :=
  Below.grown h0 hg h0.size (fun k hk => Nat.le_trans hb (hown.lt k hk).1)
/-- Behind an append: the new row, too, lies from 'base' on. (The owned row's own statement says it.) -/
theorem own_slice {w : World} {base : Nat} {e : TypeId} {size n : Nat} {v : Value} {xs : List Value} (h : w.ownsRow base e size v n xs) : ∃ A c, v = .slice A n c ∧ n ≤ c ∧ c ≤ maxLen ∧ Flat w w.heap.size A xs := by
  rcases h.2 with ⟨rfl, rfl⟩ | ⟨g, cap, cur, rfl, hbg, hg, h1, h2, _⟩
  · exact ⟨none, 0, rfl, Nat.le_refl _, by unfold maxLen; decide, Flat.of_own h⟩
  · exact ⟨_, cap, rfl, h1, h2, Flat.of_own h⟩

theorem own_bounds {w : World} {base : Nat} {e : TypeId} {size n : Nat} {A : Option Addr} {c : Nat} {xs : List Value} (h : w.ownsRow base e size (.slice A n c) n xs) : n ≤ c ∧ c ≤ maxLen := by
  obtain ⟨A', c', hv, h1, h2, _⟩ := own_slice h
  injection hv with _ _ hc
  subst hc
  exact ⟨h1, h2⟩

end Kit
end Go.Proofs.YtjpiiejdaiaocaaDoor
