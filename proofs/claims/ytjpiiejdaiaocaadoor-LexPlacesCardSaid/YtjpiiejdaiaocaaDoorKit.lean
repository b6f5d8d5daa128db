/-
  Words of my own for memory: what a slice reads as ('Flat', 'Chunks', 'rSlice'), kept from world to world; and how an argument that reads as data comes to be so ('Opens'). No program of Go's is named here.
-/
import Derived.Handy
import Derived.BigQuiet
import Derived.Deep.QuietTactic
import Derived.Deep.Slices
import Derived.Deep.Fields
import Derived.Deep.AppendLies
import Derived.Lib.Hide
import Derived.WalkLawsBesides
import Derived.WalkSpells
import Derived.ProofKit
import Derived.ChangeOld
namespace Go.Proofs.YtjpiiejdaiaocaaDoor
open Go.ChangeShapes Go.WideShapes Go.RowKit
namespace Kit

/-! ### worlds -/
theorem below_drewN {B : Nat} {a w : World} (h : Below B a w) (n : Nat) : Below B a (w.drewN n) := ⟨h.os, h.tape, h.output, h.size, h.block⟩
theorem keep_cell {W w1 : World} (hb : Below W.heap.size W w1) {p : Addr} {v : Value} (h : W.cell? p = some v) : w1.cell? p = some v :=
  (hb.cell (World.block_lt_of_cell? W p h)).trans h
theorem below_step {w W w1 : World} (h : Below w.heap.size w W) (hb : Below W.heap.size W w1) : Below w.heap.size w w1 := h.trans (hb.mono h.size)

/-- Every cell below block B is in w' as it is in w. -/
def Kept (B : Nat) (w w' : World) : Prop := ∀ p : Addr, p.block < B → w'.cell? p = w.cell? p
theorem Kept.refl (B : Nat) (w : World) : Kept B w w := fun _ _ => rfl
theorem Kept.trans {B : Nat} {a b c : World} (h : Kept B a b) (k : Kept B b c) : Kept B a c := fun p hp => (k p hp).trans (h p hp)
theorem Kept.mono {B B' : Nat} {a b : World} (h : Kept B a b) (hB : B' ≤ B) : Kept B' a b := fun p hp => h p (Nat.lt_of_lt_of_le hp hB)
theorem kept_of_below {B : Nat} {a b : World} (h : Below B a b) : Kept B a b := fun _ hp => h.cell hp
theorem kept_drew (B : Nat) (w : World) : Kept B w w.drew := fun _ _ => rfl
theorem kept_alloc {B : Nat} {w : World} (hB : B ≤ w.heap.size) (o : Obj) : Kept B w (w.alloc o) := fun p hp => World.cell?_alloc_lt w o p (by omega)
theorem kept_setCell {B : Nat} {w : World} {p : Addr} (hB : B ≤ p.block) (u : Value) : Kept B w (w.setCell p u) := fun q hq =>
  World.cell?_setCell_other w p q u (fun e => by subst e; omega)

/-! ### what an address reads as -/
/-- From A on the cells stand in memory, all in one block below B. -/
def Flat (w : World) (B : Nat) (A : Option Addr) (cells : List Value) : Prop :=
  cells ≠ [] → ∃ b off, A = some ⟨b, off, none⟩ ∧ b < B ∧ ∀ j u, cells[j]? = some u → w.cell? ⟨b, off + j, none⟩ = some u

theorem Flat.nil (w : World) (B : Nat) (A : Option Addr) : Flat w B A [] := fun h => absurd rfl h
theorem Flat.keep {w w' : World} {B : Nat} {A : Option Addr} {cells : List Value} (h : Flat w B A cells) (hk : Kept B w w') : Flat w' B A cells := fun hn => by
  obtain ⟨b, off, e, hb, hc⟩ := h hn
  exact ⟨b, off, e, hb, fun j u hu => (hk ⟨b, off + j, none⟩ hb).trans (hc j u hu)⟩
theorem Flat.more {w : World} {B B' : Nat} {A : Option Addr} {cells : List Value} (h : Flat w B A cells) (hB : B ≤ B') : Flat w B' A cells := fun hn => by
  obtain ⟨b, off, e, hb, hc⟩ := h hn
  exact ⟨b, off, e, by omega, hc⟩
theorem Flat.below {w w' : World} {B : Nat} {A : Option Addr} {cells : List Value} (h : Flat w B A cells) (hb : Below B w w') : Flat w' B A cells := h.keep (kept_of_below hb)
/-- The address is a true one, its cells are there. -/
theorem Flat.at_ {w : World} {B : Nat} {A : Option Addr} {cells : List Value} (h : Flat w B A cells) (hn : 0 < cells.length) :
    ∃ b off, A = some ⟨b, off, none⟩ ∧ b < B ∧ ∀ j u, cells[j]? = some u → w.cell? ⟨b, off + j, none⟩ = some u :=
  h (by intro e; rw [e] at hn; simp at hn)
theorem Flat.drop {w : World} {B : Nat} {b off : Nat} {cells : List Value} (h : Flat w B (some ⟨b, off, none⟩) cells) (k : Nat) : Flat w B (some ⟨b, off + k, none⟩) (cells.drop k) := fun hn => by
  have hl : k < cells.length := by
    rcases Nat.lt_or_ge k cells.length with hl | hl
    · exact hl
    · exact absurd (List.drop_eq_nil_of_le hl) hn
  obtain ⟨b', off', e, hb, hc⟩ := h.at_ (by omega)
  injection e with e; injection e with e1 e2; subst e1; subst e2
  exact ⟨b, off + k, rfl, hb, fun j u hu => by rw [Nat.add_assoc]; exact hc _ _ (by simpa [List.getElem?_drop] using hu)⟩
theorem Flat.take {w : World} {B : Nat} {A : Option Addr} {cells : List Value} (h : Flat w B A cells) (k : Nat) : Flat w B A (cells.take k) := fun hn => by
  obtain ⟨b, off, e, hb, hc⟩ := h (fun e => hn (by rw [e]; simp))
  exact ⟨b, off, e, hb, fun j u hu => hc j u (by rw [List.getElem?_take] at hu; split at hu <;> simp_all)⟩
theorem Flat.of_own {w : World} {base size n : Nat} {e : TypeId} {A : Option Addr} {c : Nat} {xs : List Value} (h : w.ownsRow base e size (.slice A n c) n xs) : Flat w w.heap.size A xs := fun hn => by
  rcases h.2 with ⟨hv, h0⟩ | ⟨g, cap, cur, hv, _, hg, _⟩
  · have : xs = [] := List.eq_nil_of_length_eq_zero (by rw [h.1, h0, Nat.zero_mul])
    exact absurd this hn
  · injection hv with hA
    subst hA
    refine ⟨g, 0, rfl, (Array.getElem?_eq_some_iff.1 hg).1, fun j u hu => ?_⟩
    have hc := h.cells (g := g) rfl j u hu
    have hadd : (⟨g, 0, none⟩ : Addr).add j = ⟨g, 0 + j, none⟩ := by unfold Addr.add; split <;> simp_all
    rwa [hadd] at hc

/-! ### readings -/
abbrev Rel (α : Type) := World → Nat → α → List Value → Prop
class Rel.Ok {α : Type} (r : Rel α) : Prop where
  keep : ∀ {w w' : World} {B : Nat} {a : α} {cs : List Value}, r w B a cs → Kept B w w' → r w' B a cs
  more : ∀ {w : World} {B B' : Nat} {a : α} {cs : List Value}, r w B a cs → B ≤ B' → r w B' a cs

def rInt (k : IntKind) : Rel Int := fun _ _ n cs => cs = [.int k n] ∧ (Lit.int k n).wf = true
def rByte : Rel UInt8 := fun _ _ b cs => cs = [.int .u8 (b.toNat : Int)]
def rBool : Rel Bool := fun _ _ b cs => cs = [.bool b]
def rStr : Rel ByteArray := fun _ _ s cs => cs = [.string s] ∧ s.size ≤ maxLen
instance (k : IntKind) : Rel.Ok (rInt k) := ⟨fun h _ => h, fun h _ => h⟩
instance : Rel.Ok rByte := ⟨fun h _ => h, fun h _ => h⟩
instance : Rel.Ok rBool := ⟨fun h _ => h, fun h _ => h⟩
instance : Rel.Ok rStr := ⟨fun h _ => h, fun h _ => h⟩

/-- The cells read, 'size' by 'size', as the list. -/
def Chunks {α : Type} (size : Nat) (r : Rel α) (w : World) (B : Nat) : List α → List Value → Prop
  | [], cells => cells = []
  | x :: xs, cells => ∃ vs rest, cells = vs ++ rest ∧ vs.length = size ∧ r w B x vs ∧ Chunks size r w B xs rest

section
variable {α : Type} {size : Nat} {r : Rel α} {w w' : World} {B B' : Nat}
theorem Chunks.keep [Rel.Ok r] : ∀ {xs : List α} {cells : List Value}, Chunks size r w B xs cells → Kept B w w' → Chunks size r w' B xs cells
  | [], _, h, _ => h
  | _ :: _, _, ⟨vs, rest, e, hl, hr, h⟩, hk => ⟨vs, rest, e, hl, Rel.Ok.keep hr hk, Chunks.keep h hk⟩
theorem Chunks.more [Rel.Ok r] : ∀ {xs : List α} {cells : List Value}, Chunks size r w B xs cells → B ≤ B' → Chunks size r w B' xs cells
  | [], _, h, _ => h
  | _ :: _, _, ⟨vs, rest, e, hl, hr, h⟩, hk => ⟨vs, rest, e, hl, Rel.Ok.more hr hk, Chunks.more h hk⟩
theorem Chunks.length : ∀ {xs : List α} {cells : List Value}, Chunks size r w B xs cells → cells.length = xs.length * size
  | [], _, h => by cases h; simp
  | _ :: xs, _, ⟨vs, rest, e, hl, _, h⟩ => by
    have := Chunks.length h
    rw [e, List.length_append, hl, this, List.length_cons, Nat.add_mul, Nat.one_mul, Nat.add_comm]
theorem Chunks.append : ∀ {xs ys : List α} {cells more : List Value}, Chunks size r w B xs cells → Chunks size r w B ys more → Chunks size r w B (xs ++ ys) (cells ++ more)
  | [], _, _, _, h, k => by cases h; exact k
  | _ :: _, _, _, _, ⟨vs, rest, e, hl, hr, h⟩, k => ⟨vs, _, by rw [e, List.append_assoc], hl, hr, Chunks.append h k⟩
theorem Chunks.one {x : α} {vs : List Value} (hl : vs.length = size) (hr : r w B x vs) : Chunks size r w B [x] vs := ⟨vs, [], by simp, hl, hr, rfl⟩
theorem Chunks.snoc {xs : List α} {x : α} {cells vs : List Value} (h : Chunks size r w B xs cells) (hl : vs.length = size) (hr : r w B x vs) : Chunks size r w B (xs ++ [x]) (cells ++ vs) :=
  h.append (.one hl hr)
theorem Chunks.get : ∀ {xs : List α} {cells : List Value}, Chunks size r w B xs cells → ∀ (k : Nat) (x : α), xs[k]? = some x → ∃ vs, vs.length = size ∧ r w B x vs ∧ ∀ j, j < size → cells[k * size + j]? = vs[j]?
  | [], _, _, k, x, hx => by simp at hx
  | y :: ys, _, ⟨vs, rest, e, hl, hr, h⟩, 0, x, hx => by
    simp at hx
    subst hx
    exact ⟨vs, hl, hr, fun j hj => by rw [e, List.getElem?_append_left (by omega)]; simp⟩
  | y :: ys, _, ⟨vs, rest, e, hl, hr, h⟩, k + 1, x, hx => by
    obtain ⟨us, h1, h2, h3⟩ := Chunks.get h k x (by simpa using hx)
    refine ⟨us, h1, h2, fun j hj => ?_⟩
    rw [e, List.getElem?_append_right (by rw [Nat.add_mul]; omega), ← h3 j hj]
    congr 1
    rw [hl, Nat.add_mul]; omega
theorem Chunks.drop : ∀ {xs : List α} {cells : List Value} (k : Nat), Chunks size r w B xs cells → Chunks size r w B (xs.drop k) (cells.drop (k * size))
  | xs, cells, 0, h => by simpa using h
  | [], _, k + 1, h => by cases h; simp [Chunks]
  | _ :: xs, _, k + 1, ⟨vs, rest, e, hl, hr, h⟩ => by
    have := Chunks.drop k h
    rw [e, List.drop_succ_cons, show (k + 1) * size = vs.length + k * size by rw [hl, Nat.add_mul]; omega, List.drop_append, show vs.drop (vs.length + k * size) = [] from List.drop_eq_nil_of_le (by omega), show vs.length + k * size - vs.length = k * size by omega]
    exact this
theorem Chunks.take : ∀ {xs : List α} {cells : List Value} (k : Nat), Chunks size r w B xs cells → Chunks size r w B (xs.take k) (cells.take (k * size))
  | xs, cells, 0, h => by simp [Chunks]
  | [], _, k + 1, h => by cases h; simp [Chunks]
  | _ :: xs, _, k + 1, ⟨vs, rest, e, hl, hr, h⟩ => by
    have := Chunks.take k h
    rw [e, List.take_succ_cons, show (k + 1) * size = vs.length + k * size by rw [hl, Nat.add_mul]; omega, List.take_append, show vs.take (vs.length + k * size) = vs from List.take_of_length_le (by omega), show vs.length + k * size - vs.length = k * size by omega]
    exact ⟨vs, rest.take (k * size), rfl, hl, hr, this⟩
end

/-- Where an element's cells are a function of it. -/
theorem Chunks.pure {α : Type} {size : Nat} {r : Rel α} {w : World} {B : Nat} (f : α → List Value) (hf : ∀ x vs, r w B x vs → vs = f x) :
    ∀ {xs : List α} {cells : List Value}, Chunks size r w B xs cells → cells = xs.flatMap f
  | [], _, h => by cases h; rfl
  | x :: xs, _, ⟨vs, rest, e, _, hr, h⟩ => by rw [e, List.flatMap_cons, ← hf x vs hr, ← Chunks.pure f hf h]

def rSlice {α : Type} (size : Nat) (r : Rel α) : Rel (List α) := fun w B xs cs =>
  ∃ A c cells, cs = [.slice A xs.length c] ∧ xs.length ≤ c ∧ c ≤ maxLen ∧ Flat w B A cells ∧ Chunks size r w B xs cells
/-- A slice whose elements' cells are a function of them. -/
theorem rSlice.flat {α : Type} {size : Nat} {r : Rel α} {w : World} {B : Nat} {xs : List α} {A : Option Addr} {n c : Nat} (f : α → List Value) (hf : ∀ x vs, r w B x vs → vs = f x) (h : rSlice size r w B xs [.slice A n c]) :
    n = xs.length ∧ n ≤ c ∧ c ≤ maxLen ∧ Flat w B A (xs.flatMap f) := by
  obtain ⟨A', c', cells, e, h1, h2, h3, h4⟩ := h
  simp only [List.cons.injEq, Value.slice.injEq, and_true] at e
  obtain ⟨rfl, rfl, rfl⟩ := e
  exact ⟨rfl, h1, h2, by rw [← Chunks.pure f hf h4]; exact h3⟩
theorem Chunks.all {α : Type} {size : Nat} {r : Rel α} {w : World} {B : Nat} {p : α → Prop} (hp : ∀ x vs, r w B x vs → p x) : ∀ {xs : List α} {cells : List Value}, Chunks size r w B xs cells → ∀ x ∈ xs, p x
  | [], _, _, x, hx => by cases hx
  | y :: ys, _, ⟨vs, rest, _, _, hr, h⟩, x, hx => by
    rcases List.mem_cons.1 hx with rfl | hx
    · exact hp _ _ hr
    · exact Chunks.all hp h x hx
theorem rSlice.all {α : Type} {size : Nat} {r : Rel α} {w : World} {B : Nat} {xs : List α} {cs : List Value} {p : α → Prop} (hp : ∀ x vs, r w B x vs → p x) (h : rSlice size r w B xs cs) : ∀ x ∈ xs, p x := by
  obtain ⟨_, _, _, _, _, _, _, h4⟩ := h
  exact h4.all hp
instance {α : Type} {size : Nat} {r : Rel α} [Rel.Ok r] : Rel.Ok (rSlice size r) :=
  ⟨fun ⟨A, c, cells, e, h1, h2, hf, hc⟩ hk => ⟨A, c, cells, e, h1, h2, hf.keep hk, hc.keep hk⟩, fun ⟨A, c, cells, e, h1, h2, hf, hc⟩ hB => ⟨A, c, cells, e, h1, h2, hf.more hB, hc.more hB⟩⟩

/-! ### opening an argument -/
def Opens {α : Type} (P : Program) (t : TypeId) (size : Nat) (r : Rel α) : Prop :=
  P.cellsOf t = size ∧ ∀ (H : Type) (enc : TypeId × Value → H) (w : World) (base : Nat) (spare : Nat → Bool) (held : Bool) (fuel : Nat) (cs : List Value) (x : DataW H × List MemPlace),
    DataW.trod enc P w base spare held fuel t cs = some x → ∃ a, r w w.heap.size a cs

theorem opens_int {P : Program} {t : TypeId} {k : IntKind} (ht : P.underlying t = some (.int k)) (hc : P.cellsOf t = 1) : Opens P t 1 (rInt k) :=
  ⟨hc, fun _ _ _ _ _ _ _ _ _ h => by obtain ⟨n, e, _, hw⟩ := DataW.trod_int ht h; exact ⟨n, e, hw⟩⟩
theorem opens_bool {P : Program} {t : TypeId} (ht : P.underlying t = some .bool) (hc : P.cellsOf t = 1) : Opens P t 1 rBool :=
  ⟨hc, fun _ _ _ _ _ _ _ _ _ h => by obtain ⟨b, e, _⟩ := DataW.trod_bool ht h; exact ⟨b, e⟩⟩
theorem opens_str {P : Program} {t : TypeId} (ht : P.underlying t = some .string) (hc : P.cellsOf t = 1) : Opens P t 1 rStr :=
  ⟨hc, fun _ _ _ _ _ _ _ _ _ h => by obtain ⟨s, e, _, hs⟩ := DataW.trod_string ht h; exact ⟨s, e, hs⟩⟩
theorem opens_byte {P : Program} {t : TypeId} (ht : P.underlying t = some (.int .u8)) (hc : P.cellsOf t = 1) : Opens P t 1 rByte :=
  ⟨hc, fun _ _ _ _ _ _ _ _ _ h => by
    obtain ⟨n, e, _, hw⟩ := DataW.trod_int ht h
    have hb : 0 ≤ n ∧ n < 256 := by
      simp [Lit.wf, IntKind.min, IntKind.max, IntKind.bits, IntKind.signed] at hw
      omega
    refine ⟨UInt8.ofNat n.toNat, ?_⟩
    show _ = _
    rw [e]
    congr 2
    simp
    omega⟩

theorem opens_slice {α : Type} {P : Program} {t e : TypeId} {size : Nat} {r : Rel α} (ht : P.underlying t = some (.slice e)) (hc : P.cellsOf t = 1) (ho : Opens P e size r) : Opens P t 1 (rSlice size r) := by
  refine ⟨hc, fun H enc w base spare held fuel cs x h => ?_⟩
  have hlt := DataW.trod_lt _ _ _ _ h
  rcases Deep.open_slice ht h with ⟨e, _⟩ | ⟨a, len, cap, m, n, D, Pl, e, hb, hl, hm, hmm, hx, hel⟩
  · exact ⟨[], none, 0, [], by simpa using e, Nat.le_refl _, by unfold maxLen; decide, Flat.nil _ _ _, rfl⟩
  · have hml : len ≤ m := by rw [hmm]; split <;> omega
    rw [ho.1] at hel hx
    have key : ∀ k, k ≤ len → ∃ (xs : List α) (cells : List Value), xs.length = k ∧ Chunks size r w w.heap.size xs cells ∧ ∀ j u, cells[j]? = some u → w.cell? (a.add j) = some u := by
      intro k
      induction k with
      | zero => exact fun _ => ⟨[], [], rfl, rfl, fun j u hu => by simp at hu⟩
      | succ k ih =>
        intro hk
        obtain ⟨xs, cells, hxl, hch, hcell⟩ := ih (by omega)
        obtain ⟨cs', hcs, htr⟩ := hel k (by omega)
        obtain ⟨_, hcl, hat⟩ := World.cells?_some hcs
        obtain ⟨y, hy⟩ := ho.2 _ _ _ _ _ _ _ _ _ htr
        refine ⟨xs ++ [y], cells ++ cs', by simp [hxl], hch.snoc hcl hy, fun j u hu => ?_⟩
        have hcells : cells.length = k * size := by rw [hch.length, hxl]
        by_cases hj : j < cells.length
        · rw [List.getElem?_append_left hj] at hu
          exact hcell j u hu
        · rw [List.getElem?_append_right (by omega)] at hu
          have hj2 : j - cells.length < size := by
            rcases Nat.lt_or_ge (j - cells.length) cs'.length with h1 | h1
            · omega
            · rw [List.getElem?_eq_none h1] at hu; cases hu
          have h3 := hat (j - cells.length) hj2
          rw [Deep.add_add] at h3
          rw [← hu, ← h3]
          congr 2
          omega
    obtain ⟨xs, cells, hxl, hch, hcell⟩ := key len (Nat.le_refl _)
    refine ⟨xs, some a, cap, cells, by rw [e, hxl], by omega, hm, fun hn => ?_, hch⟩
    have h0 : 0 < cells.length := by cases cells with | nil => exact absurd rfl hn | cons => simp
    have hlen0 : 0 < len := by
      have := hch.length
      rw [hxl] at this
      rcases Nat.eq_zero_or_pos len with h | h
      · rw [h, Nat.zero_mul] at this; omega
      · exact h
    have hc0 := hcell 0 _ (List.getElem?_eq_getElem h0)
    have hblk : a.block < w.heap.size := by
      have := World.block_lt_of_cell? w _ hc0
      rwa [show (a.add 0).block = a.block from by unfold Addr.add; simp] at this
    obtain ⟨b, off, spot⟩ := a
    have hsp : spot = none := by simpa [Addr.add] using World.cell?_spot hc0
    subst hsp
    refine ⟨b, off, rfl, hblk, fun j u hu => ?_⟩
    have hc1 := hcell j u hu
    have hadd : (⟨b, off, none⟩ : Addr).add j = ⟨b, off + j, none⟩ := by unfold Addr.add; split <;> simp_all
    rwa [hadd] at hc1

/-- A struct of fields of one cell each: its cells, each read by its own type. -/
theorem open_fields {P : Program} {t : TypeId} {fs : Array Field} (hs : P.underlying t = some (.struct fs)) (hone : Deep.oneCellFields P fs = true) (hC : P.cellsOf t = fs.size)
    {H : Type} {enc : TypeId × Value → H} {w : World} {base : Nat} {spare : Nat → Bool} {held : Bool} {fuel : Nat} {cs : List Value} {x : DataW H × List MemPlace} (h : DataW.trod enc P w base spare held fuel t cs = some x) :
    cs.length = fs.size ∧ ∀ (j : Nat) (f : Field), fs[j]? = some f → ∃ v n y, cs[j]? = some v ∧ DataW.trod enc P w base spare held n f.type [v] = some y := by
  obtain ⟨ys, n, _, _, hlen, hyl, hf⟩ := DataW.trod_struct hs h
  refine ⟨hlen.trans hC, fun j f hj => ?_⟩
  obtain ⟨ho, hk⟩ := Deep.hone_of hone j f hj
  have hjl : j < fs.size := (Array.getElem?_eq_some_iff.1 hj).1
  have hv : cs[j]? = some (cs[j]'(by omega)) := List.getElem?_eq_getElem (by omega)
  have h1 := hf j f hj
  rw [ho, hk, List.drop_eq_getElem_cons (by omega)] at h1
  have hys : ys[j]? = some (ys[j]'(by omega)) := List.getElem?_eq_getElem (by omega)
  exact ⟨_, n, _, hv, h1.trans hys⟩

theorem open_arg {α : Type} {P : Program} {t : TypeId} {size : Nat} {r : Rel α} (ho : Opens P t size r) {H : Type} {enc : TypeId × Value → H} {w : World} {base : Nat} {spare : Nat → Bool} {held : Bool} {v : Value} {d : DataW H} {ps : List MemPlace}
    (h : DataW.Trod enc P w base spare held t v d ps) : ∃ a, r w w.heap.size a v.cells.toList := by
  obtain ⟨fuel, hf⟩ := h
  exact ho.2 _ _ _ _ _ _ _ _ _ hf

end Kit
end Go.Proofs.YtjpiiejdaiaocaaDoor
