/-
  A reading of Go's memory by values: arguments that come from outside, with a word on each number. No program of Go's is named here.
-/
import Derived.Test.YtbnjdkpangmneaaAbsV
import Derived.Test.YtbnjdkpangmneaaAbsX
namespace Go.Proofs.Ytbnjdkpangmneaa
open Go.ChangeShapes Go.WideShapes Go.RowKit
set_option linter.unusedVariables false
set_option linter.unusedSimpArgs false
namespace Abs
/-- What came in reads as f says, and p is true of it. -/
def rP {α : Type} (f : α → List CV) (p : α → Prop) : Kit.Rel α := fun w _ x cs => All2 (RepC NoA w) (f x) cs ∧ p x
theorem opens_p_int {P : Program} {t : TypeId} (ht : P.underlying t = some (.int .i64)) (hc : P.cellsOf t = 1) : Kit.Opens P t 1 (rP (fun n : Int => [.val (.int .i64 n)]) Md.I64) :=
  ⟨hc, fun H enc w base spare held fuel cs x h => by
    obtain ⟨n, e, _, hw⟩ := DataW.trod_int ht h
    refine ⟨n, by rw [e]; exact .cons (.val _ rfl) .nil, ?_⟩
    simp [Lit.wf, IntKind.min, IntKind.max, IntKind.bits, IntKind.signed] at hw
    unfold Md.I64
    omega⟩
theorem u8_of {n : Int} (hw : (Lit.int .u8 n).wf = true) : ∃ x : UInt8, n = (x.toNat : Int) := by
  simp [Lit.wf, IntKind.min, IntKind.max, IntKind.bits, IntKind.signed] at hw
  refine ⟨UInt8.ofNat n.toNat, ?_⟩
  rw [UInt8.toNat_ofNat']
  omega
theorem opens_p_u8 {P : Program} {t : TypeId} (ht : P.underlying t = some (.int .u8)) (hc : P.cellsOf t = 1) : Kit.Opens P t 1 (rP (fun n : UInt8 => [.val (.int .u8 (n.toNat : Int))]) fun _ => True) :=
  ⟨hc, fun H enc w base spare held fuel cs x h => by
    obtain ⟨n, e, _, hw⟩ := DataW.trod_int ht h
    obtain ⟨b, rfl⟩ := u8_of hw
    exact ⟨b, by rw [e]; exact .cons (.val _ rfl) .nil, trivial⟩⟩
theorem u16_of {n : Int} (hw : (Lit.int .u16 n).wf = true) : ∃ x : UInt16, n = (x.toNat : Int) := by
  simp [Lit.wf, IntKind.min, IntKind.max, IntKind.bits, IntKind.signed] at hw
  refine ⟨UInt16.ofNat n.toNat, ?_⟩
  rw [UInt16.toNat_ofNat']
  omega
theorem opens_p_u16 {P : Program} {t : TypeId} (ht : P.underlying t = some (.int .u16)) (hc : P.cellsOf t = 1) : Kit.Opens P t 1 (rP (fun n : UInt16 => [.val (.int .u16 (n.toNat : Int))]) fun _ => True) :=
  ⟨hc, fun H enc w base spare held fuel cs x h => by
    obtain ⟨n, e, _, hw⟩ := DataW.trod_int ht h
    obtain ⟨b, rfl⟩ := u16_of hw
    exact ⟨b, by rw [e]; exact .cons (.val _ rfl) .nil, trivial⟩⟩
theorem u32_of {n : Int} (hw : (Lit.int .u32 n).wf = true) : ∃ x : UInt32, n = (x.toNat : Int) := by
  simp [Lit.wf, IntKind.min, IntKind.max, IntKind.bits, IntKind.signed] at hw
  refine ⟨UInt32.ofNat n.toNat, ?_⟩
  rw [UInt32.toNat_ofNat']
  omega
theorem opens_p_u32 {P : Program} {t : TypeId} (ht : P.underlying t = some (.int .u32)) (hc : P.cellsOf t = 1) : Kit.Opens P t 1 (rP (fun n : UInt32 => [.val (.int .u32 (n.toNat : Int))]) fun _ => True) :=
  ⟨hc, fun H enc w base spare held fuel cs x h => by
    obtain ⟨n, e, _, hw⟩ := DataW.trod_int ht h
    obtain ⟨b, rfl⟩ := u32_of hw
    exact ⟨b, by rw [e]; exact .cons (.val _ rfl) .nil, trivial⟩⟩
theorem u64_of {n : Int} (hw : (Lit.int .u64 n).wf = true) : ∃ x : UInt64, n = (x.toNat : Int) := by
  simp [Lit.wf, IntKind.min, IntKind.max, IntKind.bits, IntKind.signed] at hw
  refine ⟨UInt64.ofNat n.toNat, ?_⟩
  rw [UInt64.toNat_ofNat']
  omega
theorem opens_p_u64 {P : Program} {t : TypeId} (ht : P.underlying t = some (.int .u64)) (hc : P.cellsOf t = 1) : Kit.Opens P t 1 (rP (fun n : UInt64 => [.val (.int .u64 (n.toNat : Int))]) fun _ => True) :=
  ⟨hc, fun H enc w base spare held fuel cs x h => by
    obtain ⟨n, e, _, hw⟩ := DataW.trod_int ht h
    obtain ⟨b, rfl⟩ := u64_of hw
    exact ⟨b, by rw [e]; exact .cons (.val _ rfl) .nil, trivial⟩⟩
theorem i64_of {n : Int} (hw : (Lit.int .i64 n).wf = true) : Md.I64 n := by
  simp [Lit.wf, IntKind.min, IntKind.max, IntKind.bits, IntKind.signed] at hw
  unfold Md.I64
  omega
theorem opens_p_bool {P : Program} {t : TypeId} (ht : P.underlying t = some .bool) (hc : P.cellsOf t = 1) : Kit.Opens P t 1 (rP (fun n : Bool => [.val (.bool n)]) fun _ => True) :=
  ⟨hc, fun H enc w base spare held fuel cs x h => by
    obtain ⟨n, e, _⟩ := DataW.trod_bool ht h
    exact ⟨n, by rw [e]; exact .cons (.val _ rfl) .nil, trivial⟩⟩
theorem str_of (b : ByteArray) : ∃ l : List UInt8, b = ⟨l.toArray⟩ := ⟨b.data.toList, by apply ByteArray.ext; simp⟩
theorem opens_p_str {P : Program} {t : TypeId} (ht : P.underlying t = some .string) (hc : P.cellsOf t = 1) : Kit.Opens P t 1 (rP (fun l : List UInt8 => [.val (Sv l)]) fun _ => True) :=
  ⟨hc, fun H enc w base spare held fuel cs x h => by
    obtain ⟨s, e, _, hs⟩ := DataW.trod_string ht h
    obtain ⟨l, rfl⟩ := str_of s
    exact ⟨l, by rw [e]; exact .cons (.val _ rfl) .nil, trivial⟩⟩
theorem opens_p_weaken {α : Type} {P : Program} {t : TypeId} {n : Nat} {f g : α → List CV} {p q : α → Prop} (h : Kit.Opens P t n (rP f p)) (hf : ∀ x, f x = g x) (hp : ∀ x, p x → q x) : Kit.Opens P t n (rP g q) :=
  ⟨h.1, fun H enc w base spare held fuel cs x k => by
    obtain ⟨a, h1, h2⟩ := h.2 H enc w base spare held fuel cs x k
    exact ⟨a, by rw [← hf]; exact h1, hp a h2⟩⟩
theorem opens_p_slice {α : Type} [Inhabited α] {P : Program} {t e : TypeId} {size : Nat} {f : α → List CV} {p : α → Prop} (h0 : 0 < size) (hs : ∀ x, (f x).length = size) (ht : P.underlying t = some (.slice e)) (hc : P.cellsOf t = 1) (ho : Kit.Opens P e size (rP f p)) : Kit.Opens P t 1 (rP (fun l => [CV.ls f l]) fun l => ∀ x ∈ l, p x) := by
  refine ⟨hc, fun H enc w base spare held fuel cs x h => ?_⟩
  rcases Deep.open_slice ht h with ⟨e, _⟩ | ⟨a, len, cap, m, n, D, Pl, e, hb, hl, hm, hmm, hx, hel⟩
  · exact ⟨[], by rw [e]; exact ⟨.cons (.nil _) .nil, fun x hx => by cases hx⟩⟩
  · have hml : len ≤ m := by rw [hmm]; split <;> omega
    rw [ho.1] at hel hx
    have key : ∀ k, k ≤ len → ∃ xs : List α, (∀ x ∈ xs, p x) ∧ xs.length = k ∧ ∀ (i : Nat) (y : α), xs[i]? = some y → ∀ (j : Nat) (c : CV), (f y)[j]? = some c → ∃ u, w.cell? (a.add (i * size + j)) = some u ∧ RepC NoA w c u := by
      intro k
      induction k with
      | zero => exact fun _ => ⟨[], fun x hx => (by cases hx), rfl, fun i y hy => by simp at hy⟩
      | succ k ih =>
        intro hk
        obtain ⟨xs, hxp, hxl, hcell⟩ := ih (by omega)
        obtain ⟨cs', hcs, htr⟩ := hel k (by omega)
        obtain ⟨_, hcl, hat⟩ := World.cells?_some hcs
        obtain ⟨y, hy⟩ := ho.2 _ _ _ _ _ _ _ _ _ htr
        have hy' : All2 (RepC NoA w) (f y) cs' := hy.1
        refine ⟨xs ++ [y], fun z hz => by (rcases List.mem_append.1 hz with hz | hz; exact hxp z hz; rw [List.mem_singleton.1 hz]; exact hy.2), by simp [hxl], fun i z hz j c hj => ?_⟩
        by_cases hi : i < xs.length
        · rw [List.getElem?_append_left hi] at hz
          exact hcell i z hz j c hj
        · rw [List.getElem?_append_right (by omega)] at hz
          have hi0 : i = k := by
            have := (List.getElem?_eq_some_iff.1 hz).1
            simp at this
            omega
          subst hi0
          have hzy : y = z := by rw [hxl, Nat.sub_self] at hz; simpa using hz
          subst hzy
          obtain ⟨u, hu, hr⟩ := hy'.get hj
          have hj2 : j < size := by
            have := (List.getElem?_eq_some_iff.1 hj).1
            rw [hs] at this
            exact this
          have h3 := hat j hj2
          rw [Deep.add_add, hu] at h3
          exact ⟨u, h3, hr⟩
    obtain ⟨xs, hxp, hxl, hcell⟩ := key len (Nat.le_refl _)
    refine ⟨xs, ?_, hxp⟩
    rw [e]
    refine .cons ?_ .nil
    show RepC NoA w (.slc xs.length (lsEl f xs)) (.slice (some a) len cap)
    rw [hxl]
    have hget : ∀ i, i < len → xs[i]? = some (xs.getD i default) := fun i hi => by
      have : i < xs.length := by omega
      simp [List.getD, this]
    rcases Nat.eq_zero_or_pos len with hl0 | hl0
    · rw [hl0]; exact .emp _ a cap hm
    · have hf0 : ∃ c, (f (xs.getD 0 default))[0]? = some c := ⟨_, List.getElem?_eq_getElem (by rw [hs]; exact h0)⟩
      obtain ⟨c0, hc0⟩ := hf0
      obtain ⟨u0, hu0, _⟩ := hcell 0 _ (hget 0 hl0) 0 c0 hc0
      have hblk : a.block < w.heap.size := by
        have := World.block_lt_of_cell? w _ hu0
        rwa [show (a.add (0 * size + 0)).block = a.block from by unfold Addr.add; split <;> simp_all] at this
      obtain ⟨b, off, spot⟩ := a
      have hsp : spot = none := by
        have := World.cell?_spot hu0
        unfold Addr.add at this
        split at this <;> simp_all
      subst hsp
      have hadd : ∀ j, (⟨b, off, none⟩ : Addr).add j = ⟨b, off + j, none⟩ := fun j => by unfold Addr.add; split <;> simp_all
      refine RepC.slc len _ size b off cap (fun i j => (w.cell? ⟨b, off + (i * size + j), none⟩).getD undef) hblk (fun h => h) hl hm (fun i _ => hs _) (fun i j c hi hj => ?_) (fun i j c hi hj => ?_)
      · obtain ⟨u, hu, _⟩ := hcell i _ (hget i hi) j c hj
        rw [hadd] at hu
        rw [hu]; rfl
      · obtain ⟨u, hu, hr⟩ := hcell i _ (hget i hi) j c hj
        rw [hadd] at hu
        rw [hu]; exact hr
theorem all2_join {R : CV → Value → Prop} {xs ys : List CV} {cs : List Value} {o k m : Nat} (h1 : All2 R xs ((cs.drop o).take k)) (h2 : All2 R ys ((cs.drop (o + k)).take m)) : All2 R (xs ++ ys) ((cs.drop o).take (k + m)) := by
  rw [List.take_add, List.drop_drop]
  exact h1.append h2
theorem all2_whole {R : CV → Value → Prop} {xs : List CV} {cs : List Value} {n : Nat} (h : All2 R xs ((cs.drop 0).take n)) (hl : cs.length = n) : All2 R xs cs := by
  rw [List.drop_zero, List.take_of_length_le (by omega)] at h
  exact h
/-- A field of a struct that came in. -/
theorem field_p {α : Type} {P : Program} {f : Field} {n : Nat} {g : α → List CV} {p : α → Prop} (ho : Kit.Opens P f.type n (rP g p)) {H : Type} {enc : TypeId × Value → H} {w : World} {base : Nat} {spare : Nat → Bool} {held : Bool} {fuel : Nat} {cs : List Value} {ys : List (DataW H × List MemPlace)} {j : Nat}
    (hf : DataW.trod enc P w base spare held fuel f.type ((cs.drop f.offset).take (P.cellsOf f.type)) = ys[j]?) (hj : j < ys.length) : ∃ a, All2 (RepC NoA w) (g a) ((cs.drop f.offset).take n) ∧ p a := by
  rw [List.getElem?_eq_getElem hj, ho.1] at hf
  exact ho.2 _ _ _ _ _ _ _ _ _ hf
section
variable {w : World}
theorem in_p {α : Type} {f : α → CV} {p : α → Prop} {B : Nat} {a : α} {v : Value} (h : rP (fun x => [f x]) p w B a [v]) : InV w (.one (f a)) v := by
  cases h.1 with
  | cons k _ => exact in_c k
theorem in_agg {cs : List CV} {v : Array Value} (h : All2 (RepC NoA w) cs v.toList) : InV w (.agg cs) (.agg v) :=
  ⟨v.toList, by simp, h.imp fun c u k => by
    have := in_c k
    exact this⟩
end
end Abs
end Go.Proofs.Ytbnjdkpangmneaa
