/-
  The mixing of 64-bit words, as plain mathematics: no Go, no program. 'mixI', 'unmixI', 'combineI', 'textI' are spelled as the walks come to them; 'mix' and 'unmix' are the same on bit vectors.
-/
import Derived.WalkKit
namespace Go.Proofs.Ytbomaagbjeiliaa
namespace Hash

/-- A word as an integer. -/
def W (v : BitVec 64) : Int := (v.toNat : Int)
/-- The integers that fit 64 bits. -/
def U64 (x : Int) : Prop := 0 ≤ x ∧ x < 18446744073709551616

theorem U64.w (v : BitVec 64) : U64 (W v) := ⟨by unfold W; omega, by unfold W; have := v.isLt; omega⟩
theorem U64.wrap (n : Int) : U64 (IntKind.u64.wrap n) := by
  unfold U64; rw [IntKind.wrap_u64]; omega
theorem U64.nat {n : Nat} (h : n < 18446744073709551616) : U64 (n : Int) := ⟨by omega, by omega⟩
theorem W_inj {a b : BitVec 64} (h : W a = W b) : a = b := by
  unfold W at h; exact BitVec.eq_of_toNat_eq (by omega)
theorem U64.word {x : Int} (h : U64 x) : x = W (BitVec.ofInt 64 x) := by
  obtain ⟨h0, h1⟩ := h
  unfold W; rw [BitVec.toNat_ofInt]; omega
theorem ofInt_W (v : BitVec 64) : BitVec.ofInt 64 (W v) = v := by
  unfold W; apply BitVec.eq_of_toNat_eq; rw [BitVec.toNat_ofInt]; have := v.isLt; omega
theorem wrap_W (n : Int) : IntKind.u64.wrap n = W (BitVec.ofInt 64 n) := by
  unfold W; rw [IntKind.wrap_u64, BitVec.toNat_ofInt]; omega
theorem wrap_U64 {x : Int} (h : U64 x) : IntKind.u64.wrap x = x := by
  rw [IntKind.wrap_u64]; unfold U64 at h; omega
theorem wrap_i64_inj {a b : Int} (ha : -9223372036854775808 ≤ a) (ha' : a < 9223372036854775808) (hb : -9223372036854775808 ≤ b) (hb' : b < 9223372036854775808)
    (h : IntKind.u64.wrap a = IntKind.u64.wrap b) : a = b := by
  rw [IntKind.wrap_u64, IntKind.wrap_u64] at h; omega

theorem xor_W (a b : BitVec 64) : bits .xor .u64 (W a) (W b) = W (a ^^^ b) := by
  unfold W; rw [u64_xor_nat _ _ a.isLt b.isLt, BitVec.toNat_xor]
theorem shr_W (a : BitVec 64) (k : Nat) (p : Int) (hp : p = ((2 ^ k : Nat) : Int)) : W a / p = W (a >>> k) := by
  unfold W; rw [BitVec.toNat_ushiftRight, Nat.shiftRight_eq_div_pow, hp, Int.natCast_ediv]
theorem mul_W (a b : BitVec 64) : IntKind.u64.wrap (W a * W b) = W (a * b) := by
  unfold W; rw [IntKind.wrap_u64, BitVec.toNat_mul]
  omega
theorem add_W (a b : BitVec 64) : IntKind.u64.wrap (W a + W b) = W (a + b) := by
  unfold W; rw [IntKind.wrap_u64, BitVec.toNat_add]
  omega
theorem sub_W (a b : BitVec 64) : IntKind.u64.wrap (W a - W b) = W (a - b) := by
  unfold W; rw [IntKind.wrap_u64, BitVec.toNat_sub]
  have := a.isLt; have := b.isLt
  omega

/-! ### the mixer -/
def mix (x : BitVec 64) : BitVec 64 :=
  let a := (x ^^^ x >>> 30) * 13787848793156543929#64
  let b := (a ^^^ a >>> 27) * 10723151780598845931#64
  b ^^^ b >>> 31
def uns (y : BitVec 64) (s : Nat) : BitVec 64 := y ^^^ y >>> s ^^^ y >>> (2 * s)
def unmix (y : BitVec 64) : BitVec 64 :=
  let b := uns y 31 * 3573116690164977347#64
  let a := uns b 27 * 10871156337175269513#64
  uns a 30

theorem uns_xs (x : BitVec 64) (s : Nat) (h : 64 ≤ 3 * s) : uns (x ^^^ x >>> s) s = x := by
  unfold uns
  apply BitVec.eq_of_getLsbD_eq
  intro i hi
  simp only [BitVec.getLsbD_xor, BitVec.getLsbD_ushiftRight]
  have h3 : x.getLsbD (s + (2 * s + i)) = false := BitVec.getLsbD_of_ge _ _ (by omega)
  rw [h3, show s + (s + i) = 2 * s + i from by omega]
  cases x.getLsbD i <;> cases x.getLsbD (s + i) <;> cases x.getLsbD (2 * s + i) <;> rfl
theorem xs_uns (y : BitVec 64) (s : Nat) (h : 64 ≤ 3 * s) : uns y s ^^^ uns y s >>> s = y := by
  unfold uns
  apply BitVec.eq_of_getLsbD_eq
  intro i hi
  simp only [BitVec.getLsbD_xor, BitVec.getLsbD_ushiftRight]
  have h3 : y.getLsbD (2 * s + (s + i)) = false := BitVec.getLsbD_of_ge _ _ (by omega)
  rw [h3, show s + (s + i) = 2 * s + i from by omega]
  cases y.getLsbD i <;> cases y.getLsbD (s + i) <;> cases y.getLsbD (2 * s + i) <;> rfl

theorem c1_inv : 13787848793156543929#64 * 10871156337175269513#64 = 1#64 := by decide
theorem c2_inv : 10723151780598845931#64 * 3573116690164977347#64 = 1#64 := by decide
theorem c1_inv' : 10871156337175269513#64 * 13787848793156543929#64 = 1#64 := by decide
theorem c2_inv' : 3573116690164977347#64 * 10723151780598845931#64 = 1#64 := by decide

theorem unmix_mix (x : BitVec 64) : unmix (mix x) = x := by
  unfold unmix mix
  simp only []
  rw [uns_xs _ 31 (by omega), BitVec.mul_assoc, c2_inv, BitVec.mul_one, uns_xs _ 27 (by omega), BitVec.mul_assoc, c1_inv, BitVec.mul_one, uns_xs _ 30 (by omega)]
theorem mix_unmix (x : BitVec 64) : mix (unmix x) = x := by
  unfold unmix mix
  simp only []
  rw [xs_uns _ 30 (by omega), BitVec.mul_assoc, c1_inv', BitVec.mul_one, xs_uns _ 27 (by omega), BitVec.mul_assoc, c2_inv', BitVec.mul_one, xs_uns _ 31 (by omega)]
theorem mix_inj {a b : BitVec 64} (h : mix a = mix b) : a = b := by
  have := congrArg unmix h; rwa [unmix_mix, unmix_mix] at this
theorem unmix_inj {a b : BitVec 64} (h : unmix a = unmix b) : a = b := by
  have := congrArg mix h; rwa [mix_unmix, mix_unmix] at this

/-! ### as the walks spell it -/
def mixA (x : Int) : Int := IntKind.u64.wrap (bits .xor .u64 x (x / 1073741824) * 13787848793156543929)
def mixB (a : Int) : Int := IntKind.u64.wrap (bits .xor .u64 a (a / 134217728) * 10723151780598845931)
def mixI (x : Int) : Int := bits .xor .u64 (mixB (mixA x)) (mixB (mixA x) / 2147483648)
theorem mixI_W (v : BitVec 64) : mixI (W v) = W (mix v) := by
  unfold mixI mixB mixA mix
  rw [shr_W v 30 1073741824 rfl, xor_W, show (13787848793156543929 : Int) = W 13787848793156543929#64 from by decide, mul_W,
    shr_W _ 27 134217728 rfl, xor_W, show (10723151780598845931 : Int) = W 10723151780598845931#64 from by decide, mul_W, shr_W _ 31 2147483648 rfl, xor_W]
theorem mixI_u64 {x : Int} (h : U64 x) : U64 (mixI x) := by rw [h.word, mixI_W]; exact U64.w _
theorem mixI_inj {x y : Int} (hx : U64 x) (hy : U64 y) (h : mixI x = mixI y) : x = y := by
  rw [hx.word, hy.word, mixI_W, mixI_W] at h
  rw [hx.word, hy.word, mix_inj (W_inj h)]

def unsI (y p q : Int) : Int := bits .xor .u64 (bits .xor .u64 y (y / p)) (y / q)
theorem unsI_W (v : BitVec 64) (s : Nat) (p q : Int) (hp : p = ((2 ^ s : Nat) : Int)) (hq : q = ((2 ^ (2 * s) : Nat) : Int)) : unsI (W v) p q = W (uns v s) := by
  unfold unsI uns
  rw [shr_W v s _ hp, xor_W, shr_W v (2 * s) _ hq, xor_W]
def unmixI (y : Int) : Int :=
  unsI (IntKind.u64.wrap (unsI (IntKind.u64.wrap (unsI y 2147483648 4611686018427387904 * 3573116690164977347)) 134217728 18014398509481984 * 10871156337175269513)) 1073741824 1152921504606846976
theorem unmixI_W (v : BitVec 64) : unmixI (W v) = W (unmix v) := by
  unfold unmixI unmix
  rw [unsI_W v 31 2147483648 4611686018427387904 rfl rfl, show (3573116690164977347 : Int) = W 3573116690164977347#64 from by decide, mul_W, unsI_W _ 27 134217728 18014398509481984 rfl rfl,
    show (10871156337175269513 : Int) = W 10871156337175269513#64 from by decide, mul_W, unsI_W _ 30 1073741824 1152921504606846976 rfl rfl]
theorem unmixI_u64 {x : Int} (h : U64 x) : U64 (unmixI x) := by rw [h.word, unmixI_W]; exact U64.w _
theorem unmixI_inj {x y : Int} (hx : U64 x) (hy : U64 y) (h : unmixI x = unmixI y) : x = y := by
  rw [hx.word, hy.word, unmixI_W, unmixI_W] at h
  rw [hx.word, hy.word, unmix_inj (W_inj h)]
theorem unmixI_mixI {x : Int} (h : U64 x) : unmixI (mixI x) = x := by
  rw [h.word, mixI_W, unmixI_W, unmix_mix]
theorem mixI_unmixI {x : Int} (h : U64 x) : mixI (unmixI x) = x := by
  rw [h.word, unmixI_W, mixI_W, mix_unmix]

/-! ### Combine -/
def combineI (h x : Int) : Int := mixI (IntKind.u64.wrap (h + IntKind.u64.wrap (11400714819323198485 * IntKind.u64.wrap (x + 1))))
theorem combineI_u64 (h x : Int) : U64 (combineI h x) := mixI_u64 (U64.wrap _)
theorem combineI_left {a b x : Int} (ha : U64 a) (hb : U64 b) (h : combineI a x = combineI b x) : a = b := by
  have h1 := mixI_inj (U64.wrap _) (U64.wrap _) h
  generalize IntKind.u64.wrap (11400714819323198485 * IntKind.u64.wrap (x + 1)) = p at *
  rw [IntKind.wrap_u64, IntKind.wrap_u64] at h1
  unfold U64 at ha hb
  omega
theorem golden_inv : 11400714819323198485#64 * 17428512612931826493#64 = 1#64 := by decide
theorem golden_cancel {a b : BitVec 64} (h : 11400714819323198485#64 * a = 11400714819323198485#64 * b) : a = b := by
  have h2 : 17428512612931826493#64 * (11400714819323198485#64 * a) = 17428512612931826493#64 * (11400714819323198485#64 * b) := by rw [h]
  rw [← BitVec.mul_assoc, ← BitVec.mul_assoc, BitVec.mul_comm 17428512612931826493#64, golden_inv, BitVec.one_mul, BitVec.one_mul] at h2
  exact h2
theorem combineI_right {a x y : Int} (hx : U64 x) (hy : U64 y) (h : combineI a x = combineI a y) : x = y := by
  have h1 := mixI_inj (U64.wrap _) (U64.wrap _) h
  have h2 : IntKind.u64.wrap (11400714819323198485 * IntKind.u64.wrap (x + 1)) = IntKind.u64.wrap (11400714819323198485 * IntKind.u64.wrap (y + 1)) := by
    have a1 := U64.wrap (11400714819323198485 * IntKind.u64.wrap (x + 1))
    have a2 := U64.wrap (11400714819323198485 * IntKind.u64.wrap (y + 1))
    generalize IntKind.u64.wrap (11400714819323198485 * IntKind.u64.wrap (x + 1)) = p at *
    generalize IntKind.u64.wrap (11400714819323198485 * IntKind.u64.wrap (y + 1)) = q at *
    rw [IntKind.wrap_u64, IntKind.wrap_u64] at h1
    unfold U64 at a1 a2
    omega
  rw [(U64.wrap (x + 1)).word, (U64.wrap (y + 1)).word, show (11400714819323198485 : Int) = W 11400714819323198485#64 from by decide, mul_W, mul_W] at h2
  have h3 := golden_cancel (W_inj h2)
  have h4 : IntKind.u64.wrap (x + 1) = IntKind.u64.wrap (y + 1) := by
    rw [(U64.wrap (x + 1)).word, (U64.wrap (y + 1)).word, h3]
  rw [IntKind.wrap_u64, IntKind.wrap_u64] at h4
  unfold U64 at hx hy
  omega

/-! ### Text -/
def textStep (h : Int) (c : UInt8) : Int := IntKind.u64.wrap (bits .xor .u64 h (IntKind.u64.wrap (c.toNat : Int)) * 1099511628211)
def textFold (l : List UInt8) : Int := l.foldl textStep 14695981039346656037
theorem textStep_u64 (h : Int) (c : UInt8) : U64 (textStep h c) := U64.wrap _
theorem textFold_u64 (l : List UInt8) : U64 (textFold l) := by
  unfold textFold
  have : ∀ (l : List UInt8) (h : Int), U64 h → U64 (l.foldl textStep h) := by
    intro l
    induction l with
    | nil => exact fun h hh => hh
    | cons c r ih => exact fun h _ => ih _ (textStep_u64 h c)
  exact this l _ ⟨by omega, by omega⟩
theorem textFold_snoc (l : List UInt8) (c : UInt8) : textFold (l ++ [c]) = textStep (textFold l) c := by
  unfold textFold; rw [List.foldl_append]; rfl
def textI (l : List UInt8) : Int := mixI (textFold l)
theorem textI_u64 (l : List UInt8) : U64 (textI l) := mixI_u64 (textFold_u64 l)

end Hash
end Go.Proofs.Ytbomaagbjeiliaa
