/-
  A reading of Go's memory by values, sixteenth part: the rules as a printed walk uses them. No program of Go's is named here.
-/
import Derived.Test.YtbnjdkpangmneaaAbsO
namespace Go.Proofs.Ytbnjdkpangmneaa
open Go.ChangeShapes Go.WideShapes Go.RowKit
set_option linter.unusedVariables false
set_option linter.unusedSimpArgs false
namespace Abs
def Det (r : AV) (h : Heap) : AV → Heap → Prop := fun r' h' => r' = r ∧ h' = h

theorem wrap_i64 {n : Int} (h : -9223372036854775808 ≤ n) (h' : n ≤ 9223372036854775807) : IntKind.i64.wrap n = n := by
  simp [IntKind.wrap, IntKind.bits, IntKind.signed]
  omega
theorem wrap_u64 {n : Int} (h : 0 ≤ n) (h' : n ≤ 18446744073709551615) : IntKind.u64.wrap n = n := by
  simp [IntKind.wrap, IntKind.bits, IntKind.signed]
  omega
theorem wrap_u8 {n : Int} (h : 0 ≤ n) (h' : n ≤ 255) : IntKind.u8.wrap n = n := by
  simp [IntKind.wrap, IntKind.bits, IntKind.signed]
  omega
theorem wrap_u16 {n : Int} (h : 0 ≤ n) (h' : n ≤ 65535) : IntKind.u16.wrap n = n := by
  simp [IntKind.wrap, IntKind.bits, IntKind.signed]
  omega
theorem wrap_u32 {n : Int} (h : 0 ≤ n) (h' : n ≤ 4294967295) : IntKind.u32.wrap n = n := by
  simp [IntKind.wrap, IntKind.bits, IntKind.signed]
  omega

theorem ArgC.mk {H : Heap} {g : Nat → Nat} {L : List Nat} {c c' : CV} (h : c'.ren g = c) : ArgC H g L c c' := h ▸ .ren c'
inductive EvAll (s : ASt) : List Operand → List AV → Prop
  | nil : EvAll s [] []
  | cons {x : Operand} {v : AV} {xs : List Operand} {vs : List AV} (h : s.ev x = v) (t : EvAll s xs vs) : EvAll s (x :: xs) (v :: vs)
theorem map_ev {s : ASt} : ∀ {xs : List Operand} {vs : List AV}, EvAll s xs vs → xs.map s.ev = vs
  | _, _, .nil => rfl
  | _, _, .cons h t => by rw [List.map_cons, h, map_ev t]
section
variable {P : Program} {s : ASt} {d : Option Nat} {ty t : TypeId} {pos : String} {af : Array Edge} {g : Option (Nat × Bool)}
theorem zip_map_eq : ∀ (parts : List (Nat × Operand)), (parts.map (·.1)).zip (parts.map fun p => s.ev p.2) = parts.map fun p => (p.1, s.ev p.2)
  | [] => rfl
  | p :: r => by simp [zip_map_eq r]
theorem ev_build' {parts : List (Nat × Operand)} {vs : List AV} {out : List CV} (hx : parts.map (fun p => s.ev p.2) = vs) {z : Value} [kz : TZero P t z] {zs : List Value} (hz : z.cells = zs.toArray) (hone : zs.all (·.oneCell') = true) {ps : List (Nat × Nat)} [hp : TPlaces P t ps]
    (ho : fillC (fun (i : Nat) => ps[i]?) (zs.map CV.val) ((parts.map (·.1)).zip vs) = some out) (hd : dOk s d = true) : Ev P [] s ⟨d, .build t parts.toArray, ty, pos, af, g⟩ (· = s.put d (.agg out)) := by
  refine ev_build (zs := zs) hz hone ?_ hd
  rw [← ho, ← hx, zip_map_eq]
theorem ev_slice_lit' (id : Nat) (hid : look s.heap id = none) {parts : List (Nat × Operand)} {vs : List AV} (hx : parts.map (fun p => s.ev p.2) = vs) {L sz bytes e : Nat} [kk : TSl P t e sz bytes] {z : Value} [kz : TZero P e z] {zs : List Value} (hz : z.cells = zs.toArray) (hone : zs.all (·.oneCell') = true) {out : List CV}
    (ho : fillC (fun i => some (i * sz, sz)) ((List.range (L * sz)).map fun i => CV.val (zs.getD (i % zs.length) undef)) ((parts.map (·.1)).zip vs) = some out) (hrd : out.all CV.read = true) (hlen : out.length = L * sz) (hL : Nat.ble (L * sz) 16777216 = true) {el : Nat → List CV} (hel : ∀ i, i < L → (out.drop (i * sz)).take sz = el i) (hd : dOk s d = true) :
    Ev P [] s ⟨d, .buildSlice t L parts.toArray, ty, pos, af, g⟩ (· = ASt.put { s with heap := (id, some (.row e sz L el)) :: s.heap } d (.one (.own id))) := by
  refine ev_slice_lit id hid (zs := zs) hz hone ?_ hrd hlen hL hel hd
  rw [← ho, ← hx, zip_map_eq]

/-- A call that hands nothing in and gives back values alone. -/
theorem ev_call_v {f : FuncId} [hF : IsFn P f] {args : List Operand} {tys : Array TypeId} {cargs xs : List AV} {r : AV} (hfn : FnC P f cargs [] (Det r [])) (hxs : args.map s.ev = xs) (L : List Nat) (hargs : All2 (ArgV s.heap (gOf []) L) xs cargs)
    (hc : cargs.all (fun x => x.ids.isEmpty) = true) (hr : r.ids.isEmpty = true) (hren : r.ren (gOf []) = r) (hL : L = [] ∨ r.scal = true) (hd : dOk s d = true) :
    Ev P [] s ⟨d, .call { callee := .value (.func f), args := args.toArray, argTypes := tys }, ty, pos, af, g⟩ (· = s.put d r) := by
  subst hxs
  have k : CallOk s [] L [] (args.map s.ev) cargs [] (Det r []) := by
    refine ⟨List.nodup_nil, hargs, fun x hx id hid => ?_, fun id b hb => (by cases hb), fun i hi => (by cases hi), fun id _ => (by simp), fun id hid => (by cases hid), ?_⟩
    · have := List.all_eq_true.1 hc x hx
      rw [List.isEmpty_iff] at this
      rw [this] at hid; cases hid
    · rintro r' h' ⟨rfl, rfl⟩
      refine ⟨fun id hid => (by cases hid), fun id hid => ?_, fun id b hb => (by cases hb), hL.imp id fun h => ⟨h, fun id b hb => (by cases hb)⟩⟩
      rw [List.isEmpty_iff] at hr
      rw [hr] at hid; cases hid
  refine fun U T w0 a w hv ok K Q hK => ev_call (P := P) (d := d) (ty := ty) (pos := pos) (af := af) (g := g) (tys := tys) [] L [] hfn k hd U T w0 a w hv ok K Q fun s' v w' hv' hs => ?_
  obtain ⟨r', h', ⟨rfl, rfl⟩, rfl⟩ := hs
  refine hK _ v w' hv' ?_
  show ASt.put { s with heap := [] ++ s.heap } d (r'.ren (gOf [])) = _
  rw [hren]
  rfl
/-- A call that gives back values and one new row. -/
theorem ev_call_r {f : FuncId} [hF : IsFn P f] (k : Nat) (hk : look s.heap k = none) {args : List Operand} {tys : Array TypeId} {cargs xs : List AV} {r : AV} {e sz n : Nat} {el : Nat → List CV} (hfn : FnC P f cargs [] (Det r [(0, some (.row e sz n el))])) (hxs : args.map s.ev = xs) (L : List Nat) (hargs : All2 (ArgV s.heap (gOf [k]) L) xs cargs)
    (hc : cargs.all (fun x => x.ids.isEmpty) = true) (hr : r.ids.all (fun i => Nat.beq i 0) = true) (hLk : memB L k = false) (hL : L = [] ∨ (r.scal = true ∧ ∀ i, i < n → (el i).all CV.scal = true)) (hd : dOk s d = true) :
    Ev P [] s ⟨d, .call { callee := .value (.func f), args := args.toArray, argTypes := tys }, ty, pos, af, g⟩ (· = ASt.put { s with heap := (k, some (.row e sz n el)) :: s.heap } d (r.ren (gOf [k]))) := by
  subst hxs
  have h0 : ∀ i b, look [(0, some (Blk.row e sz n el))] i = some b → i = 0 ∧ b = .row e sz n el := fun i b hb => by
    rw [look_cons] at hb
    by_cases h : 0 = i
    · rw [if_pos h] at hb; injection hb with hb; exact ⟨h.symm, hb.symm⟩
    · rw [if_neg h] at hb; cases hb
  have k : CallOk s [k] L [] (args.map s.ev) cargs [] (Det r [(0, some (.row e sz n el))]) := by
    refine ⟨by simp, hargs, fun x hx id hid => ?_, fun id b hb => (by cases hb), fun i hi _ => ?_, fun id hid hm => ?_, fun id hid => (by cases hid), ?_⟩
    · have := List.all_eq_true.1 hc x hx
      rw [List.isEmpty_iff] at this
      rw [this] at hid; cases hid
    · have : i = 0 := by simp at hi; exact hi
      subst this
      exact hk
    · simp at hm
      subst hm
      have : memB L id = true := List.any_eq_true.2 ⟨id, hid, Nat.beq_refl id⟩
      rw [hLk] at this; cases this
    · rintro r' h' ⟨rfl, rfl⟩
      refine ⟨fun id hid => ?_, fun id hid => ?_, fun id b hb => ?_, hL.imp id fun h => ⟨h.1, fun id b hb => ?_⟩⟩
      · obtain ⟨b, hb⟩ := Option.isSome_iff_exists.1 hid
        rw [(h0 id b hb).1]; simp
      · have := Nat.eq_of_beq_eq_true (List.all_eq_true.1 hr id hid)
        rw [this]; rfl
      · rw [(h0 id b hb).2]; intro j hj; cases hj
      · rw [(h0 id b hb).2]; exact h.2
  refine fun U T w0 a w hv ok K Q hK => ev_call (P := P) (d := d) (ty := ty) (pos := pos) (af := af) (g := g) (tys := tys) _ L [] hfn k hd U T w0 a w hv ok K Q fun s' v w' hv' hs => ?_
  obtain ⟨r', h', ⟨rfl, rfl⟩, rfl⟩ := hs
  exact hK _ v w' hv' rfl
/-- A call that takes a row of one's own over and gives it back with other contents. -/
theorem ev_call_o {f : FuncId} [hF : IsFn P f] (k : Nat) {args : List Operand} {tys : Array TypeId} {cargs xs : List AV} {r : AV} {e sz n e' sz' n' : Nat} {el el' : Nat → List CV} (hk : look s.heap k = some (.row e sz n el)) (hfn : FnC P f cargs [(0, some (.row e sz n el))] (Det r [(0, some (.row e' sz' n' el'))])) (hxs : args.map s.ev = xs) (L : List Nat) (hargs : All2 (ArgV s.heap (gOf [k]) L) xs cargs)
    (hc : cargs.all (fun x => x.ids.all (fun i => Nat.beq i 0)) = true) (hr : r.ids.all (fun i => Nat.beq i 0) = true) (hLk : memB L k = false) (hL : L = [] ∨ (r.scal = true ∧ ∀ i, i < n' → (el' i).all CV.scal = true)) (hd : dOk s d = true) :
    Ev P [k] s ⟨d, .call { callee := .value (.func f), args := args.toArray, argTypes := tys }, ty, pos, af, g⟩ (· = ASt.put { s.kill k with heap := (k, some (.row e' sz' n' el')) :: (s.kill k).heap } d (r.ren (gOf [k]))) := by
  subst hxs
  have h0 : ∀ {e sz n : Nat} {el : Nat → List CV} i b, look [(0, some (Blk.row e sz n el))] i = some b → i = 0 ∧ b = .row e sz n el := fun i b hb => by
    rw [look_cons] at hb
    by_cases h : 0 = i
    · rw [if_pos h] at hb; injection hb with hb; exact ⟨h.symm, hb.symm⟩
    · rw [if_neg h] at hb; cases hb
  have kk : CallOk s [k] L [k] (args.map s.ev) cargs [(0, some (.row e sz n el))] (Det r [(0, some (.row e' sz' n' el'))]) := by
    refine ⟨by simp, hargs, fun x hx id hid => ?_, fun id b hb => ?_, fun i hi hn => ?_, fun id hid hm => ?_, fun id hid => ⟨0, by simp, ?_, e, sz, n, el, rfl⟩, ?_⟩
    · have h1 := List.all_eq_true.1 hc x hx
      have h2 := Nat.eq_of_beq_eq_true (List.all_eq_true.1 h1 id hid)
      rw [h2]; rfl
    · obtain ⟨rfl, rfl⟩ := h0 id b hb
      exact ⟨by simp, hk, fun j hj => (by cases hj), fun _ => by simp [gOf]⟩
    · have : i = 0 := by simp at hi; exact hi
      subst this
      cases hn
    · simp at hm
      subst hm
      have : memB L id = true := List.any_eq_true.2 ⟨id, hid, Nat.beq_refl id⟩
      rw [hLk] at this; cases this
    · simp at hid; exact hid.symm
    · rintro r' h' ⟨rfl, rfl⟩
      refine ⟨fun id hid => ?_, fun id hid => ?_, fun id b hb => ?_, hL.imp id fun h => ⟨h.1, fun id b hb => ?_⟩⟩
      · obtain ⟨b, hb⟩ := Option.isSome_iff_exists.1 hid
        rw [(h0 id b hb).1]; simp
      · have := Nat.eq_of_beq_eq_true (List.all_eq_true.1 hr id hid)
        rw [this]; rfl
      · rw [(h0 id b hb).2]; intro j hj; cases hj
      · rw [(h0 id b hb).2]; exact h.2
  refine fun U T w0 a w hv ok K Q hK => ev_call (P := P) (d := d) (ty := ty) (pos := pos) (af := af) (g := g) (tys := tys) _ L _ hfn kk hd U T w0 a w hv ok K Q fun s' v w' hv' hs => ?_
  obtain ⟨r', h', ⟨rfl, rfl⟩, rfl⟩ := hs
  exact hK _ v w' hv' rfl

/-! ### the same rules, with states that are not written out -/
theorem fn_intro' {f : FuncId} {fn : Func} {c : Code} {args : List AV} {h : Heap} {R : AV → Heap → Prop} (nt : Nat) (hf : P.funcs[f]? = some fn) (hb : fn.body = some c) (hnt : fn.ntmps = nt) (hn : Nat.ble args.length nt = true)
    (haw : AW P c (start nt args h) (EndR P fn (boxesOf h) R)) : FnC P f args h R := by
  subst hnt
  exact fn_intro hf hb hn haw
def ASt.blk (s : ASt) (id : Nat) (b : Blk) : ASt := { s with heap := (id, some b) :: s.heap }
variable {x y c : Operand} {cs : List CV} {id off n e sz bytes m : Nat} {agg : Bool} {el el' el2 : Nat → List CV}
theorem st_move {a : CV} (hx : s.ev x = .one a) (hd : dOk s d = true) : Ev P [] s ⟨d, .move x, ty, pos, af, g⟩ (· = s.put d (.one a)) := ev_move hx hd
theorem st_movea {a : List CV} (hx : s.ev x = .agg a) (hd : dOk s d = true) : Ev P [] s ⟨d, .move x, ty, pos, af, g⟩ (· = s.put d (.agg a)) := ev_move hx hd
theorem st_movet {a : List AV} (hx : s.ev x = .tup a) (hd : dOk s d = true) : Ev P [] s ⟨d, .move x, ty, pos, af, g⟩ (· = s.put d (.tup a)) := ev_move hx hd
theorem st_assign {a : CV} (hx : s.ev x = .one a) (hd : dOk s d = true) : Ev P [] s ⟨d, .assign x, ty, pos, af, g⟩ (· = s.put d (.one a)) := ev_assign hx hd
theorem st_assigna {a : List CV} (hx : s.ev x = .agg a) (hd : dOk s d = true) : Ev P [] s ⟨d, .assign x, ty, pos, af, g⟩ (· = s.put d (.agg a)) := ev_assign hx hd
theorem st_pick_yes {b : Bool} {a : CV} (hc : s.ev c = .one (.val (.bool b))) (hb : b = true) (hx : s.ev x = .one a) (hd : dOk s d = true) : Ev P [] s ⟨d, .pick c x y, ty, pos, af, g⟩ (· = s.put d (.one a)) := ev_pick_yes hc hb hx hd
theorem st_pick_no {b : Bool} {a : CV} (hc : s.ev c = .one (.val (.bool b))) (hb : b = false) (hy : s.ev y = .one a) (hd : dOk s d = true) : Ev P [] s ⟨d, .pick c x y, ty, pos, af, g⟩ (· = s.put d (.one a)) := ev_pick_no hc hb hy hd
theorem st_box (id : Nat) (hid : look s.heap id = none) {r : AV} (hx : s.ev x = r) (hc : r.cells = some cs) (hd : dOk s d = true) : Ev P [] s ⟨d, .box t x, ty, pos, af, g⟩ (· = (s.blk id (.box cs)).put d (.one (.ptr id 0))) := ev_box id hid hx hc hd
theorem st_alloc {cs : List CV} {z : Value} {zs : List Value} [k : TZero P t z] (id : Nat) (hid : look s.heap id = none) (hz : z.cells = zs.toArray) (hone : zs.all (·.oneCell') = true) (hcs : zs.map CV.val = cs) (hd : dOk s d = true) :
    Ev P [] s ⟨d, .alloc t, ty, pos, af, g⟩ (· = (s.blk id (.box cs)).put d (.one (.ptr id 0))) := by subst hcs; exact ev_alloc id hid hz hone hd
theorem st_store {r : AV} {new cs' : List CV} (hx : s.ev x = .one (.ptr id off)) (hb : look s.heap id = some (.box cs)) (hy : s.ev y = r) (hc : r.cells = some new) (hsol : new.all CV.solid = true) [kk : TVar P t agg n] (hn : Nat.beq new.length n = true) (hl : Nat.ble (off + n) cs.length = true) (hd : dOk s d = true) (hcs : cs.take off ++ new ++ cs.drop (off + n) = cs') :
    Ev P [] s ⟨d, .store t x y, ty, pos, af, g⟩ (· = (s.blk id (.box cs')).put d (.one .any)) := by subst hcs; exact ev_store hx hb hy hc hsol (Nat.eq_of_beq_eq_true hn) hl hd
theorem st_append {n' : Nat} (hx : s.ev x = .one (.own id)) (hb : look s.heap id = some (.row e sz n el)) (hy : s.ev y = .one (.slc m el2) ∨ ∃ i2 e2, s.ev y = .one (.own i2) ∧ look s.heap i2 = some (.row e2 sz m el2)) (hs : ∀ i, i < m → (el2 i).length = sz)
    [TSl P t e sz bytes] (hn : n + m = n') (hel : ∀ i, i < n' → el' i = if i < n then el i else el2 (i - n)) (hfit : n' * bytes ≤ 140737488355328) (hmax : n' ≤ maxLen) (hd : dOk s d = true) :
    Ev P [id] s ⟨d, .call { callee := .builtin .append, args := #[x, y], argTypes := #[t, t] }, ty, pos, af, g⟩ (· = ((s.kill id).blk id (.row e sz n' el')).put d (.one (.own id))) := ev_append hx hb hy hs hn hel hfit hmax hd
theorem st_append_nil (id : Nat) (hid : look s.heap id = none) (hx : s.ev x = .one (.val (.slice none 0 0))) (hy : s.ev y = .one (.slc n el) ∨ ∃ i2 e2, s.ev y = .one (.own i2) ∧ look s.heap i2 = some (.row e2 sz n el)) (hs : ∀ i, i < n → (el i).length = sz)
    [TSl P t e sz bytes] (hfit : n * bytes ≤ 140737488355328) (hmax : n ≤ maxLen) (hd : dOk s d = true) :
    Ev P [] s ⟨d, .call { callee := .builtin .append, args := #[x, y], argTypes := #[t, t] }, ty, pos, af, g⟩ (· = (s.blk id (.row e sz n el)).put d (.one (.own id))) := ev_append_nil id hid hx hy hs hfit hmax hd
theorem st_slice_lit {parts : List (Nat × Operand)} {vs : List AV} {L : Nat} {out : List CV} {el : Nat → List CV} [kk : TSl P t e sz bytes] {z : Value} [kz : TZero P e z] {zs : List Value} (id : Nat) (hid : look s.heap id = none) (hx : parts.map (fun p => s.ev p.2) = vs) (hz : z.cells = zs.toArray) (hone : zs.all (·.oneCell') = true)
    (ho : fillC (fun i => some (i * sz, sz)) ((List.range (L * sz)).map fun i => CV.val (zs.getD (i % zs.length) undef)) ((parts.map (·.1)).zip vs) = some out) (hrd : out.all CV.read = true) (hlen : out.length = L * sz) (hL : Nat.ble (L * sz) 16777216 = true) (hel : ∀ i, i < L → (out.drop (i * sz)).take sz = el i) (hd : dOk s d = true) :
    Ev P [] s ⟨d, .buildSlice t L parts.toArray, ty, pos, af, g⟩ (· = (s.blk id (.row e sz L el)).put d (.one (.own id))) := ev_slice_lit' id hid hx (zs := zs) hz hone ho hrd hlen hL hel hd
theorem st_call_r {f : FuncId} [hF : IsFn P f] {args : List Operand} {tys : Array TypeId} {cargs xs : List AV} {r r' : AV} {e sz n : Nat} {el : Nat → List CV} (k : Nat) (hk : look s.heap k = none) (hfn : FnC P f cargs [] (Det r [(0, some (.row e sz n el))])) (hxs : args.map s.ev = xs) (L : List Nat) (hargs : All2 (ArgV s.heap (gOf [k]) L) xs cargs)
    (hc : cargs.all (fun x => x.ids.isEmpty) = true) (hr : r.ids.all (fun i => Nat.beq i 0) = true) (hLk : memB L k = false) (hL : L = [] ∨ (r.scal = true ∧ ∀ i, i < n → (el i).all CV.scal = true)) (hd : dOk s d = true) (hr' : r.ren (gOf [k]) = r') :
    Ev P [] s ⟨d, .call { callee := .value (.func f), args := args.toArray, argTypes := tys }, ty, pos, af, g⟩ (· = (s.blk k (.row e sz n el)).put d r') := by subst hr'; exact ev_call_r k hk hfn hxs L hargs hc hr hLk hL hd
theorem st_call_o {f : FuncId} [hF : IsFn P f] {args : List Operand} {tys : Array TypeId} {cargs xs : List AV} {r r' : AV} {e sz n e' sz' n' : Nat} {el el' : Nat → List CV} (k : Nat) (hk : look s.heap k = some (.row e sz n el)) (hfn : FnC P f cargs [(0, some (.row e sz n el))] (Det r [(0, some (.row e' sz' n' el'))])) (hxs : args.map s.ev = xs) (L : List Nat) (hargs : All2 (ArgV s.heap (gOf [k]) L) xs cargs)
    (hc : cargs.all (fun x => x.ids.all (fun i => Nat.beq i 0)) = true) (hr : r.ids.all (fun i => Nat.beq i 0) = true) (hLk : memB L k = false) (hL : L = [] ∨ (r.scal = true ∧ ∀ i, i < n' → (el' i).all CV.scal = true)) (hd : dOk s d = true) (hr' : r.ren (gOf [k]) = r') :
    Ev P [k] s ⟨d, .call { callee := .value (.func f), args := args.toArray, argTypes := tys }, ty, pos, af, g⟩ (· = ((s.kill k).blk k (.row e' sz' n' el')).put d r') := by subst hr'; exact ev_call_o k hk hfn hxs L hargs hc hr hLk hL hd
/-- For the parts of a value built in a region that draws its order. -/
theorem map_ev2 {parts : List (Nat × Operand)} {vs : List AV} (h : EvAll s (parts.map (·.2)) vs) : parts.map (fun p => s.ev p.2) = vs := by
  rw [← map_ev h, List.map_map]
  rfl

/-! ### ways out, as a printed walk uses them -/
theorem ret_v {fn : Func} {s : ASt} {r r0 : AV} (hres : Res P fn s r0) (hk : s.kp = []) (hi : r.ids.isEmpty = true) (hr : r.ren (fun i => i) = r) (hle : TLe r0 r) : RetOk P fn (Det r []) s :=
  ret_pure hk (List.isEmpty_iff.1 hi) hr hres hle ⟨rfl, rfl⟩
theorem ret_r {fn : Func} {s : ASt} {r r0 : AV} {e sz n n' : Nat} {el el' : Nat → List CV} (k : Nat) (hres : Res P fn s r0) (hk : s.kp = []) (hb : look s.heap k = some (.row e sz n el)) (hi : r.ids.all (fun i => Nat.beq i 0) = true) (hle : TLe r0 (r.ren fun _ => k)) (hn : n = n') (hel : el = el') : RetOk P fn (Det r [(0, some (.row e sz n' el'))]) s := by
  subst hn; subst hel
  exact ret_row k hk hi hb hres hle ⟨rfl, rfl⟩
end
end Abs
end Go.Proofs.Ytbnjdkpangmneaa
