/-
  A reading of Go's memory by values: a round of a range over a function. No program of Go's is named here.
  A reading of Go's memory by values: a cell of a box that holds nil, as a row of one's own. No program of Go's is named here.
  A reading of Go's memory by values: closures that are made and handed out; the walk of an iterator's own code. No program of Go's is named here.
  A reading of Go's memory by values: a region that draws its order, where one store into a variable of one's own lies within the first part: operations that make no use of the variable may come before or behind it. No program of Go's is named here.
  A reading of Go's memory by values: further operations on rows of one's own. No program of Go's is named here.
-/
import Derived.Test.YtjpiiejdaiaocaaDoorAbsY
import Derived.RangeFuncIn
import Derived.Test.YtjpiiejdaiaocaaDoorAbsR
namespace Go.Proofs.YtjpiiejdaiaocaaDoor
open Go.ChangeShapes Go.WideShapes Go.RowKit
set_option linter.unusedVariables false
set_option linter.unusedSimpArgs false
namespace Abs
/-- The jump by which a body is left. -/
def jumpOf : Exit → Option (Option Code)
  | .normal => some none
  | .ret => some (some .ret)
  | .exit id => some (some (.exit id))
  | _ => none
/-- Behind a round: what QB says; the record bears the jump. -/
def Rounded (U T : Nat → Prop) (w0 : Base) (l : Nat) (rec : Loop) (QB : Exit → ASt → Prop) (w1 : World) (e : Ending) (w : World) : Prop :=
  ∃ e0 s a hv j, QB e0 s ∧ Ok U T w0 s a w hv ∧ jumpOf e0 = some j ∧ e = .returned (.bool j.isNone) ∧ w.heap[l]? = some (.loop { rec with state := if j.isNone then .ready else .done, pending := j }) ∧
    ∀ (k : Nat) (o : Obj), k ≠ l → w1.heap[k]? = some o → markO o = true → w.heap[k]? = some o
theorem yield_round {P : Program} {U T : Nat → Prop} {w0 : Base} {l : Nat} {rec : Loop} {QB : Exit → ASt → Prop} {s : ASt} {tmps : Array Value} {w : World} {hv : Nat → Value} {F : Fence} (hF : F.inRound l = FR (some l)) (hfn : F.fn rec.fn) (hrec : w.heap[l]? = some (.loop rec)) (hst : rec.state = .ready) (hl : w0.w.heap.size ≤ l ∨ T l)
    (ok : Ok U T w0 s { tmps := tmps, defers := [] } w hv) (hQ : ∀ e s, QB e s → (jumpOf e).isSome = true)
    (haw : AW P rec.assign s (fun e s' => match e with | .normal => AW P rec.body s' QB | _ => False)) :
    RoundIn F 0 P l rec.fn tmps rec.assign rec.body w (Rounded U T w0 l rec QB w) := by
  have turn : ∀ {s : ASt} {a : Act} {w w' : World} {hv : Nat → Value} {o o' : Obj}, Ok U T w0 s a w hv → w.heap[l]? = some o → markO o = true → Ok U T w0 s a (w.putObj l o') hv := fun ok h1 h2 => ok.turn (Cel.putObj h1 h2) fun b hb hT => World.putObj_heap_other (by
    rintro rfl
    rcases hl with hl | hl
    · omega
    · exact hT hl)
  have lt : ∀ {w : World} {o : Obj}, w.heap[l]? = some o → l < w.heap.size := fun h => (Array.getElem?_eq_some_iff.1 h).1
  refine roundIn_of_wpIn hfn ?_
  rw [hF]
  refine wpIn_mono (aw_keep (n := 0) (r := some l) haw (a := { tmps := tmps, defers := [] }) ok ⟨fun d hd => (by cases hd), .nil, Nat.zero_le _, fun l' e => by injection e with e; subst e; exact ⟨rec, hrec⟩⟩) ?_
  rintro e a1 w1 ⟨hc, s1, hv1, hq, ok1, mk1, keep1⟩
  cases e with
  | normal =>
    have h1 := keep1 l _ hrec rfl
    refine ⟨_, run_beginRound h1 hst, ?_⟩
    have h2 : (w1.putObj l (.loop { rec with state := .busy })).heap[l]? = some (.loop { rec with state := .busy }) := World.putObj_heap_same (lt h1)
    have ok2 := turn (w' := w1) (o' := .loop { rec with state := .busy }) ok1 h1 rfl
    have mk2 : Marks 0 (some l) a1.defers (w1.putObj l (.loop { rec with state := .busy })) := ⟨fun d hd => by
      obtain ⟨D, e1, e2, e3⟩ := mk1.1 d hd
      exact ⟨D, e1, e2, by rw [World.putObj_heap_other (fun e => by subst e; rw [h1] at e3; cases e3)]; exact e3⟩, mk1.2.1, Nat.zero_le _, fun l' e => by injection e with e; subst e; exact ⟨_, h2⟩⟩
    refine wpIn_mono (aw_keep (r := some l) hq ok2 mk2) ?_
    rintro e a3 w3 ⟨hc, s3, hv3, hq3, ok3, mk3, keep3⟩
    have h3 := keep3 l _ h2 rfl
    have fin : ∀ j, jumpOf e = some j → ∃ v w', (Instr.endRound l j).run P w3 = .ok v w' ∧ Rounded U T w0 l rec QB w (.returned v) w' := fun j hj =>
      ⟨_, _, run_endRound j h3, e, s3, _, hv3, j, hq3, turn (w' := w3) ok3 h3 rfl, hj, rfl, World.putObj_heap_same (lt h3), fun k o hk hko ho => by
        rw [World.putObj_heap_other hk]
        refine keep3 k o ?_ ho
        rw [World.putObj_heap_other hk]
        exact keep1 k o hko ho⟩
    cases e with
    | normal => exact fin none rfl
    | ret => exact fin (some .ret) rfl
    | exit id => exact fin (some (.exit id)) rfl
    | outgrown => cases hc
    | goto t => exact absurd (hQ _ _ hq3) (by simp [jumpOf])
    | panic c => exact absurd (hQ _ _ hq3) (by simp [jumpOf])
  | _ => exact hq.elim
/-! ### the activation that ranges, seen from its rounds: its slots are those at the entry, what changes lies in its boxes -/
def boxIds (s : ASt) : Bool := (envIds s.env).all fun j => isBoxB (look s.heap j)
theorem isBoxB_box {h : Heap} {j : Nat} (hb : isBoxB (look h j) = true) : IsBox h j := by
  cases hl : look h j with
  | none => rw [hl] at hb; cases hb
  | some b =>
    rw [hl] at hb
    cases b with
    | box cs => exact ⟨cs, hl⟩
    | row e sz n el => cases hb
    | iter s pos => cases hb
section
variable {U : Nat → Prop} {w0 : Base} {sE s : ASt} {aE a : Act} {w : World} {hv : Nat → Value}
theorem Ok.swap {U' : Nat → Prop} (hU : ∀ b, b < w0.w.heap.size → U' b → U b) (hE : Ok U (mine sE.heap w0.v) w0 sE aE w0.w w0.v) (hk : sE.kp = boxesOf sE.heap) (hids : boxIds sE = true) (ok : Ok U' (mine sE.heap w0.v) w0 s a w hv) (hkp : s.kp = sE.kp) :
    Ok U' (mine sE.heap w0.v) w0 ⟨sE.nt, sE.kp, sE.env, s.heap⟩ aE w hv := by
  refine ⟨⟨hE.m.nt, hE.m.defers, fun t => (hE.m.env t).keep (fun id hid => ?_) ok.fr (fun b h => .inr h) fun b hlt hb => hb.imp (hU b hlt) fun x => ok.own b x hlt, ok.m.hm⟩, ok.fr, ok.own, fun id hid => ok.box id (by rw [hkp]; exact hid)⟩
  have hb := isBoxB_box (List.all_eq_true.1 hids id (get_ids hid))
  have hm : id ∈ s.kp := by rw [hkp, hk]; exact mem_boxes.2 hb
  obtain ⟨e1, e2⟩ := ok.box id hm
  obtain ⟨cs, hcs⟩ := hb
  exact ⟨fun ⟨_, _, _, _, e⟩ => by (rw [hcs] at e; cases e), fun _ => e1, fun _ => e2, fun ⟨_, _, e⟩ => by (rw [hcs] at e; cases e)⟩
/-- At the entry: all boxes are kept. -/
theorem Ok.entry {T : Nat → Prop} {w1 : Base} (ok : Ok U T w1 s a w hv) : Ok U (mine s.heap hv) ⟨w, hv⟩ ⟨s.nt, boxesOf s.heap, s.env, s.heap⟩ a w hv :=
  ⟨⟨ok.m.nt, ok.m.defers, ok.m.env, ok.m.hm⟩, Fr.refl _ _, fun b hb _ => hb, fun id hid => ⟨mem_boxes.1 hid, rfl⟩⟩
/-- And back. -/
theorem Ok.leave {T : Nat → Prop} {w1 : Base} (ok : Ok U T w1 s a w hv) {nt : Nat} {env : List (Nat × AV)} {h' : Heap} {a' : Act} {w' : World} {hv' : Nat → Value} (ok' : Ok U (mine s.heap hv) ⟨w, hv⟩ ⟨nt, boxesOf s.heap, env, h'⟩ a' w' hv') :
    Ok U T w1 ⟨nt, s.kp, env, h'⟩ a' w' hv' :=
  ⟨⟨ok'.m.nt, ok'.m.defers, ok'.m.env, ok'.m.hm⟩, ok.fr.trans ok'.fr fun x hx hm => ok.own x hm hx, fun b hb hlt => ok.own b (ok'.own b hb (Nat.lt_of_lt_of_le hlt ok.fr.size)) hlt, fun id hid => by
    obtain ⟨h1, h2⟩ := ok.box id hid
    obtain ⟨h3, h4⟩ := ok'.box id (mem_boxes.2 h1)
    exact ⟨h3, h4.trans h2⟩⟩
end
/-! ### the statement -/
def naked : Act := { tmps := #[], defers := [] }
def HA (U : Nat → Prop) (h : Heap) (hv : Nat → Value) (b : Nat) : Prop := U b ∨ mine h hv b
/-- An iterator, called with a function that asks for rounds, asks for one for each of xs, and stops where one says no. -/
def IterC (P : Program) (f : FuncId) (caps : List CV) (xs : List (List AV)) : Prop :=
  ∀ {ι : Type} (H : ι → Heap) (R : Nat → ι → Prop) (X : World → Prop) (U T : Nat → Prop) (w0 : Base) (kp : List Nat) (l : Nat) (rec : Loop) (Z : World → Prop),
    U l → w0.w.heap.size ≤ l → (∀ w, Z w → w.heap[l]? = some (.loop rec)) →
    (∀ w w', Z w → (∀ (k : Nat) (o : Obj), w.heap[k]? = some o → markO o = true → w'.heap[k]? = some o) → Z w') →
    (∀ x, x ∈ xs → x.length = rec.params.size) →
    (∀ (j : Nat) (x : List AV) (i : ι) (w : World) (hv : Nat → Value) (args : Array Value), xs[j]? = some x → R j i → Ok U T w0 ⟨0, kp, [], H i⟩ naked w hv → Z w → All2 (RepV (H i) hv (HA U (H i) hv) w) x args.toList →
      RoundIn (FR none) 0 P l rec.fn ((rec.params.zip args).foldl (fun tmps (t, a) => tmps.setIfInBounds t a) rec.tmps) rec.assign rec.body w fun e w' =>
        (e = .returned (.bool true) ∧ Z w' ∧ ∃ i' hv', R (j + 1) i' ∧ Ok U (fun b => mine (H i) hv b ∨ b = l) (w0.at w) ⟨0, kp, [], H i'⟩ naked w' hv') ∨
        (e = .returned (.bool false) ∧ X w')) →
    ∀ (i : ι) (w : World) (hv : Nat → Value) (lb : Array Value), R 0 i → Ok U T w0 ⟨0, kp, [], H i⟩ naked w hv → Z w → All2 (RepP (H i) hv (HA U (H i) hv) w) caps lb.toList →
      CallsIn (FR none) 0 P f (#[.func (.yield l) #[] #[]] ++ lb) w fun e w' => ∃ v, e = .returned v ∧
        ((∃ i' hv', R xs.length i' ∧ Ok U T w0 ⟨0, kp, [], H i'⟩ naked w' hv' ∧ Z w') ∨ X w')
section
variable {U T : Nat → Prop} {w0 : Base} {s s' : ASt} {a a' : Act} {w w' : World} {hv hv' : Nat → Value}
theorem Ok.nude (ok : Ok U T w0 s a w hv) : Ok U T w0 ⟨0, s.kp, [], s.heap⟩ naked w hv :=
  ⟨⟨rfl, rfl, fun t => trivial, ok.m.hm⟩, ok.fr, ok.own, ok.box⟩
theorem Ok.lessU {U' : Nat → Prop} (h : ∀ b, U b → U' b) (ok : Ok U' T w0 s a w hv) : Ok U T w0 s a w hv :=
  ⟨⟨ok.m.nt, ok.m.defers, fun t => rep_weak (ok.m.env t) fun b hb => hb.imp (h b) id, ⟨fun id b hb => blk_weak (ok.m.hm.blk id b hb) fun b hb => hb.imp (h b) fun x => x, ok.m.hm.inj, fun b hb hu => ok.m.hm.avoid b hb (h b hu), fun b hb => ok.m.hm.ult b (h b hb), ok.m.hm.tab⟩⟩, ok.fr, ok.own, ok.box⟩
/-- A new block that is no one's. -/
theorem Ok.moreU {l : Nat} (ok : Ok U T w0 s a w hv) (fr : Fr (fun _ => False) w w') (hl : w.heap.size ≤ l) (hl' : l < w'.heap.size) : Ok (fun b => U b ∨ b = l) T w0 s a w' hv := by
  have hlt : ∀ b, mine s.heap hv b → b < w.heap.size := fun b hb => by
    obtain ⟨o, e, _⟩ := mine_cells ok.m.hm hb
    exact (Array.getElem?_eq_some_iff.1 e).1
  have hA : ∀ b, b < w.heap.size → ((U b ∨ b = l) ∨ mine s.heap hv b) → (U b ∨ mine s.heap hv b) := fun b hb h => by
    rcases h with (h | h) | h
    · exact .inl h
    · omega
    · exact .inr h
  refine ⟨⟨ok.m.nt, ok.m.defers, fun t => (ok.m.env t).keep (fun id _ => Pass.refl _ _ id) fr (fun _ e => e.elim) hA, ⟨fun id b hb => (ok.m.hm.blk id b hb).keep (fun j _ => Pass.refl _ _ j) rfl fr (fun _ e => e.elim) hA (fun _ _ e => e), ok.m.hm.inj, fun b hb hu => ?_, fun b hb => ?_, ok.m.hm.tab.fr fr (fun _ e => e.elim) fun _ h _ => h⟩⟩, ok.fr.trans fr (fun _ _ e => e.elim), ok.own, ok.box⟩
  · rcases hu with hu | hu
    · exact ok.m.hm.avoid b hb hu
    · have := hlt b hb; omega
  · rcases hb with hb | hb
    · exact Nat.lt_of_lt_of_le (ok.m.hm.ult b hb) fr.size
    · omega
theorem Ok.back' {l : Nat} (hl : w0.w.heap.size ≤ l) (ok : Ok U T w0 s a w hv) (ok' : Ok U (fun b => mine s.heap hv b ∨ b = l) (w0.at w) s' a' w' hv') : Ok U T w0 s' a' w' hv' := by
  have h : ∀ x, x < w0.w.heap.size → (mine s.heap hv x ∨ x = l) → T x := fun x hx hm => by
    rcases hm with hm | hm
    · exact ok.own x hm hx
    · omega
  exact ⟨ok'.m, ok.fr.trans ok'.fr h, fun b hb hlt => h b hlt (ok'.own b hb (Nat.lt_of_lt_of_le hlt ok.fr.size)), fun id h => ok'.box id h⟩
theorem Ok.base' {l : Nat} (ok : Ok U T w0 s a w hv) : Ok U (fun b => mine s.heap hv b ∨ b = l) (w0.at w) s a w hv := ⟨ok.m, Fr.refl _ _, fun b hb _ => .inl hb, fun id h => ok.box id h⟩
def bindPs : List Nat → List AV → ASt → ASt
  | t :: l, x :: xs, s => bindPs l xs (s.put (some t) x)
  | _, _, s => s
theorem bindPs_heap : ∀ (l : List Nat) (xs : List AV) (s : ASt), (bindPs l xs s).heap = s.heap ∧ (bindPs l xs s).kp = s.kp ∧ (bindPs l xs s).nt = s.nt
  | [], _, _ => ⟨rfl, rfl, rfl⟩
  | _ :: _, [], _ => ⟨rfl, rfl, rfl⟩
  | t :: l, x :: xs, s => bindPs_heap l xs (s.put (some t) x)
theorem ok_bind : ∀ (l : List Nat) (xs : List AV) (vs : List Value) {s : ASt} {tmps : Array Value}, Ok U T w0 s { tmps := tmps, defers := [] } w hv → All2 (RepV s.heap hv (HA U s.heap hv) w) xs vs → (l.all fun t => Nat.blt t s.nt) = true →
    Ok U T w0 (bindPs l xs s) { tmps := (l.zip vs).foldl (fun tmps p => tmps.setIfInBounds p.1 p.2) tmps, defers := [] } w hv
  | [], xs, vs, s, tmps, ok, _, _ => by cases xs <;> exact ok
  | t :: l, [], vs, s, tmps, ok, h, _ => by cases h; exact ok
  | t :: l, x :: xs, vs, s, tmps, ok, h, hd => by
    cases h with
    | cons h1 h2 =>
      rw [List.all_cons, Bool.and_eq_true] at hd
      have := ok.next (Fr.refl (fun _ => False) w) (fun _ e => e.elim) (fun _ id _ => Pass.refl _ _ id) (fun id _ => Pass.refl _ _ id) ok.m.hm (fun _ h _ => h) (d := some t) (r := x) h1 hd.1
      exact ok_bind l xs _ this h2 hd.2
end
theorem run_enterLoop_inner {P : Program} {w : World} {l0 : Nat} {rec : Loop} (h : w.heap[l0]? = some (.loop rec)) (fn : FuncId) (tmps : Array Value) (ps : Array Tmp) (assign body : Code) :
    (Instr.enterLoop fn tmps ps assign body (some l0)).run P w =
      .ok (w.heap.size, []) (w.alloc (.loop { state := .ready, pending := none, fn, tmps, params := ps, assign, body, defers := rec.defers })) := by
  unfold Instr.enterLoop
  simp only [Sem.run_bind, run_getLoop h, run_newObj_alloc, Result.andThen, Sem.run_pure]
theorem enter_any {P : Program} {n : Nat} {r : Option Nat} {ds : List Deferred} {w : World} (fn : FuncId) (tmps : Array Value) (ps : Array Tmp) (assign body : Code) (mk : Marks n r ds w) :
    ∃ (l : Nat) (mark : List Deferred) (w1 : World) (D : Nat), (Instr.enterLoop fn tmps ps assign body r).run P w = .ok (l, mark) w1 ∧ w.heap.size ≤ l ∧
      w1.heap[l]? = some (.loop { state := .ready, pending := none, fn, tmps, params := ps, assign, body, defers := D }) ∧ Fr (fun _ => False) w w1 ∧
      ∀ w2 : World, w.heap.size ≤ w2.heap.size → (∀ (k : Nat) (o : Obj), k ≠ l → w1.heap[k]? = some o → markO o = true → w2.heap[k]? = some o) → Marks n r (mark ++ ds) w2 := by
  have old : ∀ (l : Nat) (w1 w2 : World), w.heap.size ≤ l → Fr (fun _ => False) w w1 → w.heap.size ≤ w2.heap.size → (∀ (k : Nat) (o : Obj), k ≠ l → w1.heap[k]? = some o → markO o = true → w2.heap[k]? = some o) → Marks n r ds w2 := fun l w1 w2 hl fr hs hk => mk.others hs fun k o hko ho => by
    have hlt := (Array.getElem?_eq_some_iff.1 hko).1
    exact hk k o (by omega) ((fr.block k hlt fun e => e).trans hko) ho
  cases r with
  | none =>
    refine ⟨_, _, _, w.heap.size, run_enterLoop_outer _ _ _ _ _, by omega, ?_, (Fr.alloc _ w _).trans (Fr.alloc (fun _ => False) _ _) fun _ _ e => e, fun w2 hs hk => ?_⟩
    · have := World.alloc_heap_new (w.alloc (.deferred (some []))) (.loop { state := .ready, pending := none, fn, tmps, params := ps, assign, body, defers := w.heap.size })
      rwa [World.size_alloc] at this
    · have mk2 := old _ _ w2 (Nat.le_succ _) ((Fr.alloc _ w _).trans (Fr.alloc (fun _ => False) _ _) fun _ _ e => e) hs hk
      have hD : w2.heap[w.heap.size]? = some (.deferred (some [])) := hk _ _ (by omega) ((Below.heap_alloc _ _ _ (by simp)).trans (World.alloc_heap_new w _)) rfl
      refine ⟨fun d hd => ?_, ?_, mk2.2.2.1, mk2.2.2.2⟩
      · rcases List.mem_cons.1 hd with rfl | hd
        · exact ⟨w.heap.size, rfl, mk.2.2.1, hD⟩
        · exact mk2.1 d hd
      · refine List.pairwise_cons.2 ⟨fun d hd e => ?_, mk2.2.1⟩
        obtain ⟨D, h1, h2, h3⟩ := mk.1 d hd
        rw [h1] at e
        injection e with e
        have := (Array.getElem?_eq_some_iff.1 h3).1
        omega
  | some l0 =>
    obtain ⟨rec, h⟩ := mk.2.2.2 l0 rfl
    exact ⟨_, _, _, rec.defers, run_enterLoop_inner h _ _ _ _ _, Nat.le_refl _, World.alloc_heap_new w _, Fr.alloc _ w _, fun w2 hs hk => old _ _ w2 (Nat.le_refl _) (Fr.alloc _ w _) hs hk⟩
/-- What a round may come to. -/
def RangeR {ι : Type} (H : ι → Heap) (R : Nat → ι → Prop) (Q : Exit → ASt → Prop) (s : ASt) (j : Nat) : Exit → ASt → Prop := fun e s2 => match e with
  | .normal => s2.kp = boxesOf s.heap ∧ ∃ i', R (j + 1) i' ∧ Weak ⟨0, s2.kp, [], s2.heap⟩ ⟨0, s2.kp, [], H i'⟩
  | .ret => s2.kp = boxesOf s.heap ∧ Q .ret ⟨s.nt, s.kp, s.env, s2.heap⟩
  | .exit id => s2.kp = boxesOf s.heap ∧ Q (.exit id) ⟨s.nt, s.kp, s.env, s2.heap⟩
  | _ => False
theorem aw_range {P : Program} {s : ASt} {Q : Exit → ASt → Prop} {g : Operand} {ps : Array Tmp} {assign body : Code} {f : FuncId} [hf : IsFn P f] {caps : List CV} {ι : Type} {xs : List (List AV)} (H : ι → Heap) (R : Nat → ι → Prop) (i0 : ι)
    (hg : s.ev g = .one (.fn f caps)) (hids : boxIds s = true) (hit : IterC P f caps xs) (hH : H i0 = s.heap) (hR : R 0 i0) (hlen : ∀ x, x ∈ xs → x.length = ps.size) (hps : (ps.toList.all fun t => Nat.blt t s.nt) = true)
    (round : ∀ j x i, xs[j]? = some x → R j i → AW P assign (bindPs ps.toList x ⟨s.nt, boxesOf s.heap, s.env, H i⟩) (fun e s1 => match e with | .normal => AW P body s1 (RangeR H R Q s j) | _ => False))
    (done : ∀ i, R xs.length i → Q .normal ⟨s.nt, s.kp, s.env, H i⟩) : AW P (.rangeFunc g ps assign body) s Q := fun n r U T w0 a w hv ok mk => by
  refine wpIn_rangeFunc fun fn hfn => ?_
  obtain ⟨l, mark, w1, D, hrun, hl, hrec, fr1, hmk⟩ := enter_any (P := P) fn a.tmps ps assign body mk
  have hllt : l < w1.heap.size := (Array.getElem?_eq_some_iff.1 hrec).1
  have hE := ok.entry
  have ok1 := hE.moreU fr1 hl hllt
  have hgv := ok.m.ev g
  rw [hg] at hgv
  obtain ⟨vs, hvs, hcaps⟩ := hgv
  have hev : a.eval g = .func (.func f) #[] vs.toArray := (by cases g <;> rfl : a.eval g = (bare a).eval g).trans hvs
  have swap : ∀ {s2 : ASt} {a2 : Act} {w2 : World} {hv2 : Nat → Value}, Ok (fun b => U b ∨ b = l) (mine s.heap hv) ⟨w, hv⟩ s2 a2 w2 hv2 → s2.kp = boxesOf s.heap → Ok (fun b => U b ∨ b = l) (mine s.heap hv) ⟨w, hv⟩ ⟨s.nt, boxesOf s.heap, s.env, s2.heap⟩ (bare a) w2 hv2 := fun ok2 h =>
    Ok.swap (U := U) (U' := fun b => U b ∨ b = l) (w0 := ⟨w, hv⟩) (sE := ⟨s.nt, boxesOf s.heap, s.env, s.heap⟩) (fun b hb h => Or.resolve_right h (by rintro rfl; exact absurd hb (Nat.not_lt.2 hl))) hE rfl hids ok2 h
  have fin : ∀ {kp : List Nat} {H' : Heap} {w2 : World} {hv2 : Nat → Value} {lp : Loop} (o : Obj), Ok (fun b => U b ∨ b = l) (mine s.heap hv) ⟨w, hv⟩ ⟨0, kp, [], H'⟩ naked w2 hv2 → kp = boxesOf s.heap → w2.heap[l]? = some (.loop lp) → Ok U T w0 ⟨s.nt, s.kp, s.env, H'⟩ (bare a) (w2.putObj l o) hv2 := fun o ok2 hkp hl2 => by
    have h1 := ok2.turn (w' := World.putObj _ l o) (Cel.putObj hl2 rfl) fun b hb _ => World.putObj_heap_other (by rintro rfl; exact absurd hb (Nat.not_lt.2 hl))
    exact ok.leave ((swap h1 hkp).lessU fun b hb => .inl hb)
  let rc : Loop := { state := .ready, pending := none, fn, tmps := a.tmps, params := ps, assign, body, defers := D }
  let Kp : World → Prop := fun w2 => w1.heap.size ≤ w2.heap.size ∧ ∀ (k : Nat) (o : Obj), k ≠ l → w1.heap[k]? = some o → markO o = true → w2.heap[k]? = some o
  let Z : World → Prop := fun w2 => w2.heap[l]? = some (.loop rc) ∧ ∀ (k : Nat) (o : Obj), k ≠ l → w1.heap[k]? = some o → markO o = true → w2.heap[k]? = some o
  let X : World → Prop := fun w2 => ∃ e0 s2 hv2 c j, jumpOf e0 = some (some c) ∧ RangeR H R Q s j e0 s2 ∧ s2.kp = boxesOf s.heap ∧ Ok (fun b => U b ∨ b = l) (mine s.heap hv) ⟨w, hv⟩ ⟨0, s2.kp, [], s2.heap⟩ naked w2 hv2 ∧ w2.heap[l]? = some (.loop { rc with state := .done, pending := some c }) ∧ ∀ (k : Nat) (o : Obj), k ≠ l → w1.heap[k]? = some o → markO o = true → w2.heap[k]? = some o
  refine ⟨l, mark, w1, { target := .fn (.func f) vs.toArray, args := #[.func (.yield l) #[] #[]] }, w1, f, #[.func (.yield l) #[] #[]] ++ vs.toArray, w1, hrun, ?_, fun _ _ => trivial, ?_, fun e => (by cases e), ?_⟩
  · simp only [resolve, hev]
    simp [go_sem]
  · simp [invoke, go_sem, hf.h]
  · have hl0 : (Base.mk w hv).w.heap.size ≤ l := hl
    have hl1 : l < w1.heap.size := hllt
    have hlenp : ∀ x, x ∈ xs → x.length = rc.params.size := hlen
    have okH : Ok (fun b => U b ∨ b = l) (mine s.heap hv) ⟨w, hv⟩ ⟨0, boxesOf s.heap, [], H i0⟩ naked w1 hv := by rw [hH]; exact ok1.nude
    have hcap1 : All2 (RepP (H i0) hv (HA (fun b => U b ∨ b = l) (H i0) hv) w1) caps vs.toArray.toList := by
      rw [hH]
      refine hcaps.imp fun x y hr => hr.keep (fun id _ => Pass.refl _ _ id) fr1 (fun _ e => e.elim) fun b hb h => ?_
      rcases h with (h | h) | h
      · exact .inl h
      · omega
      · exact .inr h
    have hfr1 : w.heap.size ≤ w1.heap.size := fr1.size
    have call := hit H R X (fun b => U b ∨ b = l) (mine s.heap hv) ⟨w, hv⟩ (boxesOf s.heap) l rc Z (.inr rfl) hl0 (fun w2 h => h.1) (fun w2 w3 h k => ⟨k _ _ h.1 rfl, fun q o hq hqo ho => k q o (h.2 q o hq hqo ho) ho⟩) hlenp
      (fun j x i w2 hv2 args hx hRi ok2 hz hargs => ?round) i0 w1 hv vs.toArray hR okH ⟨hrec, fun k o _ h _ => h⟩ hcap1
    case round =>
      have okS : Ok (fun b => U b ∨ b = l) (fun b => mine (H i) hv2 b ∨ b = l) ((Base.mk w hv).at w2) ⟨s.nt, boxesOf s.heap, s.env, H i⟩ { tmps := a.tmps, defers := [] } w2 hv2 := (swap ok2 rfl).base'
      have okB := ok_bind ps.toList x args.toList okS hargs hps
      have hy := yield_round (P := P) (F := FR none) (rec := rc) rfl trivial hz.1 rfl (.inr (.inr rfl)) okB (QB := RangeR H R Q s j) (fun e s2 hq => by cases e <;> first | rfl | exact hq.elim) (round j x i hx hRi)
      have htm : (rc.params.zip args).foldl (fun tmps (t, a) => tmps.setIfInBounds t a) rc.tmps = (ps.toList.zip args.toList).foldl (fun tmps p => tmps.setIfInBounds p.1 p.2) a.tmps := by
        rw [← Array.foldl_toList, Array.toList_zip]
      rw [htm]
      refine hy.mono ?_
      rintro e w3 ⟨e0, s3, a3, hv3, j', hq, ok3, hj, rfl, hl3, hk3⟩
      have hkeep : ∀ (k : Nat) (o : Obj), k ≠ l → w1.heap[k]? = some o → markO o = true → w3.heap[k]? = some o := fun k o hk hko ho => hk3 k o hk (hz.2 k o hk hko ho) ho
      have hkp3 : s3.kp = boxesOf s.heap := by cases e0 <;> first | exact hq.1 | exact hq.elim
      cases j' with
      | none =>
        have he0 : e0 = .normal := by cases e0 <;> simp_all [jumpOf]
        subst he0
        obtain ⟨_, i', hR', hw⟩ := hq
        refine .inl ⟨rfl, ⟨hl3, hkeep⟩, i', hv3, hR', ?_⟩
        have h5 := hw.ok ok3.nude
        rw [hkp3] at h5
        exact h5
      | some c =>
        refine .inr ⟨rfl, e0, s3, hv3, c, j, hj, hq, hkp3, ?_, hl3, hkeep⟩
        exact Ok.back' hl0 ok2 ok3.nude
    refine (show CallsIn (FR none) 0 P f _ w1 _ from call).mono ?_
    rintro e w2 ⟨v, rfl, ⟨i', hv2, hR', ok2, hz⟩ | ⟨e0, s2, hv2, c, j, hj, hq, hkp2, ok2, hl2, hk2⟩⟩
    · refine ⟨none, _, run_endLoop hz.1 (by simp [rc]), ?_⟩
      refine ⟨⟨rfl, _, hv2, done i' hR', fin _ ok2 rfl hz.1⟩, hmk _ (by rw [World.putObj_size]; exact ok2.fr.size) fun k o hk hko ho => ?_⟩
      rw [World.putObj_heap_other hk]
      exact hz.2 k o hk hko ho
    · refine ⟨some c, _, run_endLoop hl2 (by simp), ?_⟩
      have hm2 : ∀ o, Marks n r (mark ++ a.defers) (w2.putObj l o) := fun o => hmk _ (by rw [World.putObj_size]; exact ok2.fr.size) fun k o hk hko ho => by
        rw [World.putObj_heap_other hk]
        exact hk2 k o hk hko ho
      cases e0 with
      | ret =>
        have hc : c = .ret := by simpa [jumpOf] using hj.symm
        subst hc
        exact wpIn_ret ⟨⟨rfl, _, hv2, hq.2, fin _ ok2 hkp2 hl2⟩, hm2 _⟩
      | exit id =>
        have hc : c = .exit id := by simpa [jumpOf] using hj.symm
        subst hc
        exact wpIn_exit ⟨⟨rfl, _, hv2, hq.2, fin _ ok2 hkp2 hl2⟩, hm2 _⟩
      | normal => simp [jumpOf] at hj
      | _ => exact hq.elim
/-- What a round may come to: L says of what is still to come and of what is carried that it leads where the loop leads. -/
def RangeL {α ι : Type} (H : ι → Heap) (L : List α → ι → Prop) (Q : Exit → ASt → Prop) (s : ASt) (ys : List α) : Exit → ASt → Prop := fun e s2 => match e with
  | .normal => s2.kp = boxesOf s.heap ∧ ∃ i', L ys i' ∧ Weak ⟨0, s2.kp, [], s2.heap⟩ ⟨0, s2.kp, [], H i'⟩
  | .ret => s2.kp = boxesOf s.heap ∧ Q .ret ⟨s.nt, s.kp, s.env, s2.heap⟩
  | .exit id => s2.kp = boxesOf s.heap ∧ Q (.exit id) ⟨s.nt, s.kp, s.env, s2.heap⟩
  | _ => False
theorem aw_range_l {P : Program} {s : ASt} {Q : Exit → ASt → Prop} {g : Operand} {ps : Array Tmp} {assign body : Code} {f : FuncId} [hf : IsFn P f] {caps : List CV} {ι α : Type} (enc : α → List AV) (xs : List α) (H : ι → Heap) (L : List α → ι → Prop) (i0 : ι)
    (hg : s.ev g = .one (.fn f caps)) (hids : boxIds s = true) (hit : IterC P f caps (xs.map enc)) (hH : H i0 = s.heap) (hR : L xs i0) (hlen : ∀ x, (enc x).length = ps.size) (hps : (ps.toList.all fun t => Nat.blt t s.nt) = true)
    (round : ∀ x ys i, L (x :: ys) i → AW P assign (bindPs ps.toList (enc x) ⟨s.nt, boxesOf s.heap, s.env, H i⟩) (fun e s1 => match e with | .normal => AW P body s1 (RangeL H L Q s ys) | _ => False))
    (done : ∀ i, L [] i → Q .normal ⟨s.nt, s.kp, s.env, H i⟩) : AW P (.rangeFunc g ps assign body) s Q := by
  refine aw_range H (fun j i => L (xs.drop j) i) i0 hg hids hit hH (by simpa using hR) (fun x hx => by obtain ⟨y, _, rfl⟩ := List.mem_map.1 hx; exact hlen y) hps (fun j x i hx hL => ?_) fun i hL => done i (by simpa using hL)
  rw [List.getElem?_map] at hx
  cases hy : xs[j]? with
  | none => rw [hy] at hx; cases hx
  | some y =>
    rw [hy] at hx
    injection hx with hx
    subst hx
    have hd : xs.drop j = y :: xs.drop (j + 1) := by
      obtain ⟨hlt, e⟩ := List.getElem?_eq_some_iff.1 hy
      rw [List.drop_eq_getElem_cons hlt, e]
    rw [hd] at hL
    refine aw_mono (round y _ i hL) fun e s1 h => ?_
    cases e with
    | normal => exact aw_mono h fun e s2 h2 => by cases e <;> exact h2
    | _ => exact h
end Abs
end Go.Proofs.YtjpiiejdaiaocaaDoor
namespace Go.Proofs.YtjpiiejdaiaocaaDoor
open Go.ChangeShapes Go.WideShapes Go.RowKit
set_option linter.unusedVariables false
set_option linter.unusedSimpArgs false
namespace Abs
section
variable {P : Program} {s : ASt} {Q : Exit → ASt → Prop}
theorem aw_own_nil_box {code : Code} (bid off id e sz : Nat) (el : Nat → List CV) {cs : List CV} (hid : look s.heap id = none) (hb : look s.heap bid = some (.box cs)) (hc : cs[off]? = some (.val (.slice none 0 0)))
    (h : AW P code ⟨s.nt, s.kp, s.env, (bid, some (.box (cs.set off (.own id)))) :: (id, some (.row e sz 0 el)) :: s.heap⟩ Q) : AW P code s Q := fun n r U T w0 a w hv ok mk => by
  have hne : id ≠ bid := fun q => by rw [q, hb] at hid; cases hid
  have ok1 := ok.new (w' := w) (blk := .row e sz 0 el) (u := .slice none 0 0) hid (Fr.refl (fun _ => False) w) (fun g hg => by cases hg) ⟨[], by rw [upd_same]; exact ⟨by simp, .inl ⟨rfl, rfl⟩⟩, fun i hi => by omega, fun i j c hi => by omega⟩ (d := none) (r := .one .any) (v := undef) trivial rfl
  have hb1 : look ((id, some (Blk.row e sz 0 el)) :: s.heap) bid = some (.box cs) := by rw [look_cons, if_neg hne]; exact hb
  have pass : ∀ j, Pass ((id, some (Blk.row e sz 0 el)) :: s.heap) (upd hv id (.slice none 0 0)) ((bid, some (Blk.box (cs.set off (.own id)))) :: (id, some (.row e sz 0 el)) :: s.heap) (upd (upd hv id (.slice none 0 0)) bid (upd hv id (.slice none 0 0) bid)) j := fun j => by
    refine ⟨fun ⟨e', sz', n', el', hr⟩ => ⟨e', sz', n', el', ?_⟩, fun ⟨cs', hr⟩ => ?_, fun _ => ?_, fun ⟨s', p, hr⟩ => ⟨s', p, by rw [look_cons, if_neg (fun q => by subst q; rw [hb1] at hr; cases hr)]; exact hr⟩⟩
    · rw [look_cons, if_neg (fun q => by subst q; rw [hb1] at hr; cases hr)]; exact hr
    · by_cases q : bid = j
      · exact ⟨_, by rw [look_cons, if_pos q]⟩
      · exact ⟨cs', by rw [look_cons, if_neg q]; exact hr⟩
    · by_cases q : j = bid
      · subst q; rw [upd_same]
      · rw [upd_other (fun k => q k.symm)]
  have hblk := ok1.m.hm.blk bid _ hb1
  obtain ⟨g, vs, ty, h1, h2, h3⟩ := hblk
  have hmine : ∀ b, mine ((bid, some (Blk.box (cs.set off (.own id)))) :: (id, some (.row e sz 0 el)) :: s.heap) (upd (upd hv id (.slice none 0 0)) bid (upd hv id (.slice none 0 0) bid)) b → mine ((id, some (Blk.row e sz 0 el)) :: s.heap) (upd hv id (.slice none 0 0)) b := by
    rintro b ⟨i, x, e1, e2⟩
    by_cases q : i = bid
    · subst q
      rw [upd_same] at e2
      exact ⟨i, _, hb1, e2⟩
    · rw [upd_other (fun k => q k.symm)] at e2
      rw [look_cons, if_neg (fun k => q k.symm)] at e1
      exact ⟨i, x, e1, e2⟩
  have hm := ok1.m.hm.put (w' := w) (T1 := fun _ => False) (id := bid) (blk := .box (cs.set off (.own id))) (u := upd hv id (.slice none 0 0) bid) (Fr.refl _ w) (fun _ e => e.elim) (fun g hg => .inr ⟨⟨_, hb1⟩, hg⟩) (fun i b _ _ j _ => pass j) (by
    refine ⟨g, vs, ty, by rw [upd_same]; exact h1, h2, ?_⟩
    have h4 : All2 (RepT ((bid, some (Blk.box (cs.set off (.own id)))) :: (id, some (.row e sz 0 el)) :: s.heap) (upd (upd hv id (.slice none 0 0)) bid (upd hv id (.slice none 0 0) bid)) (fun b => U b ∨ mine ((bid, some (Blk.box (cs.set off (.own id)))) :: (id, some (.row e sz 0 el)) :: s.heap) (upd (upd hv id (.slice none 0 0)) bid (upd hv id (.slice none 0 0) bid)) b) w) cs vs.toList :=
      h3.imp fun x y k => k.keep (fun j _ => pass j) (Fr.refl (fun _ => False) w) (fun _ e => e.elim) fun b _ hb => hb.imp (fun x => x) (hmine b)
    obtain ⟨v, hv1, hv2⟩ := h4.get hc
    have hval : v = .slice none 0 0 := rep_val (A := fun _ => True) (w := w) (h := []) (hv := hv) (v := .slice none 0 0) (by cases (show RepC _ w (.val (.slice none 0 0)) v from hv2); exact RepC.val _ rfl)
    have h5 := h4.set off (x := .own id) (y := v) ⟨⟨e, sz, 0, el, by rw [look_cons, if_neg (Ne.symm hne), look_same]⟩, by rw [hval, upd_other (Ne.symm hne), upd_same], none, 0, 0, hval⟩
    rwa [show vs.toList.set off v = vs.toList from List.ext_getElem? fun j => by
      rw [List.getElem?_set]
      by_cases q : off = j
      · subst q
        rw [if_pos rfl, hv1]
        have := (List.getElem?_eq_some_iff.1 hv1).1
        simp only [Array.length_toList] at this
        simp [this]
      · rw [if_neg q]] at h5)
  have ok2 := ok1.next (w' := w) (T1 := fun _ => False) (Fr.refl _ w) (fun _ e => e.elim) (fun _ j _ => pass j) (fun j _ => pass j) hm (fun b hb _ => hmine b hb) (d := none) (r := .one .any) (v := undef) trivial rfl
  exact h n r U T w0 a w _ ok2 mk
variable {d : Option Nat} {ty t : TypeId} {pos : String} {af : Array Edge} {g : Option (Nat × Bool)} {len e sz : Nat} {agg : Bool}
theorem ev_build_arr' {parts : List (Nat × Operand)} {vs : List AV} {out : List CV} (hx : parts.map (fun p => s.ev p.2) = vs) {z : Value} [kz : TZero P t z] {zs : List Value} (hz : z.cells = zs.toArray) (hone : zs.all (·.oneCell') = true) [hp : TArr P t len e sz agg]
    (ho : fillC (fun i => some (i * sz, sz)) (zs.map CV.val) ((parts.map (·.1)).zip vs) = some out) (hd : dOk s d = true) : Ev P [] s ⟨d, .build t parts.toArray, ty, pos, af, g⟩ (· = s.put d (.agg out)) := by
  refine ev_build_arr (zs := zs) (len := len) (e := e) (sz := sz) (agg := agg) hz hone ?_ hd
  rw [← ho, ← hx, zip_map_eq]
end
end Abs
end Go.Proofs.YtjpiiejdaiaocaaDoor
namespace Go.Proofs.YtjpiiejdaiaocaaDoor
open Go.ChangeShapes Go.WideShapes Go.RowKit
set_option linter.unusedVariables false
set_option linter.unusedSimpArgs false
namespace Abs
def notFn : CV → Bool
  | .fn _ _ => false
  | _ => true
def plainC : CV → Bool
  | .val _ => true
  | .slc _ _ => true
  | .emp0 => true
  | .cptr _ => true
  | _ => false
theorem repP_of {h : Heap} {hv : Nat → Value} {A : Nat → Prop} {w : World} {c : CV} {v : Value} (hn : notFn c = true) (hr : RepT h hv A w c v) : RepP h hv A w c v := by
  cases c <;> first | exact hr | cases hn
theorem repC_of {h : Heap} {hv : Nat → Value} {A : Nat → Prop} {w : World} {c : CV} {v : Value} (hn : plainC c = true) (hr : RepT h hv A w c v) : RepC A w c v := by
  cases c <;> first | exact hr | cases hn
section
variable {P : Program} {s : ASt} {Q : Exit → ASt → Prop}
theorem ev_makeFunc {f : FuncId} {caps : List Operand} (cs : List CV) {d : Option Tmp} {ty : TypeId} {pos : String} {af : Array Edge} {g : Option (Nat × Bool)} (hc : caps.map s.ev = cs.map .one) (hn : cs.all notFn = true) (hd : dOk s d = true) :
    Ev P [] s ⟨d, .makeFunc (.func f) #[] caps.toArray, ty, pos, af, g⟩ (· = s.put d (.one (.fn f cs))) :=
  ev_of_run hd fun U a w hv m => by
    refine ⟨.func (.func f) #[] (caps.toArray.map a.eval), w, by simp [execOp, Instr.makeFunc], Fr.refl _ _, caps.map a.eval, by simp, ?_⟩
    clear hd
    induction caps generalizing cs with
    | nil =>
      cases cs with
      | nil => exact .nil
      | cons c cs => cases hc
    | cons x caps ih =>
      cases cs with
      | nil => cases hc
      | cons c cs =>
        rw [List.map_cons, List.map_cons, List.cons.injEq] at hc
        rw [List.all_cons, Bool.and_eq_true] at hn
        have h1 := m.ev x
        rw [hc.1] at h1
        exact .cons (repP_of hn.1 h1) (ih cs hc.2 hn.2)
theorem run_equal_fn {P : Program} {w : World} {xT : TypeId} {d : Nat} {f : Fn} {a b : Array Value} {ps rs : Array TypeId} {va : Bool} (hT : P.underlying xT = some (.func ps rs va)) : (Op.equalIn (d + 1) xT (.func f a b) .nilFunc).run P w = .ok false w := by
  simp [Op.equalIn, run_underlying hT]
theorem ev_fn_eq {f : FuncId} {cs : List CV} {x y : Operand} {xT yT ty : TypeId} {d : Option Tmp} {pos : String} {af : Array Edge} {g : Option (Nat × Bool)} {ps rs : Array TypeId} {va : Bool} (hx : s.ev x = .one (.fn f cs)) (hy : s.ev y = .one (.val .nilFunc)) (hd : dOk s d = true) (hT : P.underlying xT = some (.func ps rs va)) :
    Ev P [] s ⟨d, .binOp .eql xT x y yT, ty, pos, af, g⟩ (· = s.put d (.one (.val (.bool false)))) :=
  ev_of_val hd rfl fun U a w hv M => by
    have h1 := M.ev x
    rw [hx] at h1
    obtain ⟨vs, e, _⟩ := h1
    have h : (Op.equal xT (.func (.func f) #[] vs.toArray) .nilFunc).run P w = .ok false w := run_equal_fn (d := 9999) hT
    simp [execOp, eqGuard, binOp, e, M.val hy, h]
/-- A closure that is handed out: the box that it names is from then on only read. -/
theorem aw_closure {c0 : Code} (t id : Nat) {f : FuncId} {cs : List CV} (hk : s.kp = []) (ht : get s.env t = .one (.fn f [.ptr id 0])) (hb : look s.heap id = some (.box cs)) (hc : cs.all plainC = true)
    (h : AW P c0 ⟨s.nt, [], [(t, .one (.fn f [.cptr cs]))], []⟩ Q) : AW P c0 s Q := fun n r U T w0 a w hv ok mk => by
  refine h n r U T w0 a w hv ⟨⟨ok.m.nt, ok.m.defers, fun t' => ?_, ⟨fun id b hb => (by cases hb), fun i j x y b h1 => (by cases h1), fun b ⟨_, _, h1, _⟩ => (by cases h1), ok.m.hm.ult, ok.m.hm.tab.sub fun b ⟨_, _, h1, _⟩ => (by cases h1)⟩⟩, ok.fr, fun b ⟨_, _, h1, _⟩ => (by cases h1), fun id hid => by cases hid⟩ mk
  rw [get_cons]
  by_cases htt : t = t'
  · rw [if_pos htt]
    subst htt
    have h1 := ok.m.env t
    rw [ht] at h1
    obtain ⟨vs, e, h2⟩ := h1
    cases h2 with
    | cons h3 h4 =>
      cases h4 with
      | nil =>
        obtain ⟨_, b, h5, rfl⟩ := h3
        obtain ⟨b', ws, ty, h6, h7, h8⟩ := ok.m.hm.blk id _ hb
        rw [h5] at h6
        simp only [Value.pointer.injEq, Option.some.injEq, Addr.mk.injEq, and_true] at h6
        subst h6
        refine ⟨_, e, .cons ?_ .nil⟩
        have hmine : mine s.heap hv b := ⟨id, _, hb, by rw [h5]; rfl⟩
        refine RepC.cptr cs b 0 (fun j => ws.getD j undef) (Array.getElem?_eq_some_iff.1 h7).1 (fun hA => hA.elim (ok.m.hm.avoid b hmine) fun ⟨_, _, h1, _⟩ => by cases h1) (fun j c hj => ?_) fun j c hj => ?_
        · obtain ⟨u, hu, hr⟩ := h8.get hj
          rw [cell_of_row _ b (0 + j) ws ty (0, 0) h7, Nat.zero_add]
          have hu' : ws[j]? = some u := by simpa using hu
          obtain ⟨hlt, e⟩ := Array.getElem?_eq_some_iff.1 hu'
          simp [Array.getD, hlt, e]
        · obtain ⟨u, hu, hr⟩ := h8.get hj
          have hu' : ws[j]? = some u := by simpa using hu
          obtain ⟨hlt, e⟩ := Array.getElem?_eq_some_iff.1 hu'
          have e2 : ws.getD j undef = u := by simp [Array.getD, hlt, e]
          rw [e2]
          have hpl := List.all_eq_true.1 hc c (List.mem_of_getElem? hj)
          exact (repC_of hpl hr).keep (Fr.refl (fun _ => False) w) (fun _ e => e.elim) fun b _ hb => hb.elim .inl fun ⟨_, _, h1, _⟩ => by cases h1
  · rw [if_neg htt]; exact trivial
end
/-! ### an iterator's own code -/
def EnvAt (e : List (Nat × AV)) : List (Nat × AV) → Prop
  | [] => True
  | p :: r => get e p.1 = p.2 ∧ EnvAt e r
/-- Slots are forgotten; the blocks stay. -/
def Less (s s' : ASt) : Prop := s'.nt = s.nt ∧ s'.kp = s.kp ∧ s'.heap = s.heap ∧ EnvAt s.env s'.env
theorem EnvAt.mem {e : List (Nat × AV)} : ∀ {l : List (Nat × AV)}, EnvAt e l → ∀ p, p ∈ l → get e p.1 = p.2
  | [], _, p, hp => by cases hp
  | q :: r, h, p, hp => by
    rcases List.mem_cons.1 hp with rfl | hp
    · exact h.1
    · exact EnvAt.mem h.2 p hp
theorem Less.ok {U T : Nat → Prop} {w0 : Base} {s s' : ASt} {a : Act} {w : World} {hv : Nat → Value} (k : Less s s') (ok : Ok U T w0 s a w hv) : Ok U T w0 s' a w hv := by
  obtain ⟨nt', kp', env', heap'⟩ := s'
  obtain ⟨h1, h2, h3, h4⟩ := k
  simp only at h1 h2 h3 h4
  subst h1; subst h2; subst h3
  refine ⟨⟨ok.m.nt, ok.m.defers, fun t => ?_, ok.m.hm⟩, ok.fr, ok.own, ok.box⟩
  rcases get_mem (env := env') (t := t) with h | h
  · rw [h]; exact trivial
  · have := h4.mem _ h
    simp only at this
    rw [← this]
    exact ok.m.env t
section
variable {P : Program} {s s' : ASt} {U T : Nat → Prop} {w0 : Base} {Z : World → Prop}
def Others (Z : World → Prop) : Prop := ∀ w w', Z w → (∀ (k : Nat) (o : Obj), w.heap[k]? = some o → markO o = true → w'.heap[k]? = some o) → Z w'
theorem region_z (hZ : Others Z) {id : Nat} {l : List Oper} {Q : Exit → ASt → Prop} {a : Act} {w : World} {hv : Nat → Value} (h : AOps P l.toArray l s Q) (hd : noDefer l = true) (ok : Ok U T w0 s a w hv) (hz : Z w) {K : Exit → Act → World → Prop}
    (hK : ∀ e s' a' w' hv', calm e = true → Q e s' → Ok U T w0 s' a' w' hv' → Z w' → K e a' w') : (Code.region id l.toArray false).wpIn (FR none) 0 P K a w := by
  have e : att [] a = a := by cases a; simp [att]
  have h1 := list_in (r := none) (ds := []) (a := a) (Q' := K) (fun e a' w' ⟨hc, s', hv', hq, ok'⟩ => by
    have e' : att [] a' = a' := by cases a'; simp [att]
    rw [e']
    exact hK e s' a' w' hv' hc hq (ok.back ok') (hZ w w' hz (fr_others ok.m.hm ok'.fr))) post_calm l hd (h U _ _ _ w hv ok.base)
  rw [e] at h1
  exact wpIn_region_lit h1
/-- A region's operations, one by one. -/
def IL (P : Program) (U T : Nat → Prop) (w0 : Base) (Z : World → Prop) (ops : Array Oper) (K : Exit → Act → World → Prop) (l : List Oper) (s : ASt) : Prop := ∀ a w hv, Ok U T w0 s a w hv → Z w → wpListIn (FR none) 0 P ops K l a w
variable {ops : Array Oper} {K : Exit → Act → World → Prop} {o : Oper} {rest : List Oper} {X : List Nat}
theorem op_z (hZ : Others Z) (hd : notDefer o.op = true) (he : Ev P X s o (· = s')) {a : Act} {w : World} {hv : Nat → Value} (ok : Ok U T w0 s a w hv) (hz : Z w) {N : Act → World → Prop}
    (hK : ∀ a' w' hv', Ok U T w0 s' a' w' hv' → Z w' → N a' w') : o.wpIn (FR none) 0 P a w N K := by
  have e : ∀ a : Act, att [] a = a := fun a => by cases a; simp [att]
  have h1 := he U _ _ _ w hv ok.base (fun a' w' => ∃ hv', Ok U T w0 s' a' w' hv' ∧ Z w') (fun _ _ _ => False) fun s1 v w1 hv1 hs ok1 _ => by
    subst hs
    exact ⟨hv1, ok.back ok1, hZ w w1 hz (fr_others ok.m.hm ok1.fr)⟩
  have h2 := op_in (r := none) (ds := []) (K' := N) (Q' := K) hd h1 (fun a' w' ⟨hv', h3, h4⟩ => by rw [e]; exact hK a' w' hv' h3 h4) (fun _ _ _ h => h.elim) (fun ⟨_, _, h⟩ => h)
  rwa [e] at h2
theorem il_step (hZ : Others Z) (hg : o.guard = none) (hd : notDefer o.op = true) (he : Ev P X s o (· = s')) (hr : IL P U T w0 Z ops K rest s') : IL P U T w0 Z ops K (o :: rest) s := fun a w hv ok hz => by
  unfold wpListIn
  rw [if_pos (by simp [Region.wanted, hg])]
  exact op_z hZ hd he ok hz hr
theorem il_yes (hZ : Others Z) {j t : Nat} {b want : Bool} (hg : o.guard = some (j, want)) (hdt : (ops[j]?).bind (·.dst) = some t) (ht : get s.env t = .one (.val (.bool b))) (hn : Nat.blt t s.nt = true) (hb : b = want) (hd : notDefer o.op = true) (he : Ev P X s o (· = s')) (hr : IL P U T w0 Z ops K rest s') : IL P U T w0 Z ops K (o :: rest) s := fun a w hv ok hz => by
  unfold wpListIn
  have hy := yielded_get ok.m hdt ht (by simpa [Nat.blt_eq] using hn)
  rw [if_pos (by simp [Region.wanted, hg, hy, hb])]
  exact op_z hZ hd he ok hz hr
theorem il_no {j t : Nat} {b want : Bool} (hg : o.guard = some (j, want)) (hdt : (ops[j]?).bind (·.dst) = some t) (ht : get s.env t = .one (.val (.bool b))) (hn : Nat.blt t s.nt = true) (hb : (b == want) = false) (hd : dOk s o.dst = true) (hr : IL P U T w0 Z ops K rest (s.put o.dst (.tup []))) : IL P U T w0 Z ops K (o :: rest) s := fun a w hv ok hz => by
  unfold wpListIn
  have hy := yielded_get ok.m hdt ht (by simpa [Nat.blt_eq] using hn)
  rw [if_neg (by simp [Region.wanted, hg, hy]; simpa using hb)]
  refine ⟨fun _ _ => trivial, hr _ _ hv ?_ hz⟩
  exact ok.next (Fr.refl (fun _ => False) w) (fun _ e => e.elim) (fun _ id _ => Pass.refl _ _ id) (fun id _ => Pass.refl _ _ id) ok.m.hm (fun _ h _ => h) (d := o.dst) (r := .tup []) (v := undef) ⟨[], rfl, .nil⟩ hd
theorem il_und {j t : Nat} {want : Bool} (hg : o.guard = some (j, want)) (hw : ∀ a w hv, Ok U T w0 s a w hv → Region.wanted o (yielded ops a.tmps) = false) (hd : dOk s o.dst = true) (hr : IL P U T w0 Z ops K rest (s.put o.dst (.tup []))) : IL P U T w0 Z ops K (o :: rest) s := fun a w hv ok hz => by
  unfold wpListIn
  rw [if_neg (by rw [hw a w hv ok]; simp)]
  refine ⟨fun _ _ => trivial, hr _ _ hv ?_ hz⟩
  exact ok.next (Fr.refl (fun _ => False) w) (fun _ e => e.elim) (fun _ id _ => Pass.refl _ _ id) (fun id _ => Pass.refl _ _ id) ok.m.hm (fun _ h _ => h) (d := o.dst) (r := .tup []) (v := undef) ⟨[], rfl, .nil⟩ hd
theorem il_at (j t : Nat) {b : Bool} (hg : o.guard = some (j, b)) (hdt : (ops[j]?).bind (·.dst) = some t) (ht : get s.env t = .one (.val (.bool b))) (hn : Nat.blt t s.nt = true)
    (h : ∀ a w hv, Ok U T w0 s a w hv → Z w → o.wpIn (FR none) 0 P a w (wpListIn (FR none) 0 P ops K rest) K) : IL P U T w0 Z ops K (o :: rest) s := fun a w hv ok hz => by
  unfold wpListIn
  have hy := yielded_get ok.m hdt ht (by simpa [Nat.blt_eq] using hn)
  rw [if_pos (by simp [Region.wanted, hg, hy])]
  exact h a w hv ok hz
theorem run_call_yield {d : Option Tmp} {x : Operand} {args : Array Operand} {tys : Array TypeId} {ty : TypeId} {pos : String} {af : Array Edge} {g : Option (Nat × Bool)} {a : Act} {w : World} {l : Nat} {rec : Loop} (hx : a.eval x = .func (.yield l) #[] #[]) (hrec : w.heap[l]? = some (.loop rec)) (hs : args.size = rec.params.size) :
    (execOp a.eval ⟨d, .call { callee := .value x, args := args, argTypes := tys }, ty, pos, af, g⟩).run P w = .ok (.round l rec.fn ((rec.params.zip (args.map a.eval)).foldl (fun tmps (t, a) => tmps.setIfInBounds t a) rec.tmps) rec.assign rec.body) w := by
  have := run_yield (P := P) (args := args.map a.eval) hrec (by simpa using hs)
  simp only [execOp, resolve, hx, Sem.run_bind, Sem.run_pure, Result.andThen_ok]
  have h2 : (Deferred.ofValue (.func (.yield l) #[] #[]) (Array.map a.eval args)).run P w = .ok { target := .fn (.yield l) #[], args := args.map a.eval } w := by
    simp [Deferred.ofValue]
  rw [h2]
  simp only [Result.andThen_ok, invoke]
  exact this
/-- The values of some slots, and no more. -/
def RawAt (n : Nat) (fs : List (Nat × Value)) (a : Act) : Prop := a.tmps.size = n ∧ a.defers = [] ∧ ∀ p, p ∈ fs → a.tmps[p.1]? = some p.2
def RL (P : Program) (ops : Array Oper) (K : Exit → Act → World → Prop) (l : List Oper) (n : Nat) (fs : List (Nat × Value)) (w : World) : Prop := ∀ a, RawAt n fs a → wpListIn (FR none) 0 P ops K l a w
theorem RawAt.eval {n : Nat} {fs : List (Nat × Value)} {a : Act} (h : RawAt n fs a) {t : Nat} {v : Value} (hm : (t, v) ∈ fs) : a.eval (.tmp t) = v := by
  have := h.2.2 _ hm
  show a.tmps.getD t undef = v
  simp only at this
  obtain ⟨hlt, e⟩ := Array.getElem?_eq_some_iff.1 this
  simp [Array.getD, hlt, e]
theorem RawAt.put {n : Nat} {fs : List (Nat × Value)} {a : Act} (h : RawAt n fs a) {d : Nat} (v : Value) (hd : d < n) (hn : ∀ p, p ∈ fs → p.1 ≠ d) : RawAt n ((d, v) :: fs) (a.put (some d) v) := by
  refine ⟨?_, h.2.1, fun p hp => ?_⟩
  · show (a.tmps.setIfInBounds d v).size = n
    simp [h.1]
  · show (a.tmps.setIfInBounds d v)[p.1]? = some p.2
    rcases List.mem_cons.1 hp with rfl | hp
    · simp [h.1, hd]
    · rw [Array.getElem?_setIfInBounds_ne (Ne.symm (hn p hp))]
      exact h.2.2 p hp
theorem rl_step {n d : Nat} {fs : List (Nat × Value)} {w : World} {v : Value} {j t : Nat} {b : Bool} (hg : o.guard = none ∨ (o.guard = some (j, b) ∧ (ops[j]?).bind (·.dst) = some t ∧ (t, .bool b) ∈ fs)) (hd : notDefer o.op = true) (hdst : o.dst = some d) (hlt : d < n) (hn : ∀ p, p ∈ fs → p.1 ≠ d) (hrun : ∀ a, RawAt n fs a → (execOp a.eval o).run P w = .ok (.value v) w)
    (hr : RL P ops K rest n ((d, v) :: fs) w) : RL P ops K (o :: rest) n fs w := fun a ha => by
  unfold wpListIn
  have hw : Region.wanted o (yielded ops a.tmps) = true := by
    rcases hg with hg | ⟨hg, h1, h2⟩
    · simp [Region.wanted, hg]
    · have := ha.2.2 _ h2
      simp only at this
      have hy : yielded ops a.tmps j = some b := by simp [yielded, h1, this]
      simp [Region.wanted, hg, hy]
  rw [if_pos hw]
  refine ⟨fun _ _ => trivial, ?_⟩
  rw [Oper.semAt_eq _ _ _ (notDefer_ne hd), hrun a ha, Oper.uponIn_value, hdst]
  exact hr _ (ha.put v hlt hn)
/-- The call that asks for a round. Slots hold no names: they stay as they are. -/
theorem Ok.kept {l : Nat} {H' : Heap} {a : Act} {w w' : World} {hv hv' : Nat → Value} (hU : U l) (ok : Ok U T w0 s a w hv) (hl : w0.w.heap.size ≤ l) (hi : (envIds s.env).isEmpty = true) (ok' : Ok U (fun b => mine s.heap hv b ∨ b = l) (w0.at w) ⟨0, s.kp, [], H'⟩ naked w' hv') : Ok U T w0 ⟨s.nt, s.kp, s.env, H'⟩ a w' hv' := by
  have h1 := ok.back' hl ok'
  refine ⟨⟨ok.m.nt, ok.m.defers, fun t => (ok.m.env t).keep (fun id hid => ?_) ok'.fr (fun b hb => ?_) (fun b hlt hb => ?_), h1.m.hm⟩, h1.fr, h1.own, h1.box⟩
  · have := get_ids hid
    rw [List.isEmpty_iff.1 hi] at this
    cases this
  · rcases hb with hb | hb
    · exact .inr hb
    · subst hb; exact .inl hU
  · rcases hb with hb | hb
    · exact .inl hb
    · rcases ok'.own b hb hlt with h | h
      · exact .inr h
      · subst h; exact .inl hU
end
end Abs
end Go.Proofs.YtjpiiejdaiaocaaDoor
namespace Go.Proofs.YtjpiiejdaiaocaaDoor
open Go.ChangeShapes Go.WideShapes Go.RowKit
set_option linter.unusedVariables false
set_option linter.unusedSimpArgs false
namespace Abs
/-- A block of one's own becomes b. -/
def ASt.setB (s : ASt) (id : Nat) (b : Option Blk) : ASt := { s with heap := (id, b) :: s.heap }
theorem SD_setB {D : Nat → Bool} {id : Nat} {b : Option Blk} : ∀ (i : Nat) (os : List Oper) (xs : List Add) (s s' : ASt), (∀ x, x ∈ xs → id ∉ x.blks.map (·.1)) → (∀ t, get s'.env t = get s.env t) → (∀ j, look s'.heap j = if id = j then b else look s.heap j) →
    (∀ t, get (SD D i os xs s').env t = get (SD D i os xs s).env t) ∧ ∀ j, look (SD D i os xs s').heap j = if id = j then b else look (SD D i os xs s).heap j
  | i, [], xs, s, s', _, h1, h2 => by cases xs <;> exact ⟨h1, h2⟩
  | i, _ :: _, [], s, s', _, h1, h2 => ⟨h1, h2⟩
  | i, o :: os, x :: xs, s, s', hx, h1, h2 => by
    simp only [SD]
    refine SD_setB (i + 1) os xs _ _ (fun y hy => hx y (by simp [hy])) (fun t => ?_) fun j => ?_
    · split
      · rw [add_get, add_get, h1]
      · exact h1 t
    · split
      · rw [add_look, add_look, h2]
        by_cases hj : id = j
        · subst hj; rw [if_pos rfl, if_pos rfl, if_neg (hx x (by simp))]
        · rw [if_neg hj, if_neg hj]
      · exact h2 j
/-- Slots that i may read though the first part writes them: whoever writes them waits for i. -/
def unOk (l : List Oper) (m i : Nat) (un : List Nat) : Bool := un.all fun t => (l.take m).all fun o => (match o.dst with | some t' => !Nat.beq t' t | none => true) || (Oper.edges o).contains i
def hidden (l : List Oper) (m : Nat) (un : List Nat) : List Nat := (dsts (l.take m)).filter fun t => !memB un t
/-- A store of the first part: its place, the places ahead of it, the variable, what it holds then. -/
abbrev StoreAt := Nat × List Nat × Nat × List CV
def phase (D : Nat → Bool) : List StoreAt → ASt → ASt
  | [], s => s
  | (e, _, bx, cs) :: r, s => if D e then phase D r (s.setB bx (some (.box cs))) else s
def lastS : List StoreAt → ASt → ASt
  | [], s => s
  | (_, _, bx, cs) :: r, s => lastS r (s.setB bx (some (.box cs)))
/-- What operation i does in each phase in which it may run. -/
def PhOb (P : Program) (l : List Oper) (m i : Nat) (deps un : List Nat) (o : Oper) (x : Add) (al : List Add) : List StoreAt → List Nat → ASt → Prop
  | [], K, s => memB K i = true ∨ ∀ S, Le (SD (memB deps) 0 (l.take m) al (s.hide (hidden l m un))) S → (∀ id, id ∈ x.blks.map (·.1) → look S.heap id = none) → Ob P l.toArray S o x
  | (e, Ke, bx, cs) :: r, K, s => (memB deps e = true ∨ memB K i = true ∨ ∀ S, Le (SD (memB deps) 0 (l.take m) al (s.hide (hidden l m un))) S → (∀ id, id ∈ x.blks.map (·.1) → look S.heap id = none) → Ob P l.toArray S o x) ∧ PhOb P l m i deps un o x al r Ke (s.setB bx (some (.box cs)))
def isSt (sts : List StoreAt) (i : Nat) : Bool := sts.any fun q => Nat.beq q.1 i
def Obs3 (P : Program) (l : List Oper) (m : Nat) (sts : List StoreAt) (al : List Add) (s : ASt) : Nat → List Oper → List Add → Prop
  | i, o :: os, x :: xs => (isSt sts i = true ∨ ∃ deps un, depsOk l i [] deps = true ∧ unOk l m i un = true ∧ PhOb P l m i deps un o x al sts [] s) ∧ Obs3 P l m sts al s (i + 1) os xs
  | _, [], [] => True
  | _, _, _ => False
theorem Obs3.at {P : Program} {l : List Oper} {m : Nat} {sts : List StoreAt} {al : List Add} {s : ASt} : ∀ {k : Nat} {os : List Oper} {xs : List Add}, Obs3 P l m sts al s k os xs → ∀ {i : Nat} {o : Oper}, os[i]? = some o →
    ∃ x, xs[i]? = some x ∧ (isSt sts (k + i) = true ∨ ∃ deps un, depsOk l (k + i) [] deps = true ∧ unOk l m (k + i) un = true ∧ PhOb P l m (k + i) deps un o x al sts [] s)
  | k, o :: os, x :: xs, h, 0, o', ho => by
    simp at ho; subst ho
    exact ⟨x, rfl, h.1⟩
  | k, o :: os, x :: xs, h, i + 1, o', ho => by
    obtain ⟨x', h1, h2⟩ := Obs3.at h.2 (i := i) (by simpa using ho)
    refine ⟨x', by simpa using h1, ?_⟩
    rw [show k + (i + 1) = k + 1 + i by omega]
    exact h2
  | _, [], [], _, i, o, ho => by simp at ho
  | _, [], _ :: _, h, _, _, _ => h.elim
  | _, _ :: _, [], h, _, _, _ => h.elim
theorem Obs3.length {P : Program} {l : List Oper} {m : Nat} {sts : List StoreAt} {al : List Add} {s : ASt} : ∀ {k : Nat} {os : List Oper} {xs : List Add}, Obs3 P l m sts al s k os xs → os.length = xs.length
  | _, [], [], _ => rfl
  | _, o :: os, x :: xs, h => by rw [List.length_cons, List.length_cons, Obs3.length h.2]
  | _, [], _ :: _, h => h.elim
  | _, _ :: _, [], h => h.elim
/-- What is asked of the stores. -/
def StOk (P : Program) (l : List Oper) (m : Nat) (al : List Add) : List StoreAt → Option Nat → ASt → Prop
  | [], _, _ => True
  | (e, Ke, bx, cs) :: r, prev, s => (Nat.blt e m = true ∧ (match prev with | some p => memB Ke p && Nat.blt p e | none => true) = true ∧ depsOk l e [] Ke = true ∧ memB (keysOf al) bx = false ∧ (match al[e]? with | some x => x.blks.isEmpty | none => true) = true ∧
      ∃ oe X, l[e]? = some oe ∧ oe.guard = none ∧ oe.dst = none ∧ ∀ S, Le (SD (memB Ke) 0 (l.take m) al (s.hide (hidden l m []))) S → Ev P X S oe (· = S.setB bx (some (.box cs)))) ∧ StOk P l m al r (some e) (s.setB bx (some (.box cs)))
section
variable {P : Program} {l : List Oper} {m : Nat} {al : List Add}
theorem phase_nt (D : Nat → Bool) : ∀ (sts : List StoreAt) (s : ASt), (phase D sts s).nt = s.nt ∧ (phase D sts s).kp = s.kp
  | [], s => ⟨rfl, rfl⟩
  | (e, K, bx, cs) :: r, s => by
    show (if D e then phase D r (s.setB bx (some (.box cs))) else s).nt = _ ∧ (if D e then phase D r (s.setB bx (some (.box cs))) else s).kp = _
    split
    · exact phase_nt D r _
    · exact ⟨rfl, rfl⟩
theorem keys_no {bx : Nat} (h : memB (keysOf al) bx = false) : ∀ x, x ∈ al → bx ∉ x.blks.map (·.1) := fun x hx hi => by
  have : memB (keysOf al) bx = true := List.any_eq_true.2 ⟨bx, List.mem_flatMap.2 ⟨x, hx, hi⟩, Nat.beq_refl bx⟩
  rw [h] at this; cases this
theorem Apart.setB {s : ASt} {bx : Nat} {b : Option Blk} (ap : Apart l m al s) (h : memB (keysOf al) bx = false) : Apart l m al (s.setB bx b) := ⟨ap.len, ap.dst, ap.key, fun i x j h1 h2 => by
  show look ((bx, _) :: s.heap) j = none
  rw [look_cons, if_neg (fun (e : bx = j) => keys_no h x (List.mem_of_getElem? h1) (by rw [e]; exact h2))]
  exact ap.fresh i x j h1 h2⟩
theorem phase_ap (D : Nat → Bool) : ∀ (sts : List StoreAt) (prev : Option Nat) (s : ASt), Apart l m al s → StOk P l m al sts prev s → Apart l m al (phase D sts s)
  | [], _, s, ap, _ => ap
  | (e, K, bx, cs) :: r, prev, s, ap, h => by
    show Apart l m al (if D e then phase D r (s.setB bx (some (.box cs))) else s)
    split
    · exact phase_ap D r (some e) _ (ap.setB h.1.2.2.2.1) h.2
    · exact ap
theorem phase_all (D : Nat → Bool) : ∀ (sts : List StoreAt) (prev : Option Nat) (s : ASt), StOk P l m al sts prev s → (∀ k, k < m → D k = true) → phase D sts s = lastS sts s
  | [], _, s, _, _ => rfl
  | (e, K, bx, cs) :: r, prev, s, h, hD => by
    show (if D e then phase D r (s.setB bx (some (.box cs))) else s) = lastS r (s.setB bx (some (.box cs)))
    rw [if_pos (hD e (by simpa [Nat.blt_eq] using h.1.1))]
    exact phase_all D r (some e) _ h.2 hD
theorem phase_none (D : Nat → Bool) : ∀ (sts : List StoreAt) (s : ASt), (∀ k, ¬ D k = true) → phase D sts s = s
  | [], s, _ => rfl
  | (e, K, bx, cs) :: r, s, hD => if_neg (hD e)
theorem phase_same {D D' : Nat → Bool} {i : Nat} (hD : ∀ j, D' j = true ↔ (D j = true ∨ j = i)) : ∀ (sts : List StoreAt) (s : ASt), isSt sts i = false → phase D' sts s = phase D sts s
  | [], s, _ => rfl
  | (e, K, bx, cs) :: r, s, h => by
    have h1 : (Nat.beq e i || isSt r i) = false := h
    rw [Bool.or_eq_false_iff] at h1
    have hne : e ≠ i := fun q => by rw [q, Nat.beq_refl] at h1; cases h1.1
    show (if D' e then phase D' r (s.setB bx (some (.box cs))) else s) = (if D e then phase D r (s.setB bx (some (.box cs))) else s)
    by_cases he : D e = true
    · rw [if_pos he, if_pos ((hD e).2 (.inl he))]
      exact phase_same hD r _ h1.2
    · rw [if_neg he, if_neg (fun q => ((hD e).1 q).elim he hne)]
theorem closed_K {D : Nat → Bool} (hcl : ∀ k o, l[k]? = some o → D k = true → ∀ j, j ∈ Oper.edges o → D j = true) {e : Nat} {K : List Nat} (hK : depsOk l e [] K = true) (he : ∀ o, l[e]? = some o → ∀ j, j ∈ Oper.edges o → D j = true) : ∀ j, j ∈ K → D j = true :=
  depsOk_sound (fun k o hk hor j hj => by
    rcases hor with h | h
    · exact hcl k o hk h j hj
    · subst h; exact he o hk j hj) [] K (fun j hj => by cases hj) hK
theorem phase_ob {D : Nat → Bool} {i : Nat} {deps un : List Nat} {o : Oper} {x : Add} (hcl : ∀ k o, l[k]? = some o → D k = true → ∀ j, j ∈ Oper.edges o → D j = true) (hi : ¬ D i = true) (hdeps : ∀ j, j ∈ deps → D j = true) {S : ASt} : ∀ (sts : List StoreAt) (prev : Option Nat) (K : List Nat) (s : ASt), StOk P l m al sts prev s → PhOb P l m i deps un o x al sts K s → (∀ j, j ∈ K → D j = true) →
    Le (SD (memB deps) 0 (l.take m) al ((phase D sts s).hide (hidden l m un))) S → (∀ id, id ∈ x.blks.map (·.1) → look S.heap id = none) → Ob P l.toArray S o x
  | [], prev, K, s, _, h, hK, hle, hfr => (h.resolve_left fun q => hi (hK i (memB_mem q))) S hle hfr
  | (e, Ke, bx, cs) :: r, prev, K, s, hs, h, hK, hle, hfr => by
    by_cases he : D e = true
    · have e1 : phase D ((e, Ke, bx, cs) :: r) s = phase D r (s.setB bx (some (.box cs))) := if_pos he
      rw [e1] at hle
      exact phase_ob hcl hi hdeps r (some e) Ke _ hs.2 h.2 (closed_K hcl hs.1.2.2.1 fun o ho => hcl e o ho he) hle hfr
    · have e1 : phase D ((e, Ke, bx, cs) :: r) s = s := if_neg he
      rw [e1] at hle
      exact ((h.1.resolve_left fun q => he (hdeps e (memB_mem q))).resolve_left fun q => hi (hK i (memB_mem q))) S hle hfr
theorem chain_first {D : Nat → Bool} (hcl : ∀ k o, l[k]? = some o → D k = true → ∀ j, j ∈ Oper.edges o → D j = true) : ∀ (sts : List StoreAt) (p : Nat) (s : ASt) (i : Nat), StOk P l m al sts (some p) s → isSt sts i = true → (∀ o, l[i]? = some o → ∀ j, j ∈ Oper.edges o → D j = true) → D p = true
  | [], p, s, i, _, h, _ => by cases h
  | (e, Ke, bx, cs) :: r, p, s, i, hs, h, hi => by
    have h1 : (Nat.beq e i || isSt r i) = true := h
    have hp : memB Ke p = true := by have := hs.1.2.1; rw [Bool.and_eq_true] at this; exact this.1
    rw [Bool.or_eq_true] at h1
    rcases h1 with h1 | h1
    · have : e = i := Nat.eq_of_beq_eq_true h1
      subst this
      exact closed_K hcl hs.1.2.2.1 hi p (memB_mem hp)
    · have he := chain_first hcl r e _ i hs.2 h1 hi
      exact closed_K hcl hs.1.2.2.1 (fun o ho => hcl e o ho he) p (memB_mem hp)
theorem phase_store {D D' : Nat → Bool} {i : Nat} (hcl : ∀ k o, l[k]? = some o → D k = true → ∀ j, j ∈ Oper.edges o → D j = true) (hi : ¬ D i = true) (hie : ∀ o, l[i]? = some o → ∀ j, j ∈ Oper.edges o → D j = true) (hD : ∀ j, D' j = true ↔ (D j = true ∨ j = i)) : ∀ (sts : List StoreAt) (prev : Option Nat) (s : ASt), StOk P l m al sts prev s → isSt sts i = true →
    ∃ Ke bx cs oe X, (∀ j, j ∈ Ke → D j = true) ∧ memB (keysOf al) bx = false ∧ (∀ x, al[i]? = some x → x.blks.isEmpty = true) ∧ l[i]? = some oe ∧ oe.guard = none ∧ oe.dst = none ∧
      (∀ S, Le (SD (memB Ke) 0 (l.take m) al ((phase D sts s).hide (hidden l m []))) S → Ev P X S oe (· = S.setB bx (some (.box cs)))) ∧ phase D' sts s = (phase D sts s).setB bx (some (.box cs))
  | [], prev, s, _, h => by cases h
  | (e, Ke, bx, cs) :: r, prev, s, hs, h => by
    have h1 : (Nat.beq e i || isSt r i) = true := h
    rw [Bool.or_eq_true] at h1
    by_cases he : D e = true
    · have hne : e ≠ i := fun q => hi (q ▸ he)
      have e1 : phase D ((e, Ke, bx, cs) :: r) s = phase D r (s.setB bx (some (.box cs))) := if_pos he
      have e2 : phase D' ((e, Ke, bx, cs) :: r) s = phase D' r (s.setB bx (some (.box cs))) := if_pos ((hD e).2 (.inl he))
      rw [e1, e2]
      exact phase_store hcl hi hie hD r (some e) _ hs.2 (h1.resolve_left fun q => hne (Nat.eq_of_beq_eq_true q))
    · have hie2 : e = i := by
        rcases h1 with h1 | h1
        · exact Nat.eq_of_beq_eq_true h1
        · exact absurd (chain_first hcl r e _ i hs.2 h1 hie) he
      subst hie2
      obtain ⟨⟨_, _, hK, hk, hx, oe, X, ho, hg, hd, hev⟩, hr⟩ := hs
      have e1 : phase D ((e, Ke, bx, cs) :: r) s = s := if_neg he
      have e2 : phase D' ((e, Ke, bx, cs) :: r) s = s.setB bx (some (.box cs)) := by
        refine (if_pos ((hD e).2 (.inr rfl))).trans ?_
        cases r with
        | nil => rfl
        | cons q r =>
          obtain ⟨e2, K2, b2, c2⟩ := q
          have hp := hr.1.2.1
          rw [Bool.and_eq_true] at hp
          refine if_neg fun q => ?_
          rcases (hD e2).1 q with q | q
          · exact he (closed_K hcl hr.1.2.2.1 (fun o ho => hcl e2 o ho q) e (memB_mem hp.1))
          · subst q
            have := hp.2
            simp [Nat.blt_eq] at this
      rw [e1, e2]
      exact ⟨Ke, bx, cs, oe, X, closed_K hcl hK hie, hk, fun x hx' => by rw [hx'] at hx; exact hx, ho, hg, hd, hev, rfl⟩
end
theorem Ok.equiv' {U T : Nat → Prop} {w0 : Base} {s s' : ASt} {a : Act} {w : World} {hv : Nat → Value} (ok : Ok U T w0 s a w hv) (h1 : s'.nt = s.nt) (h2 : s'.kp = s.kp) (h : (∀ t, get s'.env t = get s.env t) ∧ ∀ id, look s'.heap id = look s.heap id) : Ok U T w0 s' a w hv := ok.equiv h1 h2 h.1 h.2
section
variable {P : Program} {l : List Oper} {m : Nat} {al : List Add} {s : ASt} {Q : Exit → ASt → Prop}
theorem SD_le2 (ap : Apart l m al s) {D D' : Nat → Bool} {H : List Nat} (h : ∀ i, D i = true → D' i = true) (hH : ∀ (j : Nat) (o : Oper) (t : Nat), (l.take m)[j]? = some o → o.dst = some t → D' j = true → D j = true ∨ t ∈ H) :
    Le (SD D 0 (l.take m) al (s.hide H)) (SD D' 0 (l.take m) al s) := by
  refine ⟨by rw [(SD_nt _ _ _ _).1, (SD_nt _ _ _ _).1]; rfl, by rw [(SD_nt _ _ _ _).2, (SD_nt _ _ _ _).2]; rfl, fun t ht => ?_, fun id b hb => ?_⟩
  · by_cases hex : ∃ (j : Nat) (o : Oper), (l.take m)[j]? = some o ∧ o.dst = some t
    · obtain ⟨j, o, h1, h2⟩ := hex
      have hjl : j < al.length := by rw [← ap.len]; exact (List.getElem?_eq_some_iff.1 h1).1
      have hx : al[j]? = some al[j] := List.getElem?_eq_getElem hjl
      have hu : ∀ (j' : Nat) (o' : Oper), (l.take m)[j']? = some o' → j' < al.length → o'.dst = some t → j' = j := fun j' o' h3 _ h4 => ap.dst j' j o' o t h3 h1 h4 h2
      by_cases hD : D j = true
      · rw [SD_get_some 0 _ al _ t j o _ h1 hx h2 (by simpa using h j hD) hu, SD_get_some 0 _ al _ t j o _ h1 hx h2 (by simpa using hD) hu]
      · have hl : get (SD D 0 (l.take m) al (s.hide H)).env t = get (s.hide H).env t := SD_get_none 0 _ al _ t fun j' o' h3 h4 h5 h6 => by rw [hu j' o' h3 h5 h6] at h4; simp at h4; exact hD h4
        rw [hl, hide_get] at ht ⊢
        by_cases hT : t ∈ H
        · rw [if_pos hT] at ht; exact absurd rfl ht
        · rw [if_neg hT]
          refine SD_get_none 0 _ al _ t fun j' o' h3 h4 h5 h6 => ?_
          rw [hu j' o' h3 h5 h6] at h4
          rcases hH j o t h1 h2 (by simpa using h4) with h7 | h7
          · exact hD h7
          · exact hT h7
    · have hn : ∀ (D : Nat → Bool) (j : Nat) (o : Oper), (l.take m)[j]? = some o → D (0 + j) = true → j < al.length → o.dst ≠ some t := fun D j o h1 _ _ h2 => hex ⟨j, o, h1, h2⟩
      rw [SD_get_none 0 _ al _ t (hn D)] at ht ⊢
      rw [SD_get_none 0 _ al _ t (hn D')]
      rw [hide_get] at ht ⊢
      by_cases hT : t ∈ H
      · rw [if_pos hT] at ht; exact absurd rfl ht
      · rw [if_neg hT]
  · by_cases hex : ∃ (j : Nat) (x : Add), al[j]? = some x ∧ id ∈ x.blks.map (·.1)
    · obtain ⟨j, x, h1, h2⟩ := hex
      have hjl : j < (l.take m).length := by rw [ap.len]; exact (List.getElem?_eq_some_iff.1 h1).1
      have hu : ∀ (j' : Nat) (x' : Add), al[j']? = some x' → id ∈ x'.blks.map (·.1) → j' = j := fun j' x' h3 h4 => ap.key j' j x' x id h3 h1 h4 h2
      by_cases hD : D j = true
      · rw [SD_look_some 0 _ al _ id j x hjl h1 h2 (by simpa using hD) hu] at hb
        rw [SD_look_some 0 _ al _ id j x hjl h1 h2 (by simpa using h j hD) hu]
        exact hb
      · rw [SD_look_none 0 _ al _ id fun j' x' h3 h4 h5 h6 => by rw [hu j' x' h3 h6] at h4; simp at h4; exact hD h4] at hb
        have := ap.fresh j x id h1 h2
        rw [show look (s.hide H).heap id = look s.heap id from rfl, this] at hb
        cases hb
    · have hn : ∀ (D : Nat → Bool) (j : Nat) (x : Add), al[j]? = some x → D (0 + j) = true → j < (l.take m).length → id ∉ x.blks.map (·.1) := fun D j x h1 _ _ h2 => hex ⟨j, x, h1, h2⟩
      rw [SD_look_none 0 _ al _ id (hn D)] at hb
      rw [SD_look_none 0 _ al _ id (hn D')]
      exact hb
theorem SD_fresh2 (ap : Apart l m al s) {D : Nat → Bool} {i : Nat} {x : Add} (hx : al[i]? = some x) (hi : ¬ D i = true) : ∀ id, id ∈ x.blks.map (·.1) → look (SD D 0 (l.take m) al s).heap id = none := fun id hid => by
  rw [SD_look_none 0 _ al _ id fun j' x' h3 h4 h5 h6 => by rw [ap.key j' i x' x id h3 hx h6 hid] at h4; simp at h4; exact hi h4]
  exact ap.fresh i x id hx hid
theorem SD_add2 (ap : Apart l m al s) (s0 : ASt) {D D' : Nat → Bool} {i : Nat} {o : Oper} {x : Add} (ho : (l.take m)[i]? = some o) (hx : al[i]? = some x) (hi : ¬ D i = true) (hD : ∀ j, D' j = true ↔ (D j = true ∨ j = i)) :
    (∀ t, get (SD D' 0 (l.take m) al s0).env t = get ((SD D 0 (l.take m) al s0).add o.dst x).env t) ∧
    ∀ id, look (SD D' 0 (l.take m) al s0).heap id = look ((SD D 0 (l.take m) al s0).add o.dst x).heap id := by
  have hil : i < al.length := (List.getElem?_eq_some_iff.1 hx).1
  have hil2 : i < (l.take m).length := (List.getElem?_eq_some_iff.1 ho).1
  refine ⟨fun t => ?_, fun id => ?_⟩
  · rw [add_get]
    by_cases hd : o.dst = some t
    · rw [if_pos hd]
      exact SD_get_some 0 _ al _ t i o x ho hx hd (by simpa using (hD i).2 (.inr rfl)) fun j' o' h3 _ h4 => ap.dst j' i o' o t h3 ho h4 hd
    · rw [if_neg hd]
      by_cases hex : ∃ (j : Nat) (o : Oper), (l.take m)[j]? = some o ∧ o.dst = some t ∧ D j = true
      · obtain ⟨j, o1, h1, h2, h3⟩ := hex
        have hjl : j < al.length := by rw [← ap.len]; exact (List.getElem?_eq_some_iff.1 h1).1
        have hx1 : al[j]? = some al[j] := List.getElem?_eq_getElem hjl
        have hu : ∀ (j' : Nat) (o' : Oper), (l.take m)[j']? = some o' → j' < al.length → o'.dst = some t → j' = j := fun j' o' h3 _ h4 => ap.dst j' j o' o1 t h3 h1 h4 h2
        rw [SD_get_some 0 _ al _ t j o1 _ h1 hx1 h2 (by simpa using (hD j).2 (.inl h3)) hu, SD_get_some 0 _ al _ t j o1 _ h1 hx1 h2 (by simpa using h3) hu]
      · rw [SD_get_none 0 _ al _ t fun j o1 h1 h2 h3 h4 => ?_, SD_get_none 0 _ al _ t fun j o1 h1 h2 h3 h4 => hex ⟨j, o1, h1, h4, by simpa using h2⟩]
        rcases (hD j).1 (by simpa using h2) with h5 | h5
        · exact hex ⟨j, o1, h1, h4, h5⟩
        · subst h5; rw [ho] at h1; injection h1 with h1; subst h1; exact hd h4
  · rw [add_look]
    by_cases hd : id ∈ x.blks.map (·.1)
    · rw [if_pos hd]
      exact SD_look_some 0 _ al _ id i x hil2 hx hd (by simpa using (hD i).2 (.inr rfl)) fun j' x' h3 h4 => ap.key j' i x' x id h3 hx h4 hd
    · rw [if_neg hd]
      by_cases hex : ∃ (j : Nat) (x : Add), al[j]? = some x ∧ id ∈ x.blks.map (·.1) ∧ D j = true
      · obtain ⟨j, x1, h1, h2, h3⟩ := hex
        have hjl : j < (l.take m).length := by rw [ap.len]; exact (List.getElem?_eq_some_iff.1 h1).1
        have hu : ∀ (j' : Nat) (x' : Add), al[j']? = some x' → id ∈ x'.blks.map (·.1) → j' = j := fun j' x' h3 h4 => ap.key j' j x' x1 id h3 h1 h4 h2
        rw [SD_look_some 0 _ al _ id j x1 hjl h1 h2 (by simpa using (hD j).2 (.inl h3)) hu, SD_look_some 0 _ al _ id j x1 hjl h1 h2 (by simpa using h3) hu]
      · rw [SD_look_none 0 _ al _ id fun j x1 h1 h2 h3 h4 => ?_, SD_look_none 0 _ al _ id fun j x1 h1 h2 h3 h4 => hex ⟨j, x1, h1, h4, by simpa using h2⟩]
        rcases (hD j).1 (by simpa using h2) with h5 | h5
        · exact hex ⟨j, x1, h1, h4, h5⟩
        · subst h5; rw [hx] at h1; injection h1 with h1; subst h1; exact hd h4

theorem draw_stores {sts : List StoreAt} (hst : staticOk l m = true) (hkeys : nodupB (keysOf al) = true) (hfr : ∀ id, id ∈ keysOf al → look s.heap id = none) (hok : StOk P l m al sts none s) (hob : Obs3 P l m sts al s 0 (l.take m) al)
    (hrest : AOps P l.toArray (l.drop m) (SD (fun _ => true) 0 (l.take m) al (lastS sts s)) Q) {U T : Nat → Prop} {w0 : Base} {a : Act} {w : World} {hv : Nat → Value} (ok : Ok U T w0 s a w hv) :
    wpAny P .any l.toArray (Post U T w0 Q) l.toArray.size (Array.replicate l.toArray.size false) a w := by
  simp only [staticOk, Bool.and_eq_true] at hst
  obtain ⟨⟨⟨hback, hsuf⟩, hm⟩, hdst⟩ := hst
  have hm' := Nat.le_of_ble_eq_true hm
  have ap : Apart l m al s := by
    refine ⟨Obs3.length hob, fun i j o o' t h1 h2 h3 h4 => nodup_filterMap (nodupB_nodup hdst) i j o o' t h1 h2 h3 h4, fun i j x y id h1 h2 h3 h4 => nodup_flatMap (nodupB_nodup hkeys) i j x y id h1 h2 h3 h4, fun i x id h1 h2 => hfr id (List.mem_flatMap.2 ⟨x, List.mem_of_getElem? h1, h2⟩)⟩
  let B : (Nat → Bool) → ASt := fun D => phase D sts s
  have apB : ∀ D, Apart l m al (B D) := fun D => phase_ap D sts none s ap hok
  have Bnt : ∀ D, (B D).nt = s.nt ∧ (B D).kp = s.kp := fun D => phase_nt D sts s
  have hbk : ∀ i o, l[i]? = some o → ∀ j, j ∈ Oper.edges o → j < i := fun i o ho j hj => by
    have h1 := List.all_eq_true.1 hback i (List.mem_range.2 (List.getElem?_eq_some_iff.1 ho).1)
    rw [ho] at h1
    have h2 := List.all_eq_true.1 h1 j hj
    simpa [Nat.blt_eq] using h2
  have hsf : ∀ i o, m ≤ i → l[i]? = some o → depsOk l i [] (List.range i).reverse = true := fun i o hi ho => by
    have h1 := List.all_eq_true.1 hsuf i (List.mem_range.2 (List.getElem?_eq_some_iff.1 ho).1)
    rw [Bool.or_eq_true] at h1
    rcases h1 with h1 | h1
    · have : i < m := by simpa [Nat.blt_eq] using h1
      omega
    · exact h1
  -- where the run may stand
  let Inv : Array Bool → Act → World → Prop := fun listed a w =>
    (∀ k o, l[k]? = some o → listed.getD k false = true → ∀ j, j ∈ Oper.edges o → listed.getD j false = true) ∧
    (((∀ k, m ≤ k → listed.getD k false = false) ∧ ∃ hv, Ok U T w0 (SD (fun j => listed.getD j false) 0 (l.take m) al (B fun j => listed.getD j false)) a w hv) ∨
     ∃ k, m ≤ k ∧ k ≤ l.length ∧ (∀ j, j < l.length → (listed.getD j false = true ↔ j < k)) ∧ wpList P l.toArray (Post U T w0 Q) (l.drop k) a w)
  -- all of the first part is done
  have full : ∀ (listed : Array Bool) a w hv, (∀ k, m ≤ k → listed.getD k false = false) → (∀ k, k < m → listed.getD k false = true) → Ok U T w0 (SD (fun j => listed.getD j false) 0 (l.take m) al (B fun j => listed.getD j false)) a w hv → wpList P l.toArray (Post U T w0 Q) (l.drop m) a w := by
    intro listed a w hv hno hyes ok
    have hB : (B fun j => listed.getD j false) = lastS sts s := phase_all _ sts none s hok hyes
    rw [hB] at ok
    refine hrest U T w0 a w hv (ok.equiv (by rw [(SD_nt _ _ _ _).1, (SD_nt _ _ _ _).1]) (by rw [(SD_nt _ _ _ _).2, (SD_nt _ _ _ _).2]) (fun t => ?_) (fun id => ?_))
    · by_cases hex : ∃ (j : Nat) (o : Oper), (l.take m)[j]? = some o ∧ o.dst = some t
      · obtain ⟨j, o, h1, h2⟩ := hex
        have hjl : j < al.length := by rw [← ap.len]; exact (List.getElem?_eq_some_iff.1 h1).1
        have hjm : j < m := by have := (List.getElem?_eq_some_iff.1 h1).1; rw [List.length_take] at this; omega
        have hx : al[j]? = some al[j] := List.getElem?_eq_getElem hjl
        have hu : ∀ (j' : Nat) (o' : Oper), (l.take m)[j']? = some o' → j' < al.length → o'.dst = some t → j' = j := fun j' o' h3 _ h4 => ap.dst j' j o' o t h3 h1 h4 h2
        rw [SD_get_some 0 _ al _ t j o _ h1 hx h2 (by simp) hu, SD_get_some 0 _ al _ t j o _ h1 hx h2 (by simpa using hyes j hjm) hu]
      · have hn : ∀ (D : Nat → Bool) (j : Nat) (o : Oper), (l.take m)[j]? = some o → D (0 + j) = true → j < al.length → o.dst ≠ some t := fun D j o h1 _ _ h2 => hex ⟨j, o, h1, h2⟩
        rw [SD_get_none 0 _ al _ t (hn _), SD_get_none 0 _ al _ t (hn _)]
    · by_cases hex : ∃ (j : Nat) (x : Add), al[j]? = some x ∧ id ∈ x.blks.map (·.1)
      · obtain ⟨j, x, h1, h2⟩ := hex
        have hjl : j < (l.take m).length := by rw [ap.len]; exact (List.getElem?_eq_some_iff.1 h1).1
        have hjm : j < m := by rw [List.length_take] at hjl; omega
        have hu : ∀ (j' : Nat) (x' : Add), al[j']? = some x' → id ∈ x'.blks.map (·.1) → j' = j := fun j' x' h3 h4 => ap.key j' j x' x id h3 h1 h4 h2
        rw [SD_look_some 0 _ al _ id j x hjl h1 h2 (by simp) hu, SD_look_some 0 _ al _ id j x hjl h1 h2 (by simpa using hyes j hjm) hu]
      · have hn : ∀ (D : Nat → Bool) (j : Nat) (x : Add), al[j]? = some x → D (0 + j) = true → j < (l.take m).length → id ∉ x.blks.map (·.1) := fun D j x h1 _ _ h2 => hex ⟨j, x, h1, h2⟩
        rw [SD_look_none 0 _ al _ id (hn _), SD_look_none 0 _ al _ id (hn _)]
  have key : ∀ fuel (listed : Array Bool) a w, listed.size = l.length → unl l.length listed ≤ fuel → Inv listed a w → wpAny P .any l.toArray (Post U T w0 Q) fuel listed a w := by
    intro fuel
    -- nothing is ready: all is done
    have done : ∀ (listed : Array Bool) a w, listed.size = l.length → Inv listed a w → Region.ready .any l.toArray listed = [] → Post U T w0 Q .normal a w := by
      intro listed a w hs hinv hr
      have hall : ∀ n, n ≤ l.length → ∀ j, j < n → listed.getD j false = true := by
        intro n
        induction n with
        | zero => intro _ j hj; omega
        | succ n ih =>
          intro hn j hj
          by_cases hjn : j < n
          · exact ih (by omega) j hjn
          · have hj2 : j = n := by omega
            subst hj2
            cases hg : listed.getD j false with
            | true => rfl
            | false =>
              exfalso
              have hjl : j < l.length := by omega
              have ho : l[j]? = some l[j] := List.getElem?_eq_getElem hjl
              have : j ∈ Region.ready .any l.toArray listed := mem_ready.2 ⟨by simpa [Array.getD, hs, hjl] using hg, l[j], by simp [hjl], fun e he hb => ih (by omega) _ (hbk j _ ho _ (edges_mem he hb))⟩
              rw [hr] at this
              cases this
      have hall' := hall l.length (Nat.le_refl _)
      obtain ⟨_, ⟨hno, hv, ok⟩ | ⟨k, h1, h2, h3, h4⟩⟩ := hinv
      · have hml : m = l.length := by
          rcases Nat.lt_or_ge m l.length with h | h
          · have := hno m (Nat.le_refl _); rw [hall' m h] at this; cases this
          · omega
        have := full listed a w hv hno (fun k hk => hall' k (by omega)) ok
        rw [hml, List.drop_length] at this
        exact this
      · have hk : k = l.length := by
          rcases Nat.lt_or_ge k l.length with h | h
          · have := (h3 k h).1 (hall' k h); omega
          · omega
        rw [hk, List.drop_length] at h4
        exact h4
    induction fuel with
    | zero =>
      intro listed a w hs hu hinv
      have hr : Region.ready .any l.toArray listed = [] := by
        cases hr : Region.ready .any l.toArray listed with
        | nil => rfl
        | cons i r =>
          exfalso
          have hi : i ∈ Region.ready .any l.toArray listed := by rw [hr]; simp
          obtain ⟨h1, o, h2, h3⟩ := mem_ready.1 hi
          obtain ⟨h4, h5⟩ := listed_get hs h1
          have hmem : i ∈ (List.range l.length).filter fun j => !listed.getD j false := List.mem_filter.2 ⟨List.mem_range.2 h4, by rw [h5]; rfl⟩
          have hpos := List.length_pos_of_mem hmem
          unfold unl at hu
          omega
      exact ⟨hr, done listed a w hs hinv hr⟩
    | succ fuel ih =>
      intro listed a w hs hu hinv
      refine ⟨done listed a w hs hinv, fun i hi => ?_⟩
      obtain ⟨h1, o, h2, h3⟩ := mem_ready.1 hi
      obtain ⟨hil, hi0⟩ := listed_get hs h1
      have ho : l[i]? = some o := by simpa using h2
      have hs' : (listed.setIfInBounds i true).size = l.length := by simpa using hs
      have hu' : unl l.length (listed.setIfInBounds i true) ≤ fuel := by have := unl_set hs hil hi0; omega
      have hset : ∀ j, (listed.setIfInBounds i true).getD j false = true ↔ (listed.getD j false = true ∨ j = i) := fun j => by
        by_cases hij : i = j
        · subst hij
          have : (listed.setIfInBounds i true).getD i false = true := by simp [Array.getD, hs, hil]
          exact ⟨fun _ => .inr rfl, fun _ => this⟩
        · rw [getD_set_ne false hij]
          exact ⟨.inl, fun h => h.resolve_right (Ne.symm hij)⟩
      obtain ⟨hcl, hcase⟩ := hinv
      have hedge : ∀ j, j ∈ Oper.edges o → listed.getD j false = true := fun j hj => by
        obtain ⟨e, he, hb, hon⟩ := mem_edges hj
        rw [← hon]
        exact h3 e he hb
      have hearl : m ≤ i → ∀ j, j < i → listed.getD j false = true := fun hmi j hj => depsOk_sound (D := fun j => listed.getD j false) (fun k o' hk hor j hj => by
        rcases hor with hl | rfl
        · exact hcl k o' hk hl j hj
        · rw [ho] at hk; injection hk with hk; subst hk; exact hedge j hj) [] _ (fun j hj => by cases hj) (hsf i o hmi ho) j (by simpa using hj)
      have hcl' : ∀ k o', l[k]? = some o' → (listed.setIfInBounds i true).getD k false = true → ∀ j, j ∈ Oper.edges o' → (listed.setIfInBounds i true).getD j false = true := fun k o' hk hl j hj => by
        rw [hset] at hl ⊢
        rcases hl with hl | hl
        · exact .inl (hcl k o' hk hl j hj)
        · subst hl; rw [ho] at hk; injection hk with hk; subst hk; exact .inl (hedge j hj)
      -- one step of the second part
      have step2 : ∀ k, m ≤ k → (∀ j, j < l.length → (listed.getD j false = true ↔ j < k)) → wpList P l.toArray (Post U T w0 Q) (l.drop k) a w → wpOp P l.toArray (Post U T w0 Q) i (wpAny P .any l.toArray (Post U T w0 Q) fuel (listed.setIfInBounds i true)) a w := by
        intro k hk hiff hwp
        have hik : i = k := by
          have h4 : ¬ i < k := fun h => by have := (hiff i hil).2 h; rw [hi0] at this; cases this
          rcases Nat.lt_or_ge k i with h5 | h5
          · have := (hiff k (by omega)).1 (hearl (by omega) k h5); omega
          · omega
        subst hik
        have hdrop : l.drop i = o :: l.drop (i + 1) := by
          rw [List.drop_eq_getElem_cons hil]
          congr 1
          have := List.getElem?_eq_getElem hil
          rw [ho] at this
          injection this with this
          exact this.symm
        rw [hdrop] at hwp
        unfold wpOp
        rw [h2]
        simp only
        have next : ∀ a w, wpList P l.toArray (Post U T w0 Q) (l.drop (i + 1)) a w → wpAny P .any l.toArray (Post U T w0 Q) fuel (listed.setIfInBounds i true) a w := fun a w hwp => by
          refine ih _ a w hs' hu' ⟨hcl', .inr ⟨i + 1, by omega, by omega, fun j hj => ?_, hwp⟩⟩
          rw [hset, hiff j hj]
          omega
        unfold wpList at hwp
        split
        · rename_i hw
          rw [if_pos hw] at hwp
          exact hwp.imp (Oper.wp_mono next) id
        · rename_i hw
          rw [if_neg hw] at hwp
          exact next _ _ hwp
      rcases hcase with ⟨hno, hv, ok⟩ | ⟨k, hk1, hk2, hiff, hwp⟩
      · by_cases him : i < m
        · -- one of the first part
          have hot : (l.take m)[i]? = some o := by rw [List.getElem?_take, if_pos him]; exact ho
          obtain ⟨x, hx, hcase⟩ := Obs3.at hob hot
          rw [Nat.zero_add] at hcase
          unfold wpOp
          rw [h2]
          simp only
          cases hie : isSt sts i with
          | true =>
            -- a store
            obtain ⟨Ke, bx, cs', oe, X, hKl, hid, hxe, hoe, hge, hde, hev, hBB⟩ := phase_store (P := P) (D := fun j => listed.getD j false) (D' := fun j => (listed.setIfInBounds i true).getD j false) hcl (by simp [hi0]) (fun o' ho' j hj => by rw [ho] at ho'; injection ho' with ho'; subst ho'; exact hedge j hj) hset sts none s hok hie
            rw [ho] at hoe
            injection hoe with hoe
            subst hoe
            have hle := SD_le2 (apB fun j => listed.getD j false) (D := memB Ke) (D' := fun j => listed.getD j false) (H := hidden l m []) (fun j hj => hKl j (memB_mem hj)) fun j o' t h1 h2 _ => .inr (List.mem_filter.2 ⟨List.mem_filterMap.2 ⟨o', List.mem_of_getElem? h1, h2⟩, rfl⟩)
            have next : ∀ a w hv, Ok U T w0 ((SD (fun j => listed.getD j false) 0 (l.take m) al (B fun j => listed.getD j false)).setB bx (some (.box cs'))) a w hv → wpAny P .any l.toArray (Post U T w0 Q) fuel (listed.setIfInBounds i true) a w := fun a w hv ok => by
              refine ih _ a w hs' hu' ⟨hcl', .inl ⟨fun k hk => ?_, hv, ?_⟩⟩
              · cases hg : (listed.setIfInBounds i true).getD k false with
                | false => rfl
                | true =>
                  rcases (hset k).1 hg with h5 | h5
                  · rw [hno k hk] at h5; cases h5
                  · omega
              · have hBB' : (B fun j => (listed.setIfInBounds i true).getD j false) = (B fun j => listed.getD j false).setB bx (some (.box cs')) := hBB
                rw [hBB']
                obtain ⟨e1, e2⟩ := SD_add2 (apB fun j => listed.getD j false) (B fun j => listed.getD j false) (D := fun j => listed.getD j false) (D' := fun j => (listed.setIfInBounds i true).getD j false) hot hx (by simp [hi0]) hset
                obtain ⟨e3, e4⟩ := SD_setB (D := fun j => (listed.setIfInBounds i true).getD j false) (id := bx) (b := some (.box cs')) 0 (l.take m) al (B fun j => listed.getD j false) ((B fun j => listed.getD j false).setB bx (some (.box cs'))) (keys_no hid) (fun t => rfl) (fun j => by show look ((bx, _) :: _) j = _; rw [look_cons])
                have hxb : x.blks = [] := by simpa using hxe x hx
                refine ok.equiv (by rw [(SD_nt _ _ _ _).1]; exact ((SD_nt 0 (l.take m) al (B fun j => listed.getD j false)).1 : (SD (fun j => listed.getD j false) 0 (l.take m) al (B fun j => listed.getD j false)).nt = _).symm) (by rw [(SD_nt _ _ _ _).2]; exact ((SD_nt 0 (l.take m) al (B fun j => listed.getD j false)).2 : (SD (fun j => listed.getD j false) 0 (l.take m) al (B fun j => listed.getD j false)).kp = _).symm) (fun t => ?_) fun j => ?_
                · rw [e3, e1, add_get, hde, if_neg (by simp)]; rfl
                · rw [e4, e2, add_look, hxb]
                  show _ = look ((bx, _) :: _) j
                  rw [look_cons]
                  simp
            rw [if_pos (by simp [Region.wanted, hge])]
            exact .inl (hev _ hle U T w0 a w hv ok _ _ fun s' v w' hv' hs ok' _ => by
              subst hs
              rw [hde] at ok' ⊢
              exact next _ _ hv' ok')
          | false =>
            obtain ⟨deps, un, hdeps, hun, hph⟩ := hcase.resolve_left (by rw [hie]; simp)
            have hdl := depsOk_sound (D := fun j => listed.getD j false) (fun k o' hk hor j hj => by
              rcases hor with hl | rfl
              · exact hcl k o' hk hl j hj
              · rw [ho] at hk; injection hk with hk; subst hk; exact hedge j hj) [] deps (fun j hj => by cases hj) hdeps
            have hle := SD_le2 (apB fun j => listed.getD j false) (D := memB deps) (D' := fun j => listed.getD j false) (H := hidden l m un) (fun j hj => hdl j (memB_mem hj)) fun j o' t h1 h2 h3 => by
              refine .inr (List.mem_filter.2 ⟨List.mem_filterMap.2 ⟨o', List.mem_of_getElem? h1, h2⟩, ?_⟩)
              cases hm : memB un t with
              | false => rfl
              | true =>
                exfalso
                have h4 := List.all_eq_true.1 (List.all_eq_true.1 hun t (memB_mem hm)) o' (List.mem_of_getElem? h1)
                rw [h2, Bool.or_eq_true] at h4
                rcases h4 with h4 | h4
                · simp at h4
                · have h5 : l[j]? = some o' := by rw [List.getElem?_take] at h1; split at h1; exact h1; cases h1
                  have := hcl j o' h5 h3 i (List.contains_iff_mem.1 h4)
                  rw [hi0] at this; cases this
            have hfresh := SD_fresh2 (apB fun j => listed.getD j false) (D := fun j => listed.getD j false) hx (by simp [hi0])
            have hob' : Ob P l.toArray (SD (fun j => listed.getD j false) 0 (l.take m) al (B fun j => listed.getD j false)) o x := phase_ob (D := fun j => listed.getD j false) hcl (by simp [hi0]) hdl sts none [] s hok hph (fun j hj => by cases hj) hle hfresh
            obtain ⟨e1, e2⟩ := SD_add2 (apB fun j => listed.getD j false) (B fun j => listed.getD j false) (D := fun j => listed.getD j false) (D' := fun j => (listed.setIfInBounds i true).getD j false) hot hx (by simp [hi0]) hset
            have hBB : (B fun j => (listed.setIfInBounds i true).getD j false) = (B fun j => listed.getD j false) := phase_same hset sts s hie
            have next : ∀ a w hv, Ok U T w0 ((SD (fun j => listed.getD j false) 0 (l.take m) al (B fun j => listed.getD j false)).add o.dst x) a w hv → wpAny P .any l.toArray (Post U T w0 Q) fuel (listed.setIfInBounds i true) a w := fun a w hv ok => by
              refine ih _ a w hs' hu' ⟨hcl', .inl ⟨fun k hk => ?_, hv, ?_⟩⟩
              · cases hg : (listed.setIfInBounds i true).getD k false with
                | false => rfl
                | true =>
                  rcases (hset k).1 hg with h5 | h5
                  · rw [hno k hk] at h5; cases h5
                  · omega
              · rw [hBB]
                exact ok.equiv (by rw [(SD_nt _ _ _ _).1, (add_nt _ _ _).1, (SD_nt _ _ _ _).1]) (by rw [(SD_nt _ _ _ _).2, (add_nt _ _ _).2, (SD_nt _ _ _ _).2]) e1 e2
            rcases hob' with ⟨hwant, hev⟩ | ⟨hwant, rfl, hd⟩
            · rw [if_pos (hwant.wanted ok.m)]
              exact .inl (hev U T w0 a w hv ok _ _ fun s' v w' hv' hs ok' _ => next _ _ hv' (hs ▸ ok'))
            · rw [if_neg (by rw [hwant.wanted ok.m]; simp)]
              refine next _ _ hv ?_
              have := ok.next (Fr.refl (fun _ => False) w) (fun _ e => e.elim) (fun _ id _ => Pass.refl _ _ id) (fun id _ => Pass.refl _ _ id) ok.m.hm (fun _ h _ => h) (d := o.dst) (r := .tup []) (v := undef) ⟨[], rfl, .nil⟩ hd
              exact this
        · -- the first of the second part
          have hyes : ∀ k, k < m → listed.getD k false = true := fun k hk => hearl (by omega) k (by omega)
          refine step2 m (Nat.le_refl _) (fun j hj => ⟨fun h => ?_, fun h => hyes j h⟩) (full listed a w hv hno hyes ok)
          rcases Nat.lt_or_ge j m with h5 | h5
          · exact h5
          · rw [hno j h5] at h; cases h
      · exact step2 k hk1 hiff hwp
  refine key _ _ a w (by simp) ?_ ⟨fun k o _ h => ?_, .inl ⟨fun k _ => ?_, hv, ?_⟩⟩
  · unfold unl
    have := List.length_filter_le (fun j => !(Array.replicate l.toArray.size false).getD j false) (List.range l.length)
    simpa using this
  · exfalso; simp [Array.getD] at h
  · simp [Array.getD]
  · have hB : (B fun j => (Array.replicate l.toArray.size false).getD j false) = s := phase_none _ sts s (by simp [Array.getD])
    rw [hB]
    refine ok.equiv (SD_nt _ _ _ _).1 (SD_nt _ _ _ _).2 (fun t => SD_get_none 0 _ al _ t fun j o' _ h4 _ _ => ?_) fun id => SD_look_none 0 _ al _ id fun j x' _ h4 _ _ => ?_
    · simp [Array.getD] at h4
    · simp [Array.getD] at h4
theorem aw_draw_stores {ri : Nat} (m : Nat) (sts : List StoreAt) (al : List Add) (hmix : P.follows .mixedOrders = true) (hst : (staticOk l m && noDefer l) = true) (hkeys : nodupB (keysOf al) = true) (hfr : (keysOf al).all (fun id => (look s.heap id).isNone) = true)
    (hob : Obs3 P l m sts al s 0 (l.take m) al) (hok : StOk P l m al sts none s)
    (hrest : AOps P l.toArray (l.drop m) (SD (fun _ => true) 0 (l.take m) al (lastS sts s)) Q) : AW P (.region ri l.toArray true) s Q := fun n r U T w0 a w hv ok mk => by
  rw [Bool.and_eq_true] at hst
  exact wpIn_region_any hmix (any_in (ds := a.defers) (a := bare a) (fun e a' w' h' => post_in ok mk h') post_calm (noDefer_at hst.2) _ _ _ (draw_stores hst.1 hkeys (fun id hid => by simpa using List.all_eq_true.1 hfr id hid) hok hob hrest (by
    have := ok.base.next (w' := w.drew) (Fr.drew (fun _ => False) w) (fun _ e => e.elim) (fun _ id _ => Pass.refl _ _ id) (fun id _ => Pass.refl _ _ id) (ok.m.hm.keep (Fr.drew _ w)) (fun _ h _ => h) (d := none) (r := .one .any) (v := undef) trivial rfl
    exact this)))
end
end Abs
end Go.Proofs.YtjpiiejdaiaocaaDoor
namespace Go.Proofs.YtjpiiejdaiaocaaDoor
open Go.ChangeShapes Go.WideShapes Go.RowKit
set_option linter.unusedVariables false
set_option linter.unusedSimpArgs false
namespace Abs
section
variable {P : Program} {s : ASt} {d : Option Nat} {ty t : TypeId} {pos : String} {af : Array Edge} {g : Option (Nat × Bool)} {x y c : Operand} {id off n sz : Nat} {e : TypeId}
/-- Cells of an element of a row of one's own are read. -/
theorem st_loads_row {el : Nat → List CV} {j o nn : Nat} {ds : List CV} (hx : s.ev x = .one (.rptr id sz j o)) (hb : look s.heap id = some (.row e sz n el)) (hj : j < n) [kk : TVar P t true nn] (hds : ((el j).drop o).take nn = ds) (hl : Nat.beq ds.length nn = true) (hd : dOk s d = true) : Ev P [] s ⟨d, .load t x, ty, pos, af, g⟩ (· = s.put d (.agg ds)) :=
  ev_of_run hd fun U a w hv m => by
    have hl := Nat.eq_of_beq_eq_true hl
    have hr := m.ev x
    rw [hx] at hr
    obtain ⟨_, b, n', c', h1, h2⟩ := hr
    obtain ⟨vs, h3, h4, h5⟩ := m.hm.blk id _ hb
    have hcell : ∀ q c, ds[q]? = some c → ∃ u, vs[j * sz + (o + q)]? = some u ∧ RepC (fun b => U b ∨ mine s.heap hv b) w c u := fun q c hq => by
      rw [← hds, List.getElem?_take] at hq
      split at hq
      · rw [List.getElem?_drop] at hq
        exact h5 j (o + q) c hj hq
      · cases hq
    let us : List Value := (List.range nn).map fun q => vs.getD (j * sz + (o + q)) undef
    have hus : ∀ (q : Nat) (u : Value), us[q]? = some u → vs[j * sz + (o + q)]? = some u := fun q u hq => by
      have hqn : q < nn := by
        have := (List.getElem?_eq_some_iff.1 hq).1
        simpa [us] using this
      obtain ⟨u', h6, _⟩ := hcell q ds[q] (List.getElem?_eq_getElem (by omega))
      simp only [us, List.getElem?_map, List.getElem?_range hqn, Option.map_some, Option.some.injEq] at hq
      rw [← hq, List.getD_eq_getElem?_getD, h6]
      rfl
    have hat : CellsAt w (a.eval x) us := by
      refine ⟨b, j * sz + o, h2, fun q u hq => ?_⟩
      have h8 := h3.cells (g := b) (by rw [h1]; rfl) _ _ (hus q u hq)
      rw [add_at, Nat.zero_add] at h8
      rw [Nat.add_assoc]
      exact h8
    obtain ⟨u, h6, h7, _⟩ := run_load_cells (P := P) (t := t) (agg := true) (n := nn) hat (by simp [us]) (fun e => by cases e)
    refine ⟨u, w, ?_, Fr.refl _ _, ?_⟩
    · simp only [execOp, Sem.run_bind, h6, Result.andThen_ok, Sem.run_pure]
    · rw [h7 rfl]
      refine ⟨us, rfl, All2.of (by simp [us, hl]) fun q c hq => ?_⟩
      obtain ⟨v, h8, h9⟩ := hcell q c hq
      have hqn : q < nn := by have := (List.getElem?_eq_some_iff.1 hq).1; omega
      refine ⟨v, ?_, rep_of_c h9⟩
      simp only [us, List.getElem?_map, List.getElem?_range hqn, Option.map_some, Option.some.injEq]
      rw [List.getD_eq_getElem?_getD, h8]
      rfl
end
end Abs
end Go.Proofs.YtjpiiejdaiaocaaDoor
namespace Go.Proofs.YtjpiiejdaiaocaaDoor
open Go.ChangeShapes Go.WideShapes Go.RowKit
set_option linter.unusedVariables false
set_option linter.unusedSimpArgs false
namespace Abs
abbrev cI (n : Int) : CV := .val (.int .i64 n)
abbrev cB (b : Bool) : CV := .val (.bool b)
abbrev vI (n : Int) : AV := .one (.val (.int .i64 n))
abbrev vB (b : Bool) : AV := .one (.val (.bool b))
theorem Le.e {s S : ASt} (h : Le s S) {x : Operand} {r : AV} (hx : s.ev x = r) (hr : r ≠ .one .any := by nofun) : S.ev x = r := h.ev hx hr
/-! ### variables handed in by address -/
def boxesH : Nat → List (List CV) → Heap
  | _, [] => []
  | i, cs :: r => (i, some (.box cs)) :: boxesH (i + 1) r
theorem look_boxesH : ∀ (i : Nat) (bs : List (List CV)) (j : Nat), look (boxesH i bs) j = if i ≤ j then (bs[j - i]?).map Blk.box else none
  | i, [], j => by simp [boxesH, look]
  | i, cs :: r, j => by
    show look ((i, some (.box cs)) :: boxesH (i + 1) r) j = _
    rw [look_cons, look_boxesH (i + 1) r j]
    by_cases h : i = j
    · subst h; simp
    · rw [if_neg h]
      by_cases h2 : i ≤ j
      · rw [if_pos (by omega), if_pos h2, show j - i = (j - (i + 1)) + 1 by omega, List.getElem?_cons_succ]
      · rw [if_neg (by omega), if_neg h2]
def noIds (cs : List CV) : Bool := cs.all fun c => c.ids.isEmpty
theorem ren_noId {g : Nat → Nat} : ∀ (c : CV), c.ids.isEmpty = true → c.ren g = c := fun c h => by
  cases c with
  | fn f caps =>
    have hc : caps.map (capRen g) = caps := by
      have h0 : caps.flatMap capIds = [] := List.isEmpty_iff.1 h
      clear h
      induction caps with
      | nil => rfl
      | cons x xs ih =>
        rw [List.flatMap_cons, List.append_eq_nil_iff] at h0
        rw [List.map_cons, ih h0.2]
        congr 1
        cases x <;> first | rfl | (simp [capIds] at h0)
    show CV.fn f (caps.map (capRen g)) = _
    rw [hc]
  | own i => simp [CV.ids] at h
  | ptr i o => simp [CV.ids] at h
  | rptr i sz j o => simp [CV.ids] at h
  | itp i => simp [CV.ids] at h
  | _ => rfl
theorem ren_noIds {g : Nat → Nat} {cs : List CV} (h : noIds cs = true) : cs.map (CV.ren g) = cs := by
  induction cs with
  | nil => rfl
  | cons c cs ih =>
    rw [noIds, List.all_cons, Bool.and_eq_true] at h
    rw [List.map_cons, ren_noId c h.1, ih h.2]
theorem ids_noIds {cs : List CV} (h : noIds cs = true) : (Blk.box cs).ids = [] := by
  show cs.flatMap CV.ids = []
  induction cs with
  | nil => rfl
  | cons c cs ih =>
    rw [noIds, List.all_cons, Bool.and_eq_true] at h
    rw [List.flatMap_cons, List.isEmpty_iff.1 h.1, ih h.2]
    rfl
section
variable {P : Program} {s : ASt} {Q : Exit → ASt → Prop}
/-- Back to the caller: values; what its variables hold now. -/
theorem ret_b {fn : Func} {r r0 : AV} {bs : List (List CV)} (hres : Res P fn s r0) (hk : s.kp = List.range bs.length) (hi : r.ids.isEmpty = true) (hr : r.ren (fun i => i) = r) (hno : bs.all noIds = true) (hb : (bs.zipIdx.all fun p => true) = true) (hl : ∀ i cs, bs[i]? = some cs → look s.heap i = some (.box cs)) (hle : TLe r0 r) : RetOk P fn (Det r (boxesH 0 bs)) s := by
  have hlook : ∀ id b, look (boxesH 0 bs) id = some b → ∃ cs, bs[id]? = some cs ∧ b = .box cs := fun id b h => by
    rw [look_boxesH] at h
    simp only [Nat.zero_le, if_true, Nat.sub_zero, Option.map_eq_some_iff] at h
    obtain ⟨cs, h1, h2⟩ := h
    exact ⟨cs, h1, h2.symm⟩
  refine ⟨r, boxesH 0 bs, fun i => i, r0, hres, by rw [hr]; exact hle, ⟨rfl, rfl⟩, ⟨fun id hid => ?_, fun id b h => ?_, fun i j _ _ h => h⟩, fun id hid => ⟨rfl, ?_⟩⟩
  · rw [List.isEmpty_iff.1 hi] at hid; cases hid
  · obtain ⟨cs, h1, rfl⟩ := hlook id b h
    have hn := List.all_eq_true.1 hno cs (List.mem_of_getElem? h1)
    refine ⟨?_, fun j hj => ?_⟩
    · rw [hl id cs h1]
      show _ = some (Blk.box (cs.map (CV.ren fun i => i)))
      rw [ren_noIds hn]
    · rw [ids_noIds hn] at hj; cases hj
  · rw [hk] at hid
    have hlt := List.mem_range.1 hid
    refine ⟨bs[id], ?_⟩
    rw [look_boxesH]
    simp [hlt]
def setAll : List Nat → List (List CV) → Heap → Heap
  | i :: r, cs :: bs, h => (i, some (.box cs)) :: setAll r bs h
  | _, _, h => h
theorem look_setAll : ∀ (ρ : List Nat) (bs : List (List CV)) (h : Heap) (j : Nat), ρ.length = bs.length → look (setAll ρ bs h) j = if j ∈ ρ then (bs[ρ.idxOf j]?).map Blk.box else look h j
  | [], bs, h, j, _ => by cases bs <;> simp [setAll]
  | i :: ρ, [], h, j, hl => by simp at hl
  | i :: ρ, cs :: bs, h, j, hl => by
    show look ((i, some (.box cs)) :: setAll ρ bs h) j = _
    rw [look_cons, look_setAll ρ bs h j (by simpa using hl)]
    by_cases hij : i = j
    · subst hij; simp
    · rw [if_neg hij]
      have hji : ¬ j = i := fun e => hij e.symm
      have hbq : (i == j) = false := by simpa using hij
      by_cases hm : j ∈ ρ
      · rw [if_pos hm, if_pos (by simp [hm]), List.idxOf_cons, hbq]
        simp
      · rw [if_neg hm, if_neg (by simp [hm, hji])]
/-- A call that is handed variables of one's own by address: it gives back values; the variables hold what the contract says. -/
theorem ev_call_b {f : FuncId} [hF : IsFn P f] {d : Option Tmp} {ty : TypeId} {pos : String} {af : Array Edge} {g : Option (Nat × Bool)} (ρ : List Nat) {bs bs' : List (List CV)} {args : List Operand} {tys : Array TypeId} {cargs xs : List AV} {r : AV} (hfn : FnC P f cargs (boxesH 0 bs) (Det r (boxesH 0 bs'))) (hxs : args.map s.ev = xs) (L : List Nat) (hargs : All2 (ArgV s.heap (gOf ρ) L) xs cargs)
    (hρ : nodupB ρ = true) (hlen : ρ.length = bs.length) (hlen' : bs'.length = bs.length) (hno : bs.all noIds = true) (hno' : bs'.all noIds = true) (hal : (cargs.all fun x => x.ids.all fun id => Nat.blt id bs.length) = true) (hbox : All2 (fun id cs => look s.heap id = some (.box cs)) ρ bs) (hlr : (L.all fun id => !memB ρ id) = true)
    (hr : r.ids.isEmpty = true) (hren : r.ren (gOf ρ) = r) (hL : L = [] ∨ (r.scal = true ∧ (bs'.all fun cs => cs.all CV.scal) = true)) (hd : dOk s d = true) :
    Ev P [] s ⟨d, .call { callee := .value (.func f), args := args.toArray, argTypes := tys }, ty, pos, af, g⟩ (· = ASt.put { s with heap := setAll ρ bs' s.heap } d r) := by
  subst hxs
  have hlk : ∀ (cs0 : List (List CV)) id b, look (boxesH 0 cs0) id = some b → ∃ cs, cs0[id]? = some cs ∧ b = .box cs := fun cs0 id b h => by
    rw [look_boxesH] at h
    simp only [Nat.zero_le, if_true, Nat.sub_zero, Option.map_eq_some_iff] at h
    obtain ⟨cs, h1, h2⟩ := h
    exact ⟨cs, h1, h2.symm⟩
  have hsome : ∀ (cs0 : List (List CV)) id, (look (boxesH 0 cs0) id).isSome = true → id < cs0.length := fun cs0 id h => by
    obtain ⟨b, hb⟩ := Option.isSome_iff_exists.1 h
    obtain ⟨cs, h1, _⟩ := hlk cs0 id b hb
    exact (List.getElem?_eq_some_iff.1 h1).1
  have hnd := nodupB_nodup hρ
  have k : CallOk s ρ L [] (args.map s.ev) cargs (boxesH 0 bs) (Det r (boxesH 0 bs')) := by
    refine ⟨hnd, hargs, fun x hx id hid => ?_, fun id b h => ?_, fun i hi h => ?_, fun id hid hm => ?_, fun id hid => (by cases hid), ?_⟩
    · have h1 := List.all_eq_true.1 (List.all_eq_true.1 hal x hx) id hid
      have h2 : id < bs.length := by simpa [Nat.blt_eq] using h1
      rw [look_boxesH]
      simp [h2]
    · obtain ⟨cs, h1, rfl⟩ := hlk bs id b h
      have hlt := (List.getElem?_eq_some_iff.1 h1).1
      have hn := List.all_eq_true.1 hno cs (List.mem_of_getElem? h1)
      have hρi : ρ[id]? = some (gOf ρ id) := by
        have : id < ρ.length := by omega
        simp [gOf, List.getD, this]
      obtain ⟨cs1, h2, h3⟩ := hbox.get hρi
      rw [h1] at h2
      injection h2 with h2
      subst h2
      refine ⟨by omega, ?_, fun j hj => ?_, fun ⟨_, _, _, _, e⟩ => ?_, fun ⟨_, _, e⟩ => by (rw [h] at e; cases e)⟩
      · rw [h3]
        show _ = some (Blk.box (cs.map (CV.ren (gOf ρ))))
        rw [ren_noIds hn]
      · rw [ids_noIds hn] at hj; cases hj
      · rw [h] at e; cases e
    · rw [look_boxesH] at h
      have : i < bs.length := by omega
      simp [this] at h
    · have h1 := List.all_eq_true.1 hlr id hid
      have h2 : memB ρ id = true := List.any_eq_true.2 ⟨id, hm, Nat.beq_refl id⟩
      rw [h2] at h1; cases h1
    · rintro r' h' ⟨rfl, rfl⟩
      refine ⟨fun id h => by have := hsome bs' id h; omega, fun id hid => ?_, fun id b h j hj => ?_, ?_⟩
      · rw [List.isEmpty_iff.1 hr] at hid; cases hid
      · obtain ⟨cs, h1, rfl⟩ := hlk bs' id b h
        rw [ids_noIds (List.all_eq_true.1 hno' cs (List.mem_of_getElem? h1))] at hj; cases hj
      · refine hL.imp (fun x => x) fun h => ⟨h.1, fun id b hb => ?_⟩
        obtain ⟨cs, h1, rfl⟩ := hlk bs' id b hb
        exact List.all_eq_true.1 h.2 cs (List.mem_of_getElem? h1)
  refine fun U T w0 a w hv ok K Q hK => ev_call (P := P) (d := d) (ty := ty) (pos := pos) (af := af) (g := g) (tys := tys) ρ L [] hfn k hd U T w0 a w hv ok K Q fun s' v w' hv' hs ok' hh => ?_
  obtain ⟨r', h', ⟨rfl, rfl⟩, rfl⟩ := hs
  refine hK _ v w' hv' rfl (ok'.equiv ?_ ?_ (fun t => ?_) fun id => ?_) hh
  · cases d <;> rfl
  · cases d <;> rfl
  · show get (ASt.put { s with heap := setAll ρ bs' s.heap } d r').env t = get (ASt.put { s with heap := backHeap ρ (boxesH 0 bs') ++ s.heap } d (r'.ren (gOf ρ))).env t
    rw [hren]
    cases d <;> rfl
  · have e1 : (ASt.put { s with heap := setAll ρ bs' s.heap } d r').heap = setAll ρ bs' s.heap := by cases d <;> rfl
    have e2 : (callEnd s ρ [] d r' (boxesH 0 bs')).heap = backHeap ρ (boxesH 0 bs') ++ s.heap := by unfold callEnd; cases d <;> rfl
    rw [e1, e2, look_back hnd, look_setAll ρ bs' s.heap id (by omega)]
    by_cases hm : id ∈ ρ
    · rw [if_pos hm, if_pos hm, look_boxesH]
      simp only [Nat.zero_le, if_true, Nat.sub_zero]
      cases hc : bs'[ρ.idxOf id]? with
      | none => rfl
      | some cs =>
        have hn := List.all_eq_true.1 hno' cs (List.mem_of_getElem? hc)
        show some (Blk.box cs) = some (Blk.box (cs.map (CV.ren (gOf ρ))))
        rw [ren_noIds hn]
    · rw [if_neg hm, if_neg hm]
/-- A part of an array that is a value. -/
theorem ev_index_agg {d : Option Tmp} {ty t : TypeId} {pos : String} {af : Array Edge} {g : Option (Nat × Bool)} {x y : Operand} {k : IntKind} {i : Int} {j len e sz : Nat} {cs ds : List CV} (hx : s.ev x = .agg cs) (hy : s.ev y = .one (.val (.int k i))) (hi : i = (j : Int)) [h : TArr P t len e sz true] (hj : Nat.blt j len = true) (hds : (cs.drop (j * sz)).take sz = ds) (hl : Nat.ble (j * sz + sz) cs.length = true) (hd : dOk s d = true) :
    Ev P [] s ⟨d, .index t x y, ty, pos, af, g⟩ (· = s.put d (.agg ds)) :=
  ev_of_run hd fun U a w hv M => by
    have hr := M.ev x
    rw [hx] at hr
    obtain ⟨vs, h1, h2⟩ := hr
    obtain ⟨h4, h5⟩ := TArr.parts (P := P) (t := t) (len := len) (e := e) (sz := sz) (agg := true)
    have hj' := Nat.le_of_ble_eq_true hj
    have hl' := Nat.le_of_ble_eq_true hl
    have h6 : (0 : Int) ≤ i ∧ i < (len : Int) := by omega
    have h7 : i.toNat = j := by omega
    have hlen := h2.length
    have hpart : (part e vs.toArray (j * sz)).run P w = .ok (.agg (vs.toArray.extract (j * sz) (j * sz + sz))) w := by
      simp [part, run_isAgg (P := P) (t := e) (agg := true) (n := sz), run_size (P := P) (t := e) (agg := true) (n := sz)]
    refine ⟨.agg (vs.toArray.extract (j * sz) (j * sz + sz)), w, ?_, Fr.refl _ _, ?_⟩
    · simp [execOp, Instr.index, h1, M.val hy, asIntOf, run_underlying h4, h6.1, h6.2, h7, run_size (P := P) (t := e) (agg := true) (n := sz), hpart]
    · refine ⟨(vs.drop (j * sz)).take sz, ?_, by rw [← hds]; exact (h2.drop _).take _⟩
      simp [List.extract_toArray, List.take_drop]
end
end Abs
end Go.Proofs.YtjpiiejdaiaocaaDoor
