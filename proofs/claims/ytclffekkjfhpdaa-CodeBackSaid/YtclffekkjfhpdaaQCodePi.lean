import Derived.Test.YtclffekkjfhpdaaQCodePh
import Derived.Test.YtclffekkjfhpdaaQCodeOM
namespace Go.Proofs.Ytclffekkjfhpdaa
set_option linter.unusedVariables false
set_option linter.unusedSimpArgs false
namespace Md
abbrev mx : Int := 9223372036854775807
theorem ifp_bind {α β : Type} {p : Prop} [Decidable p] {m : Option α} {f : α → Option β} : (ifp p m).bind f = ifp p (m.bind f) := by
  unfold ifp
  split <;> rfl
def xQ3 (o a b : Int) : Rdr Instr := fun s => bif o == 1 then ((bytecode_reader_value K s).bind fun x => some ((⟨o, a, b, x.1⟩ : Instr), x.2)) else some ((⟨o, a, b, noV⟩ : Instr), s)
def xQ2 (o a : Int) : Rdr Instr := fun s => (bytecode_reader_number K s mx).bind fun x => xQ3 o a x.1 x.2
def xQ1 (o : Int) : Rdr Instr := fun s => (bytecode_reader_number K s mx).bind fun x => xQ2 o x.1 x.2
def xQ : Rdr Instr := fun s => (bytecode_reader_number K s 36).bind fun x => xQ1 x.1 x.2
theorem xQ3_b (o a b : Int) : Bad (xQ3 o a b) := by
  unfold xQ3
  cases (o == 1)
  · exact bad_ret _
  · exact bad_map value_b (fun v => (⟨o, a, b, v⟩ : Instr))
theorem xQ2_b (o a : Int) : Bad (xQ2 o a) := bad_seq (num_b mx) fun v => xQ3_b o a v
theorem xQ1_b (o : Int) : Bad (xQ1 o) := bad_seq (num_b mx) fun v => xQ2_b o v
theorem xQ_b : Bad xQ := bad_seq (num_b 36) fun v => xQ1_b v
theorem good_ret {α : Type} (v : α) : Good (fun r => some (v, r)) [] v := ⟨fun z h => rfl, fun j h => by simp at h⟩
theorem xQ_g {c : Code} {t : CodeType} {m : CodeMethod} {x : Instr} (hx : okI c t m x = true) (ho : x.ok) : Good xQ (encX x) x := by
  obtain ⟨r1, r2, r3, r4, r5, r6⟩ := okI_rng hx
  obtain ⟨o1, o2, o3, o4⟩ := ho
  have hc := hx
  simp only [okI, Bool.and_eq_true, Bool.not_eq_true', Bool.or_eq_false_iff, Bool.and_eq_false_iff] at hc
  have hA : 0 ≤ x.A := by
    rcases hc.1.1.1.2 with h | h
    · simp only [useA, Bool.not_eq_false', Bool.or_eq_true, Bool.and_eq_true, decide_eq_true_eq, beq_iff_eq] at h
      by_cases h30 : x.Op = 30
      · exact (r5 h30).1.1
      · by_cases h2 : x.Op = 2 ∨ x.Op = 3
        · exact (r1 h2).1
        · by_cases h4 : x.Op = 4 ∨ x.Op = 5
          · exact (r2 h4).1
          · by_cases h26 : x.Op = 26 ∨ x.Op = 27
            · exact (r3 h26).1
            · exact (r4 (by omega)).1
    · have : x.A = 0 := by simpa using h
      omega
  have hB : 0 ≤ x.B := by
    by_cases h30 : x.Op = 30
    · exact (r5 h30).2.1
    · rcases hc.1.1.2 with h | h
      · exact absurd (by simpa using h) h30
      · have : x.B = 0 := by simpa using h
        omega
  unfold I64 at o2 o3
  have hV : Good (xQ3 x.Op x.A x.B) (if x.Op = 1 then encV x.Value else []) x := by
    by_cases h1 : x.Op = 1
    · rw [if_pos h1]
      unfold xQ3
      rw [beq_iff_eq.2 h1]
      exact good_map (value_g x.Value (okI_val hx h1).1 o4) (fun v => (⟨x.Op, x.A, x.B, v⟩ : Instr))
    · rw [if_neg h1]
      unfold xQ3
      rw [beq_eq_false_iff_ne.2 h1]
      have : x.Value = noV := by
        rcases hc.1.2 with h | h
        · exact absurd (by simpa using h) h1
        · simpa using h
      have e : (⟨x.Op, x.A, x.B, noV⟩ : Instr) = x := by rw [← this]
      show Good (fun s => some ((⟨x.Op, x.A, x.B, noV⟩ : Instr), s)) [] x
      rw [e]
      exact good_ret x
  exact good_seq (num_g x.Op 36 (by omega) (by omega) (by omega)) (good_seq (num_g x.A mx hA (by show x.A ≤ 9223372036854775807; omega) (Int.le_refl _)) (good_seq (num_g x.B mx hB (by show x.B ≤ 9223372036854775807; omega) (Int.le_refl _)) hV fun v => xQ3_b _ _ v) fun v => xQ2_b _ v) fun v => xQ1_b v
theorem xF (n : Nat) (c : Int) (r : Bytecodereader) (acc : List Instr) : zqal K (n + 1) c r acc = bif ((decide (c > 0)) && (!r.failed)) then ((xQ r).bind fun x => ifp (acc.length + [x.1].length ≤ 4000000) (zqal K n (W (c - 1)) x.2 (acc ++ [x.1]))) else some (r, acc) := by
  rw [zqal]
  cases ((decide (c > 0)) && (!r.failed))
  · rfl
  · rw [cond_true, cond_true]
    unfold xQ xQ1 xQ2 xQ3
    cases bytecode_reader_number K r 36 with
    | none => rfl
    | some x =>
      simp only [Option.bind_some]
      cases bytecode_reader_number K x.2 mx with
      | none => rfl
      | some x2 =>
        simp only [Option.bind_some]
        cases bytecode_reader_number K x2.2 mx with
        | none => rfl
        | some x3 =>
          simp only [Option.bind_some]
          cases (x.1 == 1)
          · rw [cond_false, cond_false, ifp_bind]
            rfl
          · rw [cond_true, cond_true]
            cases bytecode_reader_value K x3.2 with
            | none => rfl
            | some x4 =>
              simp only [Option.bind_some]
              rw [ifp_bind]
              rfl
def mQ5 (n : List UInt8) (p l : List Int) (r : Int) (c : Int) : Rdr CodeMethod := fun s => ((zqal K K c s []).bind fun x => some (x.2, x.1)).bind fun x => some ((⟨n, p, r, l, x.1⟩ : CodeMethod), x.2)
def mQ4 (n : List UInt8) (p l : List Int) (r : Int) : Rdr CodeMethod := fun s => (bytecode_reader_number K s 3000).bind fun x => mQ5 n p l r x.1 x.2
def mQ3 (n : List UInt8) (p l : List Int) : Rdr CodeMethod := fun s => (bytecode_reader_number K s 5).bind fun x => mQ4 n p l x.1 x.2
def mQ2 (n : List UInt8) (p : List Int) : Rdr CodeMethod := fun s => (bytecode_reader_list K s 8).bind fun x => mQ3 n p x.1 x.2
def mQ1 (n : List UInt8) : Rdr CodeMethod := fun s => (bytecode_reader_list K s 4).bind fun x => mQ2 n x.1 x.2
theorem mQ_eq (s : Bytecodereader) : bytecode_reader_method K s = (bytecode_reader_text K s).bind fun x => mQ1 x.1 x.2 := by
  unfold bytecode_reader_method mQ1 mQ2 mQ3 mQ4 mQ5
  simp only [Option.bind_assoc, Option.bind_some]
theorem mQ5_b (n : List UInt8) (p l : List Int) (r c : Int) : Bad (mQ5 n p l r c) := bad_map (loop_b xF c) (fun v => (⟨n, p, r, l, v⟩ : CodeMethod))
theorem mQ4_b (n : List UInt8) (p l : List Int) (r : Int) : Bad (mQ4 n p l r) := bad_seq (num_b 3000) fun v => mQ5_b n p l r v
theorem mQ3_b (n : List UInt8) (p l : List Int) : Bad (mQ3 n p l) := bad_seq (num_b 5) fun v => mQ4_b n p l v
theorem mQ2_b (n : List UInt8) (p : List Int) : Bad (mQ2 n p) := bad_seq (list_b 8 (by decide)) fun v => mQ3_b n p v
theorem mQ1_b (n : List UInt8) : Bad (mQ1 n) := bad_seq (list_b 4 (by decide)) fun v => mQ2_b n v
theorem mQ_b : Bad (bytecode_reader_method K) := by
  have : bytecode_reader_method K = fun s => (bytecode_reader_text K s).bind fun x => mQ1 x.1 x.2 := funext mQ_eq
  rw [this]
  exact bad_seq text_b fun v => mQ1_b v
theorem mQ_g {c : Code} {t : CodeType} {m : CodeMethod} (hm : okM c t m = true) (hs : smM m) (ho : m.ok) (hn : nameB m.Name = true) : Good (bytecode_reader_method K) (encM m) m := by
  have : bytecode_reader_method K = fun s => (bytecode_reader_text K s).bind fun x => mQ1 x.1 x.2 := funext mQ_eq
  rw [this]
  obtain ⟨o1, o2, o3, o4⟩ := ho
  simp only [okM, kindB, Bool.and_eq_true, Bool.or_eq_true, decide_eq_true_eq, List.all_eq_true, beq_iff_eq] at hm
  have hl := hs.2.2.2.1
  have hn32 : m.Name.length ≤ 32 := by
    simp only [nameB, Bool.and_eq_true, decide_eq_true_eq] at hn
    exact hn.1.2.1
  have hlp := loop_g (F := zqal K) xF xQ_b m.Code (f := encX) (fun y hy => xQ_g (hm.2 y hy) (o4 y hy)) (by omega)
  exact good_seq (text_g m.Name hn32) (good_seq (list_g m.Params 4 (by decide) (by omega) o1) (good_seq (list_g m.Locals 8 (by decide) (by omega) o3) (good_seq (num_g m.Result 5 (by omega) (by omega) (by decide)) (good_seq (num_g (m.Code.length : Nat) 3000 (by omega) (by omega) (by decide)) (good_map hlp fun v => (⟨m.Name, m.Params, m.Result, m.Locals, v⟩ : CodeMethod)) fun v => mQ5_b _ _ _ _ v) fun v => mQ4_b _ _ _ v) fun v => mQ3_b _ _ v) fun v => mQ2_b _ v) fun v => mQ1_b v
def fQ2 (n : List UInt8) (k : Int) : Rdr Field := fun s => (bytecode_reader_value K s).bind fun x => some ((⟨n, k, x.1⟩ : Field), x.2)
def fQ1 (n : List UInt8) : Rdr Field := fun s => (bytecode_reader_number K s 5).bind fun x => fQ2 n x.1 x.2
def fQ : Rdr Field := fun s => (bytecode_reader_text K s).bind fun x => fQ1 x.1 x.2
theorem fQ2_b (n : List UInt8) (k : Int) : Bad (fQ2 n k) := bad_map value_b (fun v => (⟨n, k, v⟩ : Field))
theorem fQ1_b (n : List UInt8) : Bad (fQ1 n) := bad_seq (num_b 5) fun v => fQ2_b n v
theorem fQ_b : Bad fQ := bad_seq text_b fun v => fQ1_b v
theorem fQ_g {f : Field} (hf : fdB f = true) (ho : f.ok) (hn : nameB f.Name = true) : Good fQ (encF f) f := by
  obtain ⟨h1, h2, h3, h4⟩ := fdB_ok hf
  have hn32 : f.Name.length ≤ 32 := by
    simp only [nameB, Bool.and_eq_true, decide_eq_true_eq] at hn
    exact hn.1.2.1
  exact good_seq (text_g f.Name hn32) (good_seq (num_g f.Kind 5 (by omega) h2 (by decide)) (good_map (value_g f.Init h4 ho.2) fun v => (⟨f.Name, f.Kind, v⟩ : Field)) fun v => fQ2_b _ v) fun v => fQ1_b v
theorem fF (n : Nat) (c : Int) (r : Bytecodereader) (acc : List Field) : bytecode_reader_typ_loop1 K (n + 1) c r acc = bif ((decide (c > 0)) && (!r.failed)) then ((fQ r).bind fun x => ifp (acc.length + [x.1].length ≤ 4000000) (bytecode_reader_typ_loop1 K n (W (c - 1)) x.2 (acc ++ [x.1]))) else some (r, acc) := by
  rw [bytecode_reader_typ_loop1]
  cases ((decide (c > 0)) && (!r.failed))
  · rfl
  · rw [cond_true, cond_true]
    unfold fQ fQ1 fQ2
    simp only [Option.bind_assoc, Option.bind_some]
theorem mF (n : Nat) (c : Int) (r : Bytecodereader) (acc : List CodeMethod) : bytecode_reader_typ_loop2 K (n + 1) c r acc = bif ((decide (c > 0)) && (!r.failed)) then ((bytecode_reader_method K r).bind fun x => ifp (acc.length + [x.1].length ≤ 4000000) (bytecode_reader_typ_loop2 K n (W (c - 1)) x.2 (acc ++ [x.1]))) else some (r, acc) := rfl
def tQ4 (n : List UInt8) (fs : List Field) (c : Int) : Rdr CodeType := fun s => ((bytecode_reader_typ_loop2 K K c s []).bind fun x => some (x.2, x.1)).bind fun x => some ((⟨n, fs, x.1⟩ : CodeType), x.2)
def tQ3 (n : List UInt8) (fs : List Field) : Rdr CodeType := fun s => (bytecode_reader_number K s 16).bind fun x => tQ4 n fs x.1 x.2
def tQ2 (n : List UInt8) (c : Int) : Rdr CodeType := fun s => ((bytecode_reader_typ_loop1 K K c s []).bind fun x => some (x.2, x.1)).bind fun x => tQ3 n x.1 x.2
def tQ1 (n : List UInt8) : Rdr CodeType := fun s => (bytecode_reader_number K s 8).bind fun x => tQ2 n x.1 x.2
theorem tQ_eq (s : Bytecodereader) : bytecode_reader_typ K s = (bytecode_reader_text K s).bind fun x => tQ1 x.1 x.2 := by
  unfold bytecode_reader_typ tQ1 tQ2 tQ3 tQ4
  simp only [Option.bind_assoc, Option.bind_some]
theorem tQ4_b (n : List UInt8) (fs : List Field) (c : Int) : Bad (tQ4 n fs c) := bad_map (loop_b mF c) (fun v => (⟨n, fs, v⟩ : CodeType))
theorem tQ3_b (n : List UInt8) (fs : List Field) : Bad (tQ3 n fs) := bad_seq (num_b 16) fun v => tQ4_b n fs v
theorem tQ2_b (n : List UInt8) (c : Int) : Bad (tQ2 n c) := bad_seq (loop_b fF c) fun v => tQ3_b n v
theorem tQ1_b (n : List UInt8) : Bad (tQ1 n) := bad_seq (num_b 8) fun v => tQ2_b n v
theorem tQ_b : Bad (bytecode_reader_typ K) := by
  have : bytecode_reader_typ K = fun s => (bytecode_reader_text K s).bind fun x => tQ1 x.1 x.2 := funext tQ_eq
  rw [this]
  exact bad_seq text_b fun v => tQ1_b v
theorem dist_names : ∀ {l seen : List (List UInt8)}, distB l seen = true → ∀ x ∈ l, nameB x = true
  | [], _, _, x, hx => by cases hx
  | a :: r, seen, h, x, hx => by
    rw [distB, Bool.and_eq_true, Bool.and_eq_true] at h
    rcases List.mem_cons.1 hx with rfl | hx
    · exact h.1.1
    · exact dist_names h.2 x hx
theorem tQ_g {c : Code} {t : CodeType} (hf : FormT c t) (hT : okT t = true) (ho : t.ok) (hn : nameB t.Name = true) : Good (bytecode_reader_typ K) (encT t) t := by
  have : bytecode_reader_typ K = fun s => (bytecode_reader_text K s).bind fun x => tQ1 x.1 x.2 := funext tQ_eq
  rw [this]
  have hnf := hf.nf
  have hnm := hf.nm
  simp only [okT, Bool.and_eq_true] at hT
  have hn32 : t.Name.length ≤ 32 := by
    simp only [nameB, Bool.and_eq_true, decide_eq_true_eq] at hn
    exact hn.1.2.1
  have l1 := loop_g (F := bytecode_reader_typ_loop1 K) fF fQ_b t.Fields (f := encF) (fun y hy => fQ_g (hf.fs y hy) (ho.1 y hy) (dist_names hT.1.1.2 _ (List.mem_map.2 ⟨y, hy, rfl⟩))) (by omega)
  have l2 := loop_g (F := bytecode_reader_typ_loop2 K) mF mQ_b t.Methods (f := encM) (fun y hy => mQ_g (hf.ms y hy) (hf.sm.2.2.2.2 y hy) (ho.2 y hy) (dist_names hT.1.2 _ (List.mem_map.2 ⟨y, hy, rfl⟩))) (by omega)
  exact good_seq (text_g t.Name hn32) (good_seq (num_g (t.Fields.length : Nat) 8 (by omega) (by omega) (by decide)) (good_seq l1 (good_seq (num_g (t.Methods.length : Nat) 16 (by omega) (by omega) (by decide)) (good_map l2 fun v => (⟨t.Name, t.Fields, v⟩ : CodeType)) fun v => tQ4_b _ _ v) fun v => tQ3_b _ v) fun v => tQ2_b _ v) fun v => tQ1_b v
theorem tF (n : Nat) (c : Int) (r : Bytecodereader) (acc : List CodeType) : bytecode_Decode_loop1 K (n + 1) c r acc = bif ((decide (c > 0)) && (!r.failed)) then ((bytecode_reader_typ K r).bind fun x => ifp (acc.length + [x.1].length ≤ 4000000) (bytecode_Decode_loop1 K n (W (c - 1)) x.2 (acc ++ [x.1]))) else some (r, acc) := rfl
def dQ1 (c : Int) : Rdr (List CodeType) := fun s => (bytecode_Decode_loop1 K K c s []).bind fun x => some (x.2, x.1)
def dQ : Rdr (List CodeType) := fun s => (bytecode_reader_number K s 8).bind fun x => dQ1 x.1 x.2
theorem dQ_g {c : Code} (h : smC c) (ho : okC c = true) (hk : c.ok) : Good dQ (encC c) c.Types := by
  have ho' := ho
  simp only [okC, Bool.and_eq_true, decide_eq_true_eq, List.all_eq_true] at ho
  have l1 := loop_g (F := bytecode_Decode_loop1 K) tF tQ_b c.Types (f := encT) (fun y hy => tQ_g (formT h ho' hy) (ho.1.2 y hy) (hk y hy) (dist_names ho.1.1.2 _ (List.mem_map.2 ⟨y, hy, rfl⟩))) (by omega)
  exact good_seq (num_g (c.Types.length : Nat) 8 (by omega) (by omega) (by decide)) l1 fun v => loop_b tF v
theorem Decode_dQ (a0 : List UInt8) : bytecode_Decode K a0 = (dQ ⟨a0, false⟩).bind fun x => bif x.2.failed then (some ((⟨([] : List CodeType)⟩ : Code), 0, 3)) else ((bytecode_rightForm K (⟨x.1⟩ : Code)).bind fun x4 => bif (!x4) then (some ((⟨([] : List CodeType)⟩ : Code), 0, 3)) else (some ((⟨x.1⟩ : Code), (Md.W (((a0.length : Nat) : Int) - ((x.2.b.length : Nat) : Int))), 0))) := by
  unfold bytecode_Decode dQ dQ1
  simp only [Option.bind_assoc, Option.bind_some]
theorem Decode_back {c : Code} (h : smC c) (ho : okC c = true) (hk : c.ok) (z : List UInt8) (hz : z.length ≤ 100) : bytecode_Decode K (encC c ++ z) = some (c, (((encC c).length : Nat) : Int), 0) := by
  have hl := encC_len h ho
  rw [Decode_dQ, (dQ_g h ho hk).inv z (by omega), bind_e rfl]
  show Option.bind (bytecode_rightForm K c) _ = _
  rw [rightForm_eq K c (by decide) h, ho, bind_e rfl]
  show some _ = some _
  have : W ((((encC c ++ z).length : Nat) : Int) - ((z.length : Nat) : Int)) = (((encC c).length : Nat) : Int) := by
    rw [List.length_append]
    exact (W_id (by omega) (by omega)).trans (by omega)
  rw [this]
theorem Decode_cut {c : Code} (h : smC c) (ho : okC c = true) (hk : c.ok) (j : Nat) (hj : j < (encC c).length) : bytecode_Decode K ((encC c).take j) = some (⟨[]⟩, 0, 3) := by
  have hl := encC_len h ho
  obtain ⟨v, r, h1, h2, _⟩ := (dQ_g h ho hk).cut j hj (by omega)
  rw [Decode_dQ, h1, bind_e rfl, h2]
  rfl
theorem eqf {α : Type} (l : List α) (F : Nat → Nat → Option (Sum Unit Bool)) (hl : l.length ≤ 1000) (hF : ∀ n i, (h : i < l.length) → F (n + 1) i = F n (i + 1)) (hE : ∀ n i, ¬ i < l.length → F (n + 1) i = some (.inl ())) : ((F K 0).bind fun o2 => Md.onS o2 (fun x2_0 => some true) (fun r2 => some r2)) = some true := by
  have := all_loop l (fun _ => true) F (fun n i h => by rw [hF n i h]; rfl) hE K 0 (Nat.zero_le _) (by unfold K; omega)
  rw [this]
  have e : (l.drop 0).all (fun _ => true) = true := by simp
  rw [e]
  rfl
theorem sameV_self (v : Value) (h : smV v) : wire_SameValue K v v = some true := by
  obtain ⟨h1, h2, h3⟩ := h
  rw [sameV_w K v v (by omega) (by unfold K; omega) (by omega) (by unfold K; omega), decide_eq_true rfl]
theorem same2 (x : Instr) (h : smV x.Value) : bytecode_Same_2 K x x = some true := by
  unfold bytecode_Same_2
  rw [sameV_self _ h]
  simp
theorem same1 (x : Field) (h : smV x.Init) : bytecode_Same_1 K x x = some true := by
  unfold bytecode_Same_1
  rw [sameV_self _ h]
  simp
theorem same3 (m : CodeMethod) (h : smM m) : bytecode_Same_3 K m m = some true := by
  obtain ⟨h1, h2, h3, h4, h5⟩ := h
  have hE : zqbf K m.Code m.Code = some true := by
    unfold zqbf
    rw [bne_self_eq_false, cond_false]
    exact eqf m.Code (fun n i => zqbh K m.Code m.Code n i) (by omega) (fun n i hi => by
      show zqbh K m.Code m.Code (n + 1) i = _
      rw [zqbh, lt_t hi, cond_true, ifp_pos hi, ifp_pos hi, gd hi, same2 _ (h5 _ (List.getElem_mem hi)), bind_e rfl, Bool.not_true, cond_false, ifp_pos (by omega)]) (fun n i hi => by
      show zqbh K m.Code m.Code (n + 1) i = _
      rw [zqbh, lt_f hi]; rfl)
  unfold bytecode_Same_3
  rw [equal_eq K _ _ (by omega) (by unfold K; omega), equal_eq K _ _ (by omega) (by unfold K; omega), hE]
  simp
theorem same4 (t : CodeType) (h : smT t) : bytecode_Same_4 K t t = some true := by
  obtain ⟨h1, h2, h3, h4, h5⟩ := h
  have hE : zqbc K t.Fields t.Fields = some true := by
    unfold zqbc
    rw [bne_self_eq_false, cond_false]
    exact eqf t.Fields (fun n i => zqbe K t.Fields t.Fields n i) (by omega) (fun n i hi => by
      show zqbe K t.Fields t.Fields (n + 1) i = _
      rw [zqbe, lt_t hi, cond_true, ifp_pos hi, ifp_pos hi, gd hi, same1 _ (h4 _ (List.getElem_mem hi)).2, bind_e rfl, Bool.not_true, cond_false, ifp_pos (by omega)]) (fun n i hi => by
      show zqbe K t.Fields t.Fields (n + 1) i = _
      rw [zqbe, lt_f hi]; rfl)
  have hM : zqaw K t.Methods t.Methods = some true := by
    unfold zqaw
    rw [bne_self_eq_false, cond_false]
    exact eqf t.Methods (fun n i => zqay K t.Methods t.Methods n i) (by omega) (fun n i hi => by
      show zqay K t.Methods t.Methods (n + 1) i = _
      rw [zqay, lt_t hi, cond_true, ifp_pos hi, ifp_pos hi, gd hi, same3 _ (h5 _ (List.getElem_mem hi)), bind_e rfl, Bool.not_true, cond_false, ifp_pos (by omega)]) (fun n i hi => by
      show zqay K t.Methods t.Methods (n + 1) i = _
      rw [zqay, lt_f hi]; rfl)
  unfold bytecode_Same_4
  rw [hE, hM]
  simp
theorem Same_self (c : Code) (h : smC c) : bytecode_Same K c c = some true := by
  obtain ⟨h1, h2⟩ := h
  unfold bytecode_Same zqaz
  rw [bne_self_eq_false, cond_false]
  rw [eqf c.Types (fun n i => zqbb K c.Types c.Types n i) (by omega) (fun n i hi => by
    show zqbb K c.Types c.Types (n + 1) i = _
    rw [zqbb, lt_t hi, cond_true, ifp_pos hi, ifp_pos hi, gd hi, same4 _ (h2 _ (List.getElem_mem hi)), bind_e rfl, Bool.not_true, cond_false, ifp_pos (by omega)]) (fun n i hi => by
    show zqbb K c.Types c.Types (n + 1) i = _
    rw [zqbb, lt_f hi]; rfl)]
  rfl
theorem CodeBack_law (c : Code) (z : List UInt8) (a2 : UInt16) (h : c.okl) : ∃ k, actorgridlaw20_CodeBack k c z a2 = some true := by
  cases hs : cB c with
  | false =>
    refine ⟨9223372036854775900, ?_⟩
    unfold actorgridlaw20_CodeBack
    rw [awake_big, bind_e rfl, Bool.not_true, cond_false, Small_eq _ c (by decide) (lenL_ok h), hs, bind_e rfl]
    rfl
  | true =>
    have hS := cB_sm hs
    refine ⟨K, ?_⟩
    unfold actorgridlaw20_CodeBack
    rw [awake_K, bind_e rfl, Bool.not_true, cond_false, Small_eq _ c (by decide) (lenL_mono (lenL_sm hS) (by decide)), hs, bind_e rfl, Bool.not_true, Bool.false_or, Verify_eq c hS, bind_e rfl]
    by_cases hz : ((z.length : Nat) : Int) > 100
    · rw [decide_eq_true hz]; rfl
    · rw [decide_eq_false hz, cond_false, bind_e rfl]
      cases ho : okC c with
      | false =>
        have : verP c = 1 := by unfold verP; rw [ho]; rfl
        rw [this]; rfl
      | true =>
        have hv : (verP c == 1) = false := by
          unfold verP
          rw [ho]
          cases anaB c <;> rfl
        have hl := encC_len hS ho
        have hpos : 0 < (encC c).length := by
          unfold encC encN
          rw [List.length_append]
          have := enc_pos (UInt64.ofInt (c.Types.length : Nat)).toNat
          omega
        have hj := Nat.mod_lt a2.toNat hpos
        rw [hv, cond_false, Encode_eq hS ho h.ok, bind_e rfl, show ((((encC c).length : Nat) : Int) == 0) = false from beq_eq_false_iff_ne.2 (by omega), cond_false, ifp_pos (by show 0 + _ ≤ _; omega), List.nil_append, ifp_pos (by omega), Decode_back hS ho h.ok z (by omega), bind_e rfl, ifp_pos hpos, ifp_pos (by omega), Decode_cut hS ho h.ok _ hj, bind_e rfl]
        dsimp only
        rw [beq_self_eq_true, beq_self_eq_true, Bool.and_self, cond_true, Same_self c hS]
        rfl
end Md
end Go.Proofs.Ytclffekkjfhpdaa
