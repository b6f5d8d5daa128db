import Derived.Test.YtclffekkjfhpdaaQPl
namespace Go.Proofs.Ytclffekkjfhpdaa
set_option linter.unusedVariables false
set_option linter.unusedSimpArgs false
namespace Md
def encN (n : Int) : List UInt8 := enc (UInt64.ofInt n).toNat
def encX (x : Instr) : List UInt8 := encN x.Op ++ (encN x.A ++ (encN x.B ++ (if x.Op = 1 then encV x.Value else [])))
def encF (f : Field) : List UInt8 := encS f.Name ++ (encN f.Kind ++ encV f.Init)
def encM (m : CodeMethod) : List UInt8 := encS m.Name ++ (encL encI m.Params ++ (encL encI m.Locals ++ (encN m.Result ++ (encN (m.Code.length : Nat) ++ m.Code.flatMap encX))))
def encT (t : CodeType) : List UInt8 := encS t.Name ++ (encN (t.Fields.length : Nat) ++ (t.Fields.flatMap encF ++ (encN (t.Methods.length : Nat) ++ t.Methods.flatMap encM)))
def encC (c : Code) : List UInt8 := encN (c.Types.length : Nat) ++ c.Types.flatMap encT
theorem encN_len (n : Int) : (encN n).length ≤ 10 := enc_len10 _
theorem encN_small {n : Int} (h : 0 ≤ n) (h2 : n < 128) : (encN n).length ≤ 1 := by
  unfold encN
  rw [ofInt_nat, Int.emod_eq_of_lt h (by omega)]
  exact enc_len 0 _ (by omega)
theorem num_w (b : List UInt8) (n : Int) (h : b.length ≤ 3380000) : bytecode_writer_number K ⟨b⟩ n = some ⟨b ++ encN n⟩ := by
  unfold bytecode_writer_number
  rw [appendUint_eq K (by decide) (by decide) b _ (by omega), bind_e rfl]
  rfl
theorem text_w (b s : List UInt8) (h : b.length + s.length ≤ 3380000) : bytecode_writer_text K ⟨b⟩ s = some ⟨b ++ encS s⟩ := by
  unfold bytecode_writer_text
  rw [appendString_eq K (by decide) (by decide) b s (by omega), bind_e rfl]
theorem wr_loop {α : Type} [Inhabited α] (l : List α) (f : α → List UInt8) (F : Nat → Nat → List UInt8 → Option (List UInt8)) (B : Nat)
    (hF : ∀ n i acc, (h : i < l.length) → acc.length + (f l[i]).length ≤ B → F (n + 1) i acc = F n (i + 1) (acc ++ f l[i])) (hE : ∀ n i acc, ¬ i < l.length → F (n + 1) i acc = some acc) :
    ∀ n i acc, i ≤ l.length → l.length - i < n → acc.length + ((l.drop i).flatMap f).length ≤ B → F n i acc = some (acc ++ (l.drop i).flatMap f) := by
  intro n
  induction n with
  | zero => intro i _ _ h; omega
  | succ n ih =>
    intro i acc h1 h2 h3
    by_cases h : i < l.length
    · rw [List.drop_eq_getElem_cons h, List.flatMap_cons, List.length_append] at h3
      rw [hF n i acc h (by omega), ih (i + 1) _ (by omega) (by omega) (by rw [List.length_append]; omega), List.drop_eq_getElem_cons h, List.flatMap_cons, List.append_assoc]
    · rw [hE n i acc h, List.drop_of_length_le (by omega)]
      simp
theorem flat_len {α : Type} (f : α → List UInt8) (B : Nat) : ∀ (l : List α), (∀ x ∈ l, (f x).length ≤ B) → (l.flatMap f).length ≤ B * l.length
  | [], _ => by simp
  | a :: r, h => by
    have h1 := flat_len f B r (fun x hx => h x (List.mem_cons_of_mem _ hx))
    have h2 := h a (List.mem_cons_self ..)
    rw [List.flatMap_cons, List.length_append, List.length_cons, Nat.mul_add]
    omega
theorem okI_val {c : Code} {t : CodeType} {m : CodeMethod} {x : Instr} (h : okI c t m x = true) (ho : x.Op = 1) : okV x.Value ∧ x.A = 0 ∧ x.B = 0 := by
  simp only [okI, Bool.and_eq_true, Bool.not_eq_true', Bool.or_eq_false_iff] at h
  obtain ⟨h1, h2⟩ := h
  have e : bodyI c t m x = (decide (okV x.Value) && (x.Value.Kind != 0)) := by unfold bodyI; rw [ho]; rfl
  rw [e, Bool.and_eq_true, decide_eq_true_eq] at h2
  have hu : useA x.Op = false := by rw [ho]; decide
  have h3 := h1.1.1.2
  have h4 := h1.1.2
  rw [hu] at h3
  refine ⟨h2.1, ?_, ?_⟩
  · simpa using h3
  · rw [ho] at h4; simpa using h4
theorem instr_w {c : Code} {t : CodeType} {m : CodeMethod} {x : Instr} (hx : okI c t m x = true) (hv : x.Value.ok) (b : List UInt8) (h : b.length + (encX x).length ≤ 3360000) :
    ((bytecode_writer_number K (⟨b⟩ : Bytecodewriter) x.Op).bind fun x11 => (bytecode_writer_number K x11 x.A).bind fun x12 => (bytecode_writer_number K x12 x.B).bind fun x13 => bif x.Op == 1 then ((wire_AppendValue K x13.b x.Value).bind fun x15 => some x15) else (some x13.b)) = some (b ++ encX x) := by
  unfold encX at *
  simp only [List.length_append] at h
  rw [num_w _ _ (by omega), bind_e rfl, num_w _ _ (by simp; omega), bind_e rfl, num_w _ _ (by simp; omega), bind_e rfl]
  by_cases ho : x.Op = 1
  · obtain ⟨hV, _⟩ := okI_val hx ho
    rw [beq_iff_eq.2 ho, cond_true, if_pos ho]
    rw [if_pos ho] at h
    show (wire_AppendValue K (b ++ encN x.Op ++ encN x.A ++ encN x.B) x.Value).bind _ = _
    rw [appendV_eq K (by decide) (by decide) _ _ hV hv (by decide) (by simp; omega), bind_e rfl]
    simp
  · rw [beq_eq_false_iff_ne.2 ho, if_neg ho, cond_false]
    simp
theorem method_w {c : Code} {t : CodeType} {m : CodeMethod} (hm : smM m) (hx : ∀ x ∈ m.Code, okI c t m x = true) (ho : m.ok) (b : List UInt8) (h : b.length + (encM m).length ≤ 3360000) : bytecode_writer_method K ⟨b⟩ m = some ⟨b ++ encM m⟩ := by
  obtain ⟨s1, s2, s3, s4, s5⟩ := hm
  obtain ⟨o1, o2, o3, o4⟩ := ho
  have hpos : ∀ s : List UInt8, s.length ≤ (encS s).length := fun s => by unfold encS; simp
  have hs := hpos m.Name
  have hN := encN_len m.Result
  unfold bytecode_writer_method
  have h0 := h
  unfold encM at h
  simp only [List.length_append] at h
  rw [text_w _ _ (by omega), bind_e rfl]
  show (wire_AppendInts K (b ++ encS m.Name) m.Params).bind _ = _
  rw [appendInts_eq K (by decide) (by decide) _ _ o1 (by unfold K; omega) (by simp; omega), bind_e rfl, appendInts_eq K (by decide) (by decide) _ _ o3 (by unfold K; omega) (by simp; omega), bind_e rfl, num_w _ _ (by simp; omega), bind_e rfl, num_w _ _ (by simp; omega), bind_e rfl]
  have key := wr_loop m.Code encX (fun n i acc => zqam K m n i acc) 3360000 (fun n i acc hi hl => by
    show zqam K m (n + 1) i acc = _
    rw [zqam, lt_t hi, cond_true, ifp_pos hi, gd hi, instr_w (hx _ (List.getElem_mem hi)) (o4 _ (List.getElem_mem hi)).2.2.2 acc hl, bind_e rfl, ifp_pos (by omega)]) (fun n i acc hi => by
    show zqam K m (n + 1) i acc = _
    rw [zqam, lt_f hi]; rfl) K 0 (b ++ encS m.Name ++ encL encI m.Params ++ encL encI m.Locals ++ encN m.Result ++ encN (m.Code.length : Nat)) (Nat.zero_le _) (by unfold K; omega) (by rw [List.drop_zero]; simp only [List.length_append]; omega)
  rw [List.drop_zero] at key
  rw [show zqam K m K 0 _ = _ from key, bind_e rfl]
  unfold encM
  simp
theorem walkM_cnt {c : Code} {t : CodeType} : ∀ {l : List CodeMethod} {n x : Nat}, walkM c t l n = some x → x = n + (l.map (·.Code.length)).sum
  | [], n, x, e => by simp only [walkM, Option.some.injEq] at e; simp; omega
  | m :: r, n, x, e => by
    rw [walkM] at e
    split at e
    · have := walkM_cnt e
      simp
      omega
    · cases e
def cnt (t : CodeType) : Nat := (t.Methods.map (·.Code.length)).sum
theorem walkT_cnt {c : Code} : ∀ {l : List CodeType} {n : Nat}, n ≤ 3000 → walkT c l n = true → n + (l.map cnt).sum ≤ 3000
  | [], n, h, _ => by simp; exact h
  | t :: r, n, h, e => by
    rw [walkT] at e
    cases hw : walkM c t t.Methods n with
    | none => rw [hw] at e; cases e
    | some x =>
      rw [hw] at e
      have h1 := walkM_cnt hw
      have h2 := walkT_cnt (walkM_le h hw) e
      rw [List.map_cons, List.sum_cons]
      unfold cnt at *
      omega
theorem encS_name {s : List UInt8} (h : s.length ≤ 100) : (encS s).length ≤ 101 := by
  unfold encS
  have := enc_len 0 s.length (by omega)
  rw [List.length_append]
  omega
theorem encV_len {v : Value} (h : okV v) : (encV v).length ≤ 1042 := by
  obtain ⟨o1, o2, o3, o4, o5, o6, o7, o8, o9, o10⟩ := h
  unfold encV encB
  rw [List.length_cons]
  split
  · have := encI_len v.N; omega
  · split
    · simp
    · split
      · have := encS_name (s := v.S) (by omega); omega
      · split
        · unfold encL
          rw [List.length_append]
          have h1 := enc_len 0 v.I.length (by omega)
          have h2 := flat_len encI 10 v.I (fun x _ => encI_len x)
          omega
        · split
          · unfold encL
            rw [List.length_append]
            have h1 := enc_len 0 v.L.length (by omega)
            have h2 := flat_len encS 65 v.L (fun x hx => by
              have := o10 x hx
              have h3 := enc_len 0 x.length (by omega)
              unfold encS
              rw [List.length_append]
              omega)
            omega
          · simp
theorem encX_len {c : Code} {t : CodeType} {m : CodeMethod} {x : Instr} (hx : okI c t m x = true) : (encX x).length ≤ 1063 := by
  have h1 := encN_len x.A
  have h2 := encN_len x.B
  have h3 := (okI_rng hx).2.2.2.2.2
  have h4 := encN_small (n := x.Op) (by omega) (by omega)
  unfold encX
  simp only [List.length_append]
  split
  · rename_i ho
    have := encV_len (okI_val hx ho).1
    omega
  · simp; omega
theorem encM_len {c : Code} {t : CodeType} {m : CodeMethod} (hm : smM m) (ho : okM c t m = true) : (encM m).length ≤ 260 + 1063 * m.Code.length := by
  obtain ⟨s1, s2, s3, s4, s5⟩ := hm
  simp only [okM, Bool.and_eq_true, decide_eq_true_eq, List.all_eq_true] at ho
  have h1 := encS_name s1
  have h2 := enc_len 0 m.Params.length (by omega)
  have h3 := enc_len 0 m.Locals.length (by omega)
  have h4 := flat_len encI 10 m.Params (fun x _ => encI_len x)
  have h5 := flat_len encI 10 m.Locals (fun x _ => encI_len x)
  have h6 := encN_len m.Result
  have h7 := encN_small (n := (m.Code.length : Nat)) (by omega) (by omega)
  have h8 := flat_len encX 1063 m.Code (fun x hx => encX_len (ho.2 x hx))
  unfold encM encL
  simp only [List.length_append]
  omega
theorem encMs_len {c : Code} {t : CodeType} : ∀ (l : List CodeMethod), (∀ m ∈ l, smM m ∧ okM c t m = true) → (l.flatMap encM).length ≤ 260 * l.length + 1063 * (l.map (·.Code.length)).sum
  | [], _ => by simp
  | m :: r, h => by
    have h1 := encMs_len r (fun x hx => h x (List.mem_cons_of_mem _ hx))
    have h2 := encM_len (h m (List.mem_cons_self ..)).1 (h m (List.mem_cons_self ..)).2
    rw [List.flatMap_cons, List.length_append, List.length_cons, List.map_cons, List.sum_cons]
    omega
structure FormT (c : Code) (t : CodeType) : Prop where
  sm : smT t
  nf : t.Fields.length ≤ 8
  nm : t.Methods.length ≤ 16
  fs : ∀ f ∈ t.Fields, fdB f = true
  ms : ∀ m ∈ t.Methods, okM c t m = true
theorem formT {c : Code} (h : smC c) (ho : okC c = true) {t : CodeType} (ht : t ∈ c.Types) : FormT c t := by
  simp only [okC, Bool.and_eq_true, List.all_eq_true] at ho
  have h1 := ho.1.2 t ht
  simp only [okT, Bool.and_eq_true, decide_eq_true_eq, List.all_eq_true] at h1
  exact ⟨h.2 t ht, by omega, by omega, h1.2, walkT_all ho.2 t ht⟩
theorem fdB_ok {f : Field} (h : fdB f = true) : 1 ≤ f.Kind ∧ f.Kind ≤ 5 ∧ f.Init.Kind = f.Kind ∧ okV f.Init := by
  simp only [fdB, kindB, Bool.and_eq_true, decide_eq_true_eq, beq_iff_eq] at h
  exact ⟨by omega, by omega, h.1.2, h.2⟩
theorem encT_len {c : Code} {t : CodeType} (h : FormT c t) : (encT t).length ≤ 14000 + 1063 * cnt t := by
  have h1 := encS_name h.sm.1
  have hnf := h.nf
  have hnm := h.nm
  have h2 := encN_small (n := (t.Fields.length : Nat)) (by omega) (by omega)
  have h3 := encN_small (n := (t.Methods.length : Nat)) (by omega) (by omega)
  have h4 := flat_len encF 1144 t.Fields (fun f hf => by
    obtain ⟨f1, f2, f3, f4⟩ := fdB_ok (h.fs f hf)
    have a1 := encS_name (h.sm.2.2.2.1 f hf).1
    have a2 := encN_small (n := f.Kind) (by omega) (by omega)
    have a3 := encV_len f4
    unfold encF
    simp only [List.length_append]
    omega)
  have h5 := encMs_len (c := c) (t := t) t.Methods (fun m hm => ⟨h.sm.2.2.2.2 m hm, h.ms m hm⟩)
  unfold encT cnt
  simp only [List.length_append]
  omega
theorem encTs_len {c : Code} : ∀ (l : List CodeType), (∀ t ∈ l, FormT c t) → (l.flatMap encT).length ≤ 14000 * l.length + 1063 * (l.map cnt).sum
  | [], _ => by simp
  | m :: r, h => by
    have h1 := encTs_len r (fun x hx => h x (List.mem_cons_of_mem _ hx))
    have h2 := encT_len (h m (List.mem_cons_self ..))
    rw [List.flatMap_cons, List.length_append, List.length_cons, List.map_cons, List.sum_cons]
    omega
theorem encC_len {c : Code} (h : smC c) (ho : okC c = true) : (encC c).length ≤ 3310000 := by
  have ho' := ho
  simp only [okC, Bool.and_eq_true, decide_eq_true_eq] at ho
  have h1 := encTs_len c.Types (fun t ht => formT h ho' ht)
  have h2 := walkT_cnt (by omega) ho.2
  have h3 := encN_len (c.Types.length : Nat)
  have h4 := ho.1.1.1
  unfold encC
  rw [List.length_append]
  omega
theorem Encode_eq {c : Code} (h : smC c) (ho : okC c = true) (hk : c.ok) : bytecode_Encode K c = some (encC c) := by
  have hlen := encC_len h ho
  unfold bytecode_Encode
  rw [rightForm_eq K c (by decide) h, bind_e rfl, ho, Bool.not_true, cond_false, num_w _ _ (by simp), bind_e rfl]
  have hl := h.1
  have key := wr_loop c.Types encT (fun n i acc => bytecode_Encode_loop1 K c n i acc) 3360000 (fun n i acc hi hb => by
    show bytecode_Encode_loop1 K c (n + 1) i acc = _
    have hf := formT h ho (List.getElem_mem hi)
    have hq := hk _ (List.getElem_mem hi)
    have hfl := hf.nf
    have hml := hf.nm
    rw [bytecode_Encode_loop1, lt_t hi, cond_true, ifp_pos hi, gd hi]
    have ht : c.Types.getD i default = c.Types[i] := gd hi
    generalize c.Types[i] = t at *
    have hs : t.Name.length ≤ (encS t.Name).length := by unfold encS; simp
    unfold encT at hb
    simp only [List.length_append] at hb
    have e2 := wr_loop t.Fields encF (fun n j acc => bytecode_Encode_loop2 K c i n j acc) 3360000 (fun n j acc hj hb => by
      show bytecode_Encode_loop2 K c i (n + 1) j acc = _
      obtain ⟨f1, f2, f3, f4⟩ := fdB_ok (hf.fs _ (List.getElem_mem hj))
      have hq2 := (hq.1 _ (List.getElem_mem hj)).2
      rw [bytecode_Encode_loop2, ht, lt_t hj, cond_true, ifp_pos hj, gd hj]
      generalize t.Fields[j] = f at *
      have hs : f.Name.length ≤ (encS f.Name).length := by unfold encS; simp
      unfold encF at hb ⊢
      simp only [List.length_append] at hb
      rw [text_w _ _ (by omega), bind_e rfl, num_w _ _ (by simp; omega), bind_e rfl]
      show Option.bind (wire_AppendValue K (acc ++ encS f.Name ++ encN f.Kind) f.Init) _ = _
      rw [appendV_eq K (by decide) (by decide) _ _ f4 hq2 (by decide) (by simp; omega), bind_e rfl, ifp_pos (by omega)]
      simp) (fun n j acc hj => by
      show bytecode_Encode_loop2 K c i (n + 1) j acc = _
      rw [bytecode_Encode_loop2, ht, lt_f hj]; rfl)
    have e3 := wr_loop t.Methods encM (fun n j acc => bytecode_Encode_loop3 K c i n j acc) 3360000 (fun n j acc hj hb => by
      show bytecode_Encode_loop3 K c i (n + 1) j acc = _
      have hm := List.getElem_mem hj
      have hom := hf.ms _ hm
      simp only [okM, Bool.and_eq_true, List.all_eq_true] at hom
      rw [bytecode_Encode_loop3, ht, lt_t hj, cond_true, ifp_pos hj, gd hj, method_w (hf.sm.2.2.2.2 _ hm) hom.2 (hq.2 _ hm) acc hb, bind_e rfl, ifp_pos (by omega)]) (fun n j acc hj => by
      show bytecode_Encode_loop3 K c i (n + 1) j acc = _
      rw [bytecode_Encode_loop3, ht, lt_f hj]; rfl)
    rw [text_w _ _ (by omega), bind_e rfl, num_w _ _ (by simp; omega), bind_e rfl]
    have g2 := e2 K 0 (acc ++ encS t.Name ++ encN (t.Fields.length : Nat)) (Nat.zero_le _) (by unfold K; omega) (by rw [List.drop_zero]; simp only [List.length_append]; omega)
    rw [List.drop_zero] at g2
    rw [show bytecode_Encode_loop2 K c i K 0 _ = _ from g2, bind_e rfl, num_w _ _ (by simp only [List.length_append]; omega), bind_e rfl]
    have g3 := e3 K 0 (acc ++ encS t.Name ++ encN (t.Fields.length : Nat) ++ t.Fields.flatMap encF ++ encN (t.Methods.length : Nat)) (Nat.zero_le _) (by unfold K; omega) (by rw [List.drop_zero]; simp only [List.length_append]; omega)
    rw [List.drop_zero] at g3
    rw [show bytecode_Encode_loop3 K c i K 0 _ = _ from g3, bind_e rfl, bind_e rfl, ifp_pos (by omega)]
    unfold encT
    simp) (fun n i acc hi => by
    show bytecode_Encode_loop1 K c (n + 1) i acc = _
    rw [bytecode_Encode_loop1, lt_f hi]; rfl) K 0 ([] ++ encN (c.Types.length : Nat)) (Nat.zero_le _) (by unfold K; omega) (by rw [List.drop_zero, List.nil_append]; unfold encC at hlen; rw [List.length_append] at hlen; omega)
  rw [List.drop_zero] at key
  rw [show bytecode_Encode_loop1 K c K 0 _ = _ from key]
  rfl
end Md
end Go.Proofs.Ytclffekkjfhpdaa
