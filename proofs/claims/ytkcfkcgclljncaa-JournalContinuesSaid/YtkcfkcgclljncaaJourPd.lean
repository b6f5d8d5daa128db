/-
  Law 27 in plain words: crashes: JournalSurvives, JournalContinues. Conditions: none.
-/
import Derived.Test.YtkcfkcgclljncaaJourPc
import Derived.Test.YtkcfkcgclljncaaJourMM
namespace Go.Proofs.Ytkcfkcgclljncaa
set_option linter.unusedVariables false
set_option linter.unusedSimpArgs false
namespace Md
def smallR (r : JournalRecord) : Prop := 1 ≤ r.Kind ∧ r.Kind ≤ 255 ∧ r.Body.length ≤ 300
theorem smallR.good {r : JournalRecord} (h : smallR r) : goodR r := ⟨h.1, h.2.1, by have := h.2.2; omega⟩
def Armed (data : List UInt8) (w : Nat) (keep : Int) : Disk := ⟨data, 1048576, true, w, keep, false⟩
def Fresh (data : List UInt8) : Disk := ⟨data, 1048576, false, 0, 0, false⟩
def Dead (data : List UInt8) : Disk := ⟨data, 1048576, false, 0, 0, true⟩
theorem bytesF_len : ∀ (l : List JournalRecord), (∀ r ∈ l, smallR r) → (bytesF l).length ≤ l.length * 320
  | [], _ => by simp [bytesF]
  | r :: l, h => by
    have h1 := bytesF_len l fun r hr => h r (by simp [hr])
    have h2 := (frameR_len r (by have := (h r (by simp)).2.2; omega)).1
    have h3 := (h r (by simp)).2.2
    have : bytesF (r :: l) = frameR r ++ bytesF l := rfl
    rw [this, List.length_append, List.length_cons, Nat.add_mul]
    omega
theorem bytesF_snoc (l : List JournalRecord) (r : JournalRecord) : bytesF (l ++ [r]) = bytesF l ++ frameR r := by simp [bytesF]
theorem valid_armed (data : List UInt8) (w : Nat) (keep : Int) (hk : 0 ≤ keep) (h : data.length ≤ 1000000) : valid (Armed data w keep) = true := by
  unfold valid Armed
  dsimp only
  rw [decide_eq_true (by omega)]
  rfl
theorem valid_fresh (data : List UInt8) (h : data.length ≤ 1000000) : valid (Fresh data) = true := by
  unfold valid Fresh
  dsimp only
  rw [decide_eq_true (by omega)]
  rfl
theorem valid_dead (data : List UInt8) (h : data.length ≤ 1000000) : valid (Dead data) = true := by
  unfold valid Dead
  dsimp only
  rw [decide_eq_true (by omega)]
  rfl
theorem not_bad {r : JournalRecord} (h : smallR r) : ¬ badR r := by
  obtain ⟨h1, h2, h3⟩ := h
  unfold badR
  omega
theorem append_armed (data : List UInt8) (w : Nat) (keep : Int) (r : JournalRecord) (hk : 0 ≤ keep) (hl : data.length ≤ 900000) (hr : smallR r) : appendR (Armed data (w + 1) keep) r = (Armed (data ++ frameR r) w keep, 0) := by
  have h2 := (frameR_len r (by have := hr.2.2; omega)).1
  have h3 := hr.2.2
  unfold appendR appendD
  rw [valid_armed _ _ _ hk (by omega), if_neg (by simp [not_bad hr]), if_neg (by simp)]
  unfold Armed
  dsimp only
  rw [if_neg (by simp), if_neg (by omega), if_neg (by omega), if_pos rfl]
  congr 2
  omega
theorem append_dead (data : List UInt8) (keep : Int) (r : JournalRecord) (hk : 0 ≤ keep) (hl : data.length ≤ 900000) (hr : smallR r) : appendR (Armed data 0 keep) r = (Dead (data ++ (frameR r).take (min keep.toNat (frameR r).length)), 23) := by
  have h2 := (frameR_len r (by have := hr.2.2; omega)).1
  have h3 := hr.2.2
  unfold appendR appendD
  rw [valid_armed _ _ _ hk (by omega), if_neg (by simp [not_bad hr]), if_neg (by simp)]
  unfold Armed
  dsimp only
  rw [if_neg (by simp), if_neg (by omega), if_pos ⟨rfl, rfl⟩]
  rfl
theorem append_fresh (data : List UInt8) (r : JournalRecord) (hl : data.length ≤ 900000) (hr : smallR r) : appendR (Fresh data) r = (Fresh (data ++ frameR r), 0) := by
  have h2 := (frameR_len r (by have := hr.2.2; omega)).1
  have h3 := hr.2.2
  unfold appendR appendD
  rw [valid_fresh _ (by omega), if_neg (by simp [not_bad hr]), if_neg (by simp)]
  unfold Fresh
  dsimp only
  rw [if_neg (by simp), if_neg (by omega), if_neg (by simp)]
  rfl
theorem restart_armed (data : List UInt8) (w : Nat) (keep : Int) (hk : 0 ≤ keep) (h : data.length ≤ 1000000) : restartD (Armed data w keep) = (Fresh data, 0) := by
  unfold restartD
  rw [valid_armed _ _ _ hk h, if_neg (by simp)]
  rfl
theorem restart_dead (data : List UInt8) (h : data.length ≤ 1000000) : restartD (Dead data) = (Fresh data, 0) := by
  unfold restartD
  rw [valid_dead _ h, if_neg (by simp)]
  rfl
/-- Frames, and then what is no frame: the frames are recovered. -/
theorem recover_fresh (k : Nat) (l : List JournalRecord) (z : List UInt8) (hz : (openF z).2.2.2 ≠ 0) (hl : ∀ r ∈ l, smallR r) (hk : l.length ≤ k) (hs : (bytesF l ++ z).length ≤ 1000000) : recoverR k (Fresh (bytesF l ++ z)) = (l, Fresh (bytesF l), 0) := by
  have hf := frs_all l k z (fun r hr => (hl r hr).good) hk hz
  have hv := valid_fresh _ hs
  unfold recoverR
  rw [hv, if_neg (by simp), if_neg (by simp [Fresh])]
  show (if total (frs k (bytesF l ++ z)) < (bytesF l ++ z).length then _ else _) = _
  rw [show (Fresh (bytesF l ++ z)).Data = bytesF l ++ z from rfl, hf, total_bytes, map_fst]
  by_cases h0 : (bytesF l).length < (bytesF l ++ z).length
  · rw [if_pos h0]
    have ht : truncD (Fresh (bytesF l ++ z)) ((bytesF l).length : Int) = (Fresh (bytesF l), 0) := by
      unfold truncD
      rw [hv, if_neg (by simp), if_neg (by simp [Fresh])]
      unfold Fresh
      dsimp only
      rw [if_neg (by omega), if_neg (by simp), Int.toNat_natCast, List.take_left]
      rfl
    rw [ht, if_neg (by simp)]
  · rw [if_neg h0]
    have : z = [] := by
      rw [List.length_append] at h0
      exact List.eq_nil_of_length_eq_zero (by omega)
    rw [this, List.append_nil]
/-- What lies there after a crash within a write. -/
theorem torn (l : List JournalRecord) (r : JournalRecord) (j : Nat) (hr : smallR r) (hj : j ≤ (frameR r).length) : ∃ l0 z, bytesF l ++ (frameR r).take j = bytesF l0 ++ z ∧ (openF z).2.2.2 ≠ 0 ∧ (l0 = l ∨ l0 = l ++ [r]) := by
  by_cases h : j < (frameR r).length
  · refine ⟨l, _, rfl, ?_, .inl rfl⟩
    have hk := kind_of hr.good
    have := open_cutK (.ofInt r.Kind) (by have := hr.1; omega) r.Body (by have := hr.2.2; omega) j h
    unfold frameR
    omega
  · refine ⟨l ++ [r], [], ?_, open_nil, .inr rfl⟩
    rw [bytesF_snoc, List.append_nil, List.take_of_length_le (by omega)]
theorem take_own (l : List JournalRecord) : l.take l.length = l := List.take_length
/-- The end of a run of appends on an armed disk. -/
def RunS (l' : List JournalRecord) (done : Nat) (d : Disk) : Prop :=
  ∃ l0 z, (∀ r ∈ l', smallR r) ∧ (restartD d = (Fresh (bytesF l0 ++ z), 0)) ∧ (openF z).2.2.2 ≠ 0 ∧ (bytesF l0 ++ z).length ≤ 20000 ∧ d.Data.length ≤ 20000 ∧ done ≤ l0.length ∧ l0.length ≤ done + 1 ∧ l0.length ≤ l'.length ∧ l0 = l'.take l0.length ∧ l'.length ≤ 40
theorem survives_loop (k : Nat) (hk : 1000 ≤ k) (hk2 : k ≤ 100000) (a : List (List UInt8)) (ha : a.length ≤ 30) (keep : Int) (hke : 0 ≤ keep) : ∀ (n : Nat) (l : List JournalRecord) (w : Nat), w ≤ 1000000 → l.length ≤ a.length → a.length - l.length < n → (∀ r ∈ l, smallR r) →
    actorgridlaw27_JournalSurvives_loop1 k a n l.length l.length (Armed (bytesF l) w keep) l = some (.inr true) ∨
    ∃ done d l', actorgridlaw27_JournalSurvives_loop1 k a n l.length l.length (Armed (bytesF l) w keep) l = some (.inl (done, d, l')) ∧ RunS l' done d
  | 0, l, w, _, _, h, _ => by omega
  | n + 1, l, w, hw, hi, h, hl => by
    have hlen := bytesF_len l hl
    unfold actorgridlaw27_JournalSurvives_loop1
    by_cases hla : l.length < a.length
    · rw [decide_eq_true (by omega), cond_true, ifp_pos hla]
      by_cases hb : (((a.getD l.length default).length : Nat) : Int) > 300
      · rw [decide_eq_true hb]; exact .inl rfl
      rw [decide_eq_false hb, cond_false]
      obtain ⟨r, hr⟩ : ∃ r : JournalRecord, r = ⟨(((1 + l.length) : Nat) : Int), a.getD l.length default⟩ := ⟨_, rfl⟩
      have hs : smallR r := by rw [hr]; exact ⟨by dsimp only; omega, by dsimp only; omega, by dsimp only; omega⟩
      have hg : (l ++ [r]).getD l.length default = r := by simp [List.getD]
      rw [← hr, hg, show (⟨r.Kind, r.Body⟩ : JournalRecord) = r from rfl]
      have hrl := (frameR_len r (by have := hs.2.2; omega)).1
      have hs3 := hs.2.2
      rw [ifp_pos (by omega), ifp_pos hla, ifp_pos (by simp; omega), ifp_pos (by simp), jappend_eq k _ _ (by omega) (by omega) hk2 (by show (bytesF l).length ≤ _; omega) (by show ((w : Nat) : Int) ≤ _; omega), bind_e rfl]
      cases w with
      | zero =>
        rw [append_dead _ _ _ hke (by omega) hs]
        refine .inr ⟨_, _, _, rfl, ?_⟩
        obtain ⟨l0, z, h1, h2, h3⟩ := torn l r (min keep.toNat (frameR r).length) hs (by omega)
        have hdl : (bytesF l ++ (frameR r).take (min keep.toNat (frameR r).length)).length ≤ 20000 := by rw [List.length_append, List.length_take]; omega
        refine ⟨l0, z, fun q hq => ?_, ?_, h2, by rw [← h1]; exact hdl, hdl, ?_⟩
        · rcases List.mem_append.1 hq with h5 | h5
          · exact hl q h5
          · rw [List.mem_singleton.1 h5]; exact hs
        · rw [restart_dead _ (by omega), h1]
        · rcases h3 with rfl | rfl
          · exact ⟨Nat.le_refl _, by omega, by simp, by simp, by simp; omega⟩
          · exact ⟨by simp, by simp, by simp, List.take_length.symm, by simp; omega⟩
      | succ w =>
        rw [append_armed _ _ _ _ hke (by omega) hs]
        dsimp only
        rw [show ((0 : Int) == 23) = false from rfl, cond_false, show ((0 : Int) != 0) = false from rfl, cond_false, ifp_pos (by omega), ifp_pos (by omega), ← bytesF_snoc]
        have := survives_loop k hk hk2 a ha keep hke n (l ++ [r]) w (by omega) (by simp; omega) (by simp; omega) (fun q hq => by
          rcases List.mem_append.1 hq with h5 | h5
          · exact hl q h5
          · rw [List.mem_singleton.1 h5]; exact hs)
        rw [show (l ++ [r]).length = l.length + 1 by simp] at this
        exact this
    · rw [decide_eq_false (by omega), cond_false]
      refine .inr ⟨_, _, _, rfl, l, [], hl, ?_, open_nil, ?_, ?_, Nat.le_refl _, by omega, Nat.le_refl _, by simp, by omega⟩
      · rw [restart_armed _ _ _ hke (by omega), List.append_nil]
      · rw [List.append_nil]; omega
      · show (bytesF l).length ≤ _; omega
theorem small_take {l : List JournalRecord} {l0 : List JournalRecord} (h : ∀ r ∈ l, smallR r) (e : l0 = l.take l0.length) : ∀ r ∈ l0, smallR r := fun r hr => h r (by rw [e] at hr; exact List.mem_of_mem_take hr)
theorem new_fresh : newD 1048576 = (Fresh [], 0) := by decide
theorem arm_fresh (w : Nat) (keep : Nat) : armD (Fresh []) (w : Int) (keep : Int) = (Armed [] w keep, 0) := by
  unfold armD
  rw [valid_fresh [] (by simp), if_neg (by simp), if_neg (by simp [Fresh])]
  rfl
theorem recover_again (k : Nat) (l : List JournalRecord) (hl : ∀ r ∈ l, smallR r) (hk : l.length ≤ k) (hs : (bytesF l).length ≤ 1000000) : recoverR k (Fresh (bytesF l)) = (l, Fresh (bytesF l), 0) := by
  have := recover_fresh k l [] open_nil hl hk (by rw [List.append_nil]; exact hs)
  rw [List.append_nil] at this
  exact this
theorem JournalSurvives_law (a0 : List (List UInt8)) (a1 a2 : UInt8) : ∃ k, actorgridlaw27_JournalSurvives k a0 a1 a2 = some true := by
  refine ⟨30000, ?_⟩
  unfold actorgridlaw27_JournalSurvives
  rw [awake27 _ (by omega) (by omega), bind_e rfl, Bool.not_true, cond_false]
  by_cases hl : ((a0.length : Nat) : Int) > 30
  · rw [decide_eq_true hl]; rfl
  rw [decide_eq_false hl, cond_false, new_eq, bind_e rfl, new_fresh]
  dsimp only
  rw [show ((0 : Int) != 0) = false from rfl, cond_false, arm_eq _ _ _ _ (by simp [Fresh]), bind_e rfl, arm_fresh]
  dsimp only
  rw [show ((0 : Int) != 0) = false from rfl, cond_false]
  have ha1 := a1.toNat_lt
  rcases survives_loop 30000 (by omega) (by omega) a0 (by omega) (a2.toNat : Int) (by omega) 30000 [] a1.toNat (by omega) (by simp) (by simp; omega) (by simp) with h | ⟨done, d, l', h, l0, z, h1, h2, h3, h4, h5, h6, h7, h8, h9, h10⟩
  · rw [show bytesF [] = [] from rfl, show ([] : List JournalRecord).length = 0 from rfl] at h
    rw [h]; rfl
  rw [show bytesF [] = [] from rfl, show ([] : List JournalRecord).length = 0 from rfl] at h
  rw [h, bind_e rfl]
  show Option.bind _ _ = _
  have hs := small_take h1 h9
  have hb4 : (bytesF l0).length ≤ 20000 := by rw [List.length_append] at h4; omega
  dsimp only
  rw [restart_eq _ _ (by omega), bind_e rfl, h2]
  dsimp only
  rw [show ((0 : Int) != 0) = false from rfl, cond_false, recover_eq _ _ (by show (bytesF l0 ++ z).length ≤ _; omega) (by show (bytesF l0 ++ z).length + 20 ≤ _; omega) (by simp [Fresh]), bind_e rfl, recover_fresh _ l0 z h3 hs (by omega) (by omega)]
  dsimp only
  rw [recover_eq _ _ (by show (bytesF l0).length ≤ _; omega) (by show (bytesF l0).length + 20 ≤ _; omega) (by simp [Fresh]), bind_e rfl, recover_again _ l0 hs (by omega) (by omega)]
  dsimp only
  rw [show ((0 : Int) != 0) = false from rfl, Bool.or_self, cond_false, sameR_eq _ _ (by omega) (by omega), bind_e rfl, Bool.not_true, bind_e rfl, cond_false, sameD_eq, bind_e rfl, Bool.not_true, bind_e rfl, cond_false]
  rw [decide_eq_true (by omega), decide_eq_true (by omega), Bool.and_self, cond_true, ifp_pos (by omega), bind_e rfl, decide_eq_true (by omega), cond_true, ifp_pos (by omega), ← h9, sameR_eq _ _ (by omega) (by omega)]
  rfl
/-- The first run of appends of JournalContinues. -/
def RunC (d : Disk) : Prop := ∃ l0 z, (∀ r ∈ l0, smallR r) ∧ restartD d = (Fresh (bytesF l0 ++ z), 0) ∧ (openF z).2.2.2 ≠ 0 ∧ (bytesF l0 ++ z).length ≤ 20000 ∧ d.Data.length ≤ 20000 ∧ l0.length ≤ 40
theorem cont_done (k : Nat) (a : List (List UInt8)) (d : Disk) (n i : Nat) (h : 0 < n) : actorgridlaw27_JournalContinues_loop1 k a n 23 i d = some (.inl d) := by
  obtain ⟨n, rfl⟩ : ∃ m, n = m + 1 := ⟨n - 1, by omega⟩
  unfold actorgridlaw27_JournalContinues_loop1
  rw [show ((23 : Int) != 23) = false from rfl, Bool.and_false]
  rfl
theorem cont_loop (k : Nat) (hk : 1000 ≤ k) (hk2 : k ≤ 100000) (a : List (List UInt8)) (ha : a.length ≤ 20) (keep : Int) (hke : 0 ≤ keep) : ∀ (n : Nat) (l : List JournalRecord) (w : Nat), w ≤ 1000000 → l.length ≤ a.length → a.length - l.length + 1 < n → (∀ r ∈ l, smallR r) →
    actorgridlaw27_JournalContinues_loop1 k a n 0 l.length (Armed (bytesF l) w keep) = some (.inr true) ∨ ∃ d, actorgridlaw27_JournalContinues_loop1 k a n 0 l.length (Armed (bytesF l) w keep) = some (.inl d) ∧ RunC d
  | 0, l, w, _, _, h, _ => by omega
  | n + 1, l, w, hw, hi, h, hl => by
    have hlen := bytesF_len l hl
    unfold actorgridlaw27_JournalContinues_loop1
    rw [show ((0 : Int) != 23) = true from rfl, Bool.and_true]
    by_cases hla : l.length < a.length
    · rw [decide_eq_true (by omega), cond_true, ifp_pos hla]
      by_cases hb : (((a.getD l.length default).length : Nat) : Int) > 300
      · rw [decide_eq_true hb]; exact .inl rfl
      obtain ⟨r, hr⟩ : ∃ r : JournalRecord, r = ⟨1, a.getD l.length default⟩ := ⟨_, rfl⟩
      have hs : smallR r := by rw [hr]; exact ⟨by dsimp only; omega, by dsimp only; omega, by dsimp only; omega⟩
      have hrl := (frameR_len r (by have := hs.2.2; omega)).1
      have hs3 := hs.2.2
      have hall : ∀ q ∈ l ++ [r], smallR q := fun q hq => by
        rcases List.mem_append.1 hq with h5 | h5
        · exact hl q h5
        · rw [List.mem_singleton.1 h5]; exact hs
      rw [decide_eq_false hb, cond_false, ifp_pos hla, ← hr, jappend_eq k _ _ (by omega) (by omega) hk2 (by show (bytesF l).length ≤ _; omega) (by show ((w : Nat) : Int) ≤ _; omega), bind_e rfl]
      cases w with
      | zero =>
        rw [append_dead _ _ _ hke (by omega) hs, bind_e rfl]
        show ifp _ _ = _ ∨ ∃ d, ifp _ _ = _ ∧ _
        rw [ifp_pos (by omega)]
        dsimp only
        rw [cont_done k a _ n _ (by omega)]
        refine .inr ⟨_, rfl, ?_⟩
        obtain ⟨l0, z, h1, h2, h3⟩ := torn l r (min keep.toNat (frameR r).length) hs (by omega)
        have hdl : (bytesF l ++ (frameR r).take (min keep.toNat (frameR r).length)).length ≤ 20000 := by rw [List.length_append, List.length_take]; omega
        refine ⟨l0, z, ?_, ?_, h2, by rw [← h1]; exact hdl, hdl, ?_⟩
        · rcases h3 with rfl | rfl
          · exact hl
          · exact hall
        · rw [restart_dead _ (by omega), h1]
        · rcases h3 with rfl | rfl
          · omega
          · simp; omega
      | succ w =>
        rw [append_armed _ _ _ _ hke (by omega) hs, bind_e rfl]
        show ifp _ _ = _ ∨ ∃ d, ifp _ _ = _ ∧ _
        rw [ifp_pos (by omega), ← bytesF_snoc]
        have := cont_loop k hk hk2 a ha keep hke n (l ++ [r]) w (by omega) (by simp; omega) (by simp; omega) hall
        rw [show (l ++ [r]).length = l.length + 1 by simp] at this
        exact this
    · rw [decide_eq_false (by omega), cond_false]
      refine .inr ⟨_, rfl, l, [], hl, ?_, open_nil, ?_, ?_, by omega⟩
      · rw [restart_armed _ _ _ hke (by omega), List.append_nil]
      · rw [List.append_nil]; omega
      · show (bytesF l).length ≤ _; omega
theorem more_loop (k : Nat) (hk : 1000 ≤ k) (hk2 : k ≤ 100000) (a : List (List UInt8)) (ha : a.length ≤ 20) : ∀ (n i : Nat) (l : List JournalRecord), i ≤ a.length → a.length - i < n → l.length ≤ 40 + i → (∀ r ∈ l, smallR r) →
    actorgridlaw27_JournalContinues_loop2 k a n i (Fresh (bytesF l)) l = some (.inr true) ∨ ∃ l', actorgridlaw27_JournalContinues_loop2 k a n i (Fresh (bytesF l)) l = some (.inl (Fresh (bytesF l'), l')) ∧ (∀ r ∈ l', smallR r) ∧ l'.length ≤ 60
  | 0, i, l, _, h, _, _ => by omega
  | n + 1, i, l, hi, h, hc, hl => by
    have hlen := bytesF_len l hl
    unfold actorgridlaw27_JournalContinues_loop2
    by_cases hla : i < a.length
    · rw [decide_eq_true (by omega), cond_true, ifp_pos hla]
      by_cases hb : (((a.getD i default).length : Nat) : Int) > 300
      · rw [decide_eq_true hb]; exact .inl rfl
      obtain ⟨r, hr⟩ : ∃ r : JournalRecord, r = ⟨2, a.getD i default⟩ := ⟨_, rfl⟩
      have hs : smallR r := by rw [hr]; exact ⟨by dsimp only; omega, by dsimp only; omega, by dsimp only; omega⟩
      have hs3 := hs.2.2
      have hall : ∀ q ∈ l ++ [r], smallR q := fun q hq => by
        rcases List.mem_append.1 hq with h5 | h5
        · exact hl q h5
        · rw [List.mem_singleton.1 h5]; exact hs
      rw [decide_eq_false hb, cond_false, ifp_pos hla, ← hr, jappend_eq k _ _ (by omega) (by omega) hk2 (by show (bytesF l).length ≤ _; omega) (by simp [Fresh]), bind_e rfl, append_fresh _ _ (by omega) hs]
      dsimp only
      rw [show ((0 : Int) != 0) = false from rfl, cond_false, ifp_pos (by simp; omega), ifp_pos (by omega), ← bytesF_snoc]
      exact more_loop k hk hk2 a ha n (i + 1) (l ++ [r]) (by omega) (by omega) (by simp; omega) hall
    · rw [decide_eq_false (by omega), cond_false]
      exact .inr ⟨l, rfl, hl, by omega⟩
theorem JournalContinues_law (a0 a1 : List (List UInt8)) (a2 a3 : UInt8) : ∃ k, actorgridlaw27_JournalContinues k a0 a1 a2 a3 = some true := by
  refine ⟨30000, ?_⟩
  unfold actorgridlaw27_JournalContinues
  rw [awake27 _ (by omega) (by omega), bind_e rfl, Bool.not_true, cond_false]
  by_cases hl : ((a0.length : Nat) : Int) > 20
  · rw [decide_eq_true hl]; rfl
  by_cases hm : ((a1.length : Nat) : Int) > 20
  · rw [decide_eq_true hm, Bool.or_true]; rfl
  rw [decide_eq_false hl, decide_eq_false hm, Bool.or_self, cond_false, new_eq, bind_e rfl, new_fresh]
  dsimp only
  rw [show ((0 : Int) != 0) = false from rfl, cond_false, arm_eq _ _ _ _ (by simp [Fresh]), bind_e rfl, arm_fresh]
  dsimp only
  have ha1 := (a2 % 20).toNat_lt
  rcases cont_loop 30000 (by omega) (by omega) a0 (by omega) (a3.toNat : Int) (by omega) 30000 [] (a2 % 20).toNat (by omega) (by simp) (by simp; omega) (by simp) with h | ⟨d, h, l0, z, h1, h2, h3, h4, h5, h6⟩
  · rw [show bytesF [] = [] from rfl, show ([] : List JournalRecord).length = 0 from rfl] at h
    rw [h]; rfl
  rw [show bytesF [] = [] from rfl, show ([] : List JournalRecord).length = 0 from rfl] at h
  rw [h, bind_e rfl]
  show Option.bind _ _ = _
  have hb4 : (bytesF l0).length ≤ 20000 := by rw [List.length_append] at h4; omega
  rw [restart_eq _ _ (by omega), bind_e rfl, h2]
  dsimp only
  rw [show ((0 : Int) != 0) = false from rfl, cond_false, recover_eq _ _ (by show (bytesF l0 ++ z).length ≤ _; omega) (by show (bytesF l0 ++ z).length + 20 ≤ _; omega) (by simp [Fresh]), bind_e rfl, recover_fresh _ l0 z h3 h1 (by omega) (by omega)]
  dsimp only
  rw [show ((0 : Int) != 0) = false from rfl, cond_false]
  rcases more_loop 30000 (by omega) (by omega) a1 (by omega) 30000 0 l0 (Nat.zero_le _) (by omega) (by omega) h1 with h7 | ⟨l', h7, h8, h9⟩
  · rw [h7]; rfl
  rw [h7, bind_e rfl]
  show Option.bind _ _ = _
  have hb5 := bytesF_len l' h8
  dsimp only
  rw [recover_eq _ _ (by show (bytesF l').length ≤ _; omega) (by show (bytesF l').length + 20 ≤ _; omega) (by simp [Fresh]), bind_e rfl, recover_again _ l' h8 (by omega) (by omega)]
  dsimp only
  rw [show ((0 : Int) == 0) = true from rfl, cond_true, sameR_eq _ _ (by omega) (by omega)]
  rfl
end Md
end Go.Proofs.Ytkcfkcgclljncaa
