import Derived.Test.YtclffekkjfhpdaaGreatQAbsS
namespace Go.Proofs.YtclffekkjfhpdaaGreat
open Go.ChangeShapes Go.WideShapes Go.RowKit
set_option linter.unusedVariables false
set_option linter.unusedSimpArgs false
namespace Abs
def bits (n:Nat):Nat→List Nat
  | 0=>[]
  | j+1=>bif Nat.beq (n/2^j%2) 1 then j::bits n j else bits n j
theorem memB_bits (n:Nat):∀i,memB (bits n i)=fun j=>Nat.blt j i&&Nat.beq (n/2^j%2) 1
  | 0=>by funext j;simp [bits,memB,Nat.blt]
  | i+1=>by
    have ih:=memB_bits n i
    funext j
    have ihj:=congrFun ih j
    by_cases hj:j=i
    · subst hj
      have hlt:Nat.blt j (j+1)=true:=by simp [Nat.blt_eq]
      rw [hlt,Bool.true_and,bits]
      cases hb:Nat.beq (n/2^j%2) 1
      · rw [cond_false,ihj,hb,Bool.and_false]
      · rw [cond_true]
        show (Nat.beq j j||_)=true
        rw [Nat.beq_refl,Bool.true_or]
    · have hne:Nat.beq i j=false:=by
        cases h:Nat.beq i j
        · rfl
        · exact absurd (Nat.eq_of_beq_eq_true h).symm hj
      have hl:Nat.blt j (i+1)=Nat.blt j i:=by
        rw [Bool.eq_iff_iff,Nat.blt_eq,Nat.blt_eq]
        omega
      rw [bits,hl]
      cases hb:Nat.beq (n/2^i%2) 1
      · rw [cond_false,ihj]
      · rw [cond_true]
        show (Nat.beq i j||memB (bits n i) j)=_
        rw [hne,Bool.false_or,ihj]
section
variable {P:Program} {s:ASt} {l os:List Oper} {o:Oper} {m i:Nat} {al xs:List Add} {x:Add} {j t:Nat} {b want:Bool}
theorem obn (n:Nat) (h:∀S,Le (SD (fun j=>Nat.blt j i&&Nat.beq (n/2^j%2) 1) 0 (l.take m) al (s.hide (dsts (l.take m)))) S→(∀id,id∈x.blks.map (·.1)→look S.heap id=none)→Ob P l.toArray S o x) (hr:Obs P l m al s (i+1) os xs) (hd:depsOk l i [] (bits n i)=true:=by decide +kernel):Obs P l m al s i (o::os) (x::xs) :=
  ⟨⟨bits n i,hd,fun S hle=>h S (by rw [memB_bits] at hle;exact hle)⟩,hr⟩
theorem on (n:Nat) {p:Prop} (q:p) (hr:Obs P l m al s (i+1) os xs) (h1:o.guard=some (j,want):=by rfl) (h2:(l.toArray[j]?).bind (·.dst)=some t:=by rfl) (h3:get (SD (fun j=>Nat.blt j i&&Nat.beq (n/2^j%2) 1) 0 (l.take m) al (s.hide (dsts (l.take m)))).env t=.one (.val (.bool b)):=by rfl) (h4:Nat.blt t s.nt=true:=by rfl)
    (h5:p→(b==want)=false:=by (intro q;first|rfl|(rw [q];rfl))) (h6:x=⟨[],.tup []⟩:=by rfl) (h7:dOk s o.dst=true:=by rfl) (hd:depsOk l i [] (bits n i)=true:=by decide +kernel):Obs P l m al s i (o::os) (x::xs) :=
  obn n (fun S hle _=>.inr ⟨.inr (.inl ⟨j,want,t,b,h1,h2,hle.ev (x:=.tmp t) h3 (by nofun),by rw [hle.nt,(SD_nt _ _ _ _).1];exact h4,h5 q⟩),h6,hle.d (by have:=(SD_nt (D:=fun j=>Nat.blt j i&&Nat.beq (n/2^j%2) 1) 0 (l.take m) al (s.hide (dsts (l.take m)))).1;unfold dOk at h7 ⊢;rw [this];exact h7)⟩) hr hd
theorem oy (n:Nat) {p:Prop} (q:p) (he:∀S,Le (SD (fun j=>Nat.blt j i&&Nat.beq (n/2^j%2) 1) 0 (l.take m) al (s.hide (dsts (l.take m)))) S→Ev P [] S o (· = S.add o.dst x)) (hr:Obs P l m al s (i+1) os xs) (h1:o.guard=some (j,want)) (h2:(l.toArray[j]?).bind (·.dst)=some t) (h3:get (SD (fun j=>Nat.blt j i&&Nat.beq (n/2^j%2) 1) 0 (l.take m) al (s.hide (dsts (l.take m)))).env t=.one (.val (.bool b))) (h4:Nat.blt t s.nt=true)
    (h5:p→(b==want)=true) (hd:depsOk l i [] (bits n i)=true):Obs P l m al s i (o::os) (x::xs) :=
  obn n (fun S hle _=>.inl ⟨.inr (.inl ⟨j,want,t,b,h1,h2,hle.ev (x:=.tmp t) h3 (by nofun),by rw [hle.nt,(SD_nt _ _ _ _).1];exact h4,h5 q⟩),he S hle⟩) hr hd
theorem o_mv (n:Nat) (hr:Obs P l m al s (i+1) os xs) (he:∀S,Le (SD (fun j=>Nat.blt j i&&Nat.beq (n/2^j%2) 1) 0 (l.take m) al (s.hide (dsts (l.take m)))) S→Ev P [] S o (· = S.add o.dst x):=by (intro S hle;exact st_move (hle.e rfl) (hle.d rfl))) (hg:o.guard=none:=by rfl) (hd:depsOk l i [] (bits n i)=true:=by decide +kernel):Obs P l m al s i (o::os) (x::xs):=obn n (fun S hle _=>.inl ⟨.inl ⟨hg,rfl⟩,he S hle⟩) hr hd
theorem p_mv (n:Nat) {p:Prop} (q:p) (hr:Obs P l m al s (i+1) os xs) (he:∀S,Le (SD (fun j=>Nat.blt j i&&Nat.beq (n/2^j%2) 1) 0 (l.take m) al (s.hide (dsts (l.take m)))) S→Ev P [] S o (· = S.add o.dst x):=by (intro S hle;exact st_move (hle.e rfl) (hle.d rfl))) (h1:o.guard=some (j,want):=by rfl) (h2:(l.toArray[j]?).bind (·.dst)=some t:=by rfl) (h3:get (SD (fun j=>Nat.blt j i&&Nat.beq (n/2^j%2) 1) 0 (l.take m) al (s.hide (dsts (l.take m)))).env t=.one (.val (.bool b)):=by rfl) (h4:Nat.blt t s.nt=true:=by rfl) (h5:p→(b==want)=true:=by (intro q;first|rfl|(rw [q];rfl))) (hd:depsOk l i [] (bits n i)=true:=by decide +kernel):Obs P l m al s i (o::os) (x::xs):=oy n q he hr h1 h2 h3 h4 h5 hd
theorem o_fd (n:Nat) (hr:Obs P l m al s (i+1) os xs) (he:∀S,Le (SD (fun j=>Nat.blt j i&&Nat.beq (n/2^j%2) 1) 0 (l.take m) al (s.hide (dsts (l.take m)))) S→Ev P [] S o (· = S.add o.dst x):=by (intro S hle;exact ev_field (hle.e rfl) rfl (hle.d rfl))) (hg:o.guard=none:=by rfl) (hd:depsOk l i [] (bits n i)=true:=by decide +kernel):Obs P l m al s i (o::os) (x::xs):=obn n (fun S hle _=>.inl ⟨.inl ⟨hg,rfl⟩,he S hle⟩) hr hd
theorem p_fd (n:Nat) {p:Prop} (q:p) (hr:Obs P l m al s (i+1) os xs) (he:∀S,Le (SD (fun j=>Nat.blt j i&&Nat.beq (n/2^j%2) 1) 0 (l.take m) al (s.hide (dsts (l.take m)))) S→Ev P [] S o (· = S.add o.dst x):=by (intro S hle;exact ev_field (hle.e rfl) rfl (hle.d rfl))) (h1:o.guard=some (j,want):=by rfl) (h2:(l.toArray[j]?).bind (·.dst)=some t:=by rfl) (h3:get (SD (fun j=>Nat.blt j i&&Nat.beq (n/2^j%2) 1) 0 (l.take m) al (s.hide (dsts (l.take m)))).env t=.one (.val (.bool b)):=by rfl) (h4:Nat.blt t s.nt=true:=by rfl) (h5:p→(b==want)=true:=by (intro q;first|rfl|(rw [q];rfl))) (hd:depsOk l i [] (bits n i)=true:=by decide +kernel):Obs P l m al s i (o::os) (x::xs):=oy n q he hr h1 h2 h3 h4 h5 hd
theorem o_ld (n:Nat) (hr:Obs P l m al s (i+1) os xs) (he:∀S,Le (SD (fun j=>Nat.blt j i&&Nat.beq (n/2^j%2) 1) 0 (l.take m) al (s.hide (dsts (l.take m)))) S→Ev P [] S o (· = S.add o.dst x):=by (intro S hle;exact ev_load (hle.e rfl) (hle.heap _ _ rfl) rfl (hle.d rfl))) (hg:o.guard=none:=by rfl) (hd:depsOk l i [] (bits n i)=true:=by decide +kernel):Obs P l m al s i (o::os) (x::xs):=obn n (fun S hle _=>.inl ⟨.inl ⟨hg,rfl⟩,he S hle⟩) hr hd
theorem p_ld (n:Nat) {p:Prop} (q:p) (hr:Obs P l m al s (i+1) os xs) (he:∀S,Le (SD (fun j=>Nat.blt j i&&Nat.beq (n/2^j%2) 1) 0 (l.take m) al (s.hide (dsts (l.take m)))) S→Ev P [] S o (· = S.add o.dst x):=by (intro S hle;exact ev_load (hle.e rfl) (hle.heap _ _ rfl) rfl (hle.d rfl))) (h1:o.guard=some (j,want):=by rfl) (h2:(l.toArray[j]?).bind (·.dst)=some t:=by rfl) (h3:get (SD (fun j=>Nat.blt j i&&Nat.beq (n/2^j%2) 1) 0 (l.take m) al (s.hide (dsts (l.take m)))).env t=.one (.val (.bool b)):=by rfl) (h4:Nat.blt t s.nt=true:=by rfl) (h5:p→(b==want)=true:=by (intro q;first|rfl|(rw [q];rfl))) (hd:depsOk l i [] (bits n i)=true:=by decide +kernel):Obs P l m al s i (o::os) (x::xs):=oy n q he hr h1 h2 h3 h4 h5 hd
theorem o_cm (n:Nat) (hr:Obs P l m al s (i+1) os xs) (he:∀S,Le (SD (fun j=>Nat.blt j i&&Nat.beq (n/2^j%2) 1) 0 (l.take m) al (s.hide (dsts (l.take m)))) S→Ev P [] S o (· = S.add o.dst x):=by (intro S hle;exact ev_cmp (hle.e rfl) (hle.e rfl) (hle.d rfl) rfl)) (hg:o.guard=none:=by rfl) (hd:depsOk l i [] (bits n i)=true:=by decide +kernel):Obs P l m al s i (o::os) (x::xs):=obn n (fun S hle _=>.inl ⟨.inl ⟨hg,rfl⟩,he S hle⟩) hr hd
theorem p_cm (n:Nat) {p:Prop} (q:p) (hr:Obs P l m al s (i+1) os xs) (he:∀S,Le (SD (fun j=>Nat.blt j i&&Nat.beq (n/2^j%2) 1) 0 (l.take m) al (s.hide (dsts (l.take m)))) S→Ev P [] S o (· = S.add o.dst x):=by (intro S hle;exact ev_cmp (hle.e rfl) (hle.e rfl) (hle.d rfl) rfl)) (h1:o.guard=some (j,want):=by rfl) (h2:(l.toArray[j]?).bind (·.dst)=some t:=by rfl) (h3:get (SD (fun j=>Nat.blt j i&&Nat.beq (n/2^j%2) 1) 0 (l.take m) al (s.hide (dsts (l.take m)))).env t=.one (.val (.bool b)):=by rfl) (h4:Nat.blt t s.nt=true:=by rfl) (h5:p→(b==want)=true:=by (intro q;first|rfl|(rw [q];rfl))) (hd:depsOk l i [] (bits n i)=true:=by decide +kernel):Obs P l m al s i (o::os) (x::xs):=oy n q he hr h1 h2 h3 h4 h5 hd
theorem o_ln (n:Nat) (hr:Obs P l m al s (i+1) os xs) (he:∀S,Le (SD (fun j=>Nat.blt j i&&Nat.beq (n/2^j%2) 1) 0 (l.take m) al (s.hide (dsts (l.take m)))) S→Ev P [] S o (· = S.add o.dst x):=by (intro S hle;exact zeV (hle.e rfl) (hle.d rfl))) (hg:o.guard=none:=by rfl) (hd:depsOk l i [] (bits n i)=true:=by decide +kernel):Obs P l m al s i (o::os) (x::xs):=obn n (fun S hle _=>.inl ⟨.inl ⟨hg,rfl⟩,he S hle⟩) hr hd
theorem p_ln (n:Nat) {p:Prop} (q:p) (hr:Obs P l m al s (i+1) os xs) (he:∀S,Le (SD (fun j=>Nat.blt j i&&Nat.beq (n/2^j%2) 1) 0 (l.take m) al (s.hide (dsts (l.take m)))) S→Ev P [] S o (· = S.add o.dst x):=by (intro S hle;exact zeV (hle.e rfl) (hle.d rfl))) (h1:o.guard=some (j,want):=by rfl) (h2:(l.toArray[j]?).bind (·.dst)=some t:=by rfl) (h3:get (SD (fun j=>Nat.blt j i&&Nat.beq (n/2^j%2) 1) 0 (l.take m) al (s.hide (dsts (l.take m)))).env t=.one (.val (.bool b)):=by rfl) (h4:Nat.blt t s.nt=true:=by rfl) (h5:p→(b==want)=true:=by (intro q;first|rfl|(rw [q];rfl))) (hd:depsOk l i [] (bits n i)=true:=by decide +kernel):Obs P l m al s i (o::os) (x::xs):=oy n q he hr h1 h2 h3 h4 h5 hd
theorem o_nt (n:Nat) (hr:Obs P l m al s (i+1) os xs) (he:∀S,Le (SD (fun j=>Nat.blt j i&&Nat.beq (n/2^j%2) 1) 0 (l.take m) al (s.hide (dsts (l.take m)))) S→Ev P [] S o (· = S.add o.dst x):=by (intro S hle;exact ev_not (hle.e rfl) (hle.d rfl))) (hg:o.guard=none:=by rfl) (hd:depsOk l i [] (bits n i)=true:=by decide +kernel):Obs P l m al s i (o::os) (x::xs):=obn n (fun S hle _=>.inl ⟨.inl ⟨hg,rfl⟩,he S hle⟩) hr hd
theorem p_nt (n:Nat) {p:Prop} (q:p) (hr:Obs P l m al s (i+1) os xs) (he:∀S,Le (SD (fun j=>Nat.blt j i&&Nat.beq (n/2^j%2) 1) 0 (l.take m) al (s.hide (dsts (l.take m)))) S→Ev P [] S o (· = S.add o.dst x):=by (intro S hle;exact ev_not (hle.e rfl) (hle.d rfl))) (h1:o.guard=some (j,want):=by rfl) (h2:(l.toArray[j]?).bind (·.dst)=some t:=by rfl) (h3:get (SD (fun j=>Nat.blt j i&&Nat.beq (n/2^j%2) 1) 0 (l.take m) al (s.hide (dsts (l.take m)))).env t=.one (.val (.bool b)):=by rfl) (h4:Nat.blt t s.nt=true:=by rfl) (h5:p→(b==want)=true:=by (intro q;first|rfl|(rw [q];rfl))) (hd:depsOk l i [] (bits n i)=true:=by decide +kernel):Obs P l m al s i (o::os) (x::xs):=oy n q he hr h1 h2 h3 h4 h5 hd
theorem o_fi (n:Nat) (hr:Obs P l m al s (i+1) os xs) (he:∀S,Le (SD (fun j=>Nat.blt j i&&Nat.beq (n/2^j%2) 1) 0 (l.take m) al (s.hide (dsts (l.take m)))) S→Ev P [] S o (· = S.add o.dst x):=by (intro S hle;exact zaM (hle.e rfl) rfl (hle.d rfl))) (hg:o.guard=none:=by rfl) (hd:depsOk l i [] (bits n i)=true:=by decide +kernel):Obs P l m al s i (o::os) (x::xs):=obn n (fun S hle _=>.inl ⟨.inl ⟨hg,rfl⟩,he S hle⟩) hr hd
theorem p_fi (n:Nat) {p:Prop} (q:p) (hr:Obs P l m al s (i+1) os xs) (he:∀S,Le (SD (fun j=>Nat.blt j i&&Nat.beq (n/2^j%2) 1) 0 (l.take m) al (s.hide (dsts (l.take m)))) S→Ev P [] S o (· = S.add o.dst x):=by (intro S hle;exact zaM (hle.e rfl) rfl (hle.d rfl))) (h1:o.guard=some (j,want):=by rfl) (h2:(l.toArray[j]?).bind (·.dst)=some t:=by rfl) (h3:get (SD (fun j=>Nat.blt j i&&Nat.beq (n/2^j%2) 1) 0 (l.take m) al (s.hide (dsts (l.take m)))).env t=.one (.val (.bool b)):=by rfl) (h4:Nat.blt t s.nt=true:=by rfl) (h5:p→(b==want)=true:=by (intro q;first|rfl|(rw [q];rfl))) (hd:depsOk l i [] (bits n i)=true:=by decide +kernel):Obs P l m al s i (o::os) (x::xs):=oy n q he hr h1 h2 h3 h4 h5 hd
theorem o_li (n:Nat) (hr:Obs P l m al s (i+1) os xs) (he:∀S,Le (SD (fun j=>Nat.blt j i&&Nat.beq (n/2^j%2) 1) 0 (l.take m) al (s.hide (dsts (l.take m)))) S→Ev P [] S o (· = S.add o.dst x):=by (intro S hle;exact zas (hle.e rfl) rfl (hle.d rfl))) (hg:o.guard=none:=by rfl) (hd:depsOk l i [] (bits n i)=true:=by decide +kernel):Obs P l m al s i (o::os) (x::xs):=obn n (fun S hle _=>.inl ⟨.inl ⟨hg,rfl⟩,he S hle⟩) hr hd
theorem p_li (n:Nat) {p:Prop} (q:p) (hr:Obs P l m al s (i+1) os xs) (he:∀S,Le (SD (fun j=>Nat.blt j i&&Nat.beq (n/2^j%2) 1) 0 (l.take m) al (s.hide (dsts (l.take m)))) S→Ev P [] S o (· = S.add o.dst x):=by (intro S hle;exact zas (hle.e rfl) rfl (hle.d rfl))) (h1:o.guard=some (j,want):=by rfl) (h2:(l.toArray[j]?).bind (·.dst)=some t:=by rfl) (h3:get (SD (fun j=>Nat.blt j i&&Nat.beq (n/2^j%2) 1) 0 (l.take m) al (s.hide (dsts (l.take m)))).env t=.one (.val (.bool b)):=by rfl) (h4:Nat.blt t s.nt=true:=by rfl) (h5:p→(b==want)=true:=by (intro q;first|rfl|(rw [q];rfl))) (hd:depsOk l i [] (bits n i)=true:=by decide +kernel):Obs P l m al s i (o::os) (x::xs):=oy n q he hr h1 h2 h3 h4 h5 hd
theorem o_sa (n:Nat) (hr:Obs P l m al s (i+1) os xs) (he:∀S,Le (SD (fun j=>Nat.blt j i&&Nat.beq (n/2^j%2) 1) 0 (l.take m) al (s.hide (dsts (l.take m)))) S→Ev P [] S o (· = S.add o.dst x):=by (intro S hle;exact st_assign (hle.e rfl) (hle.d rfl))) (hg:o.guard=none:=by rfl) (hd:depsOk l i [] (bits n i)=true:=by decide +kernel):Obs P l m al s i (o::os) (x::xs):=obn n (fun S hle _=>.inl ⟨.inl ⟨hg,rfl⟩,he S hle⟩) hr hd
theorem o_ex (n:Nat) (hr:Obs P l m al s (i+1) os xs) (he:∀S,Le (SD (fun j=>Nat.blt j i&&Nat.beq (n/2^j%2) 1) 0 (l.take m) al (s.hide (dsts (l.take m)))) S→Ev P [] S o (· = S.add o.dst x):=by (intro S hle;exact zig (hle.e rfl) rfl (hle.d rfl))) (hg:o.guard=none:=by rfl) (hd:depsOk l i [] (bits n i)=true:=by decide +kernel):Obs P l m al s i (o::os) (x::xs):=obn n (fun S hle _=>.inl ⟨.inl ⟨hg,rfl⟩,he S hle⟩) hr hd
theorem o_mt (n:Nat) (hr:Obs P l m al s (i+1) os xs) (he:∀S,Le (SD (fun j=>Nat.blt j i&&Nat.beq (n/2^j%2) 1) 0 (l.take m) al (s.hide (dsts (l.take m)))) S→Ev P [] S o (· = S.add o.dst x):=by (intro S hle;exact st_movet (hle.e rfl) (hle.d rfl))) (hg:o.guard=none:=by rfl) (hd:depsOk l i [] (bits n i)=true:=by decide +kernel):Obs P l m al s i (o::os) (x::xs):=obn n (fun S hle _=>.inl ⟨.inl ⟨hg,rfl⟩,he S hle⟩) hr hd
theorem o_fr (n:Nat) (hr:Obs P l m al s (i+1) os xs) (he:∀S,Le (SD (fun j=>Nat.blt j i&&Nat.beq (n/2^j%2) 1) 0 (l.take m) al (s.hide (dsts (l.take m)))) S→Ev P [] S o (· = S.add o.dst x):=by (intro S hle;exact zec (hle.e rfl) rfl (hle.d rfl))) (hg:o.guard=none:=by rfl) (hd:depsOk l i [] (bits n i)=true:=by decide +kernel):Obs P l m al s i (o::os) (x::xs):=obn n (fun S hle _=>.inl ⟨.inl ⟨hg,rfl⟩,he S hle⟩) hr hd
theorem p_fr (n:Nat) {p:Prop} (q:p) (hr:Obs P l m al s (i+1) os xs) (he:∀S,Le (SD (fun j=>Nat.blt j i&&Nat.beq (n/2^j%2) 1) 0 (l.take m) al (s.hide (dsts (l.take m)))) S→Ev P [] S o (· = S.add o.dst x):=by (intro S hle;exact zec (hle.e rfl) rfl (hle.d rfl))) (h1:o.guard=some (j,want):=by rfl) (h2:(l.toArray[j]?).bind (·.dst)=some t:=by rfl) (h3:get (SD (fun j=>Nat.blt j i&&Nat.beq (n/2^j%2) 1) 0 (l.take m) al (s.hide (dsts (l.take m)))).env t=.one (.val (.bool b)):=by rfl) (h4:Nat.blt t s.nt=true:=by rfl) (h5:p→(b==want)=true:=by (intro q;first|rfl|(rw [q];rfl))) (hd:depsOk l i [] (bits n i)=true:=by decide +kernel):Obs P l m al s i (o::os) (x::xs):=oy n q he hr h1 h2 h3 h4 h5 hd
end
abbrev ad (v:AV):Add:=⟨[],v⟩
theorem get_app {t:Nat}:∀{a b:List (Nat×AV)},(a.all fun p=>!Nat.beq p.1 t)=true→get (a++b) t=get b t
  | [],_,_=>rfl
  | (k,v)::a,b,h=>by
    rw [List.all_cons,Bool.and_eq_true,Bool.not_eq_true'] at h
    show (bif Nat.beq k t then v else get (a++b) t)=_
    rw [h.1,cond_false]
    exact get_app h.2
theorem get_none {t:Nat}:∀{b:List (Nat×AV)},(b.all fun p=>!Nat.beq p.1 t)=true→get b t=.one .any
  | [],_=>rfl
  | (k,v)::b,h=>by
    rw [List.all_cons,Bool.and_eq_true,Bool.not_eq_true'] at h
    show (bif Nat.beq k t then v else get b t)=_
    rw [h.1,cond_false]
    exact get_none h.2
structure Fin1 (s:ASt) (n d:Nat) (v:Bool) (s':ASt):Prop where
  nt:s'.nt=s.nt
  kp:s'.kp=s.kp
  heap:s'.heap=s.heap
  env:s'.env.drop n=s.env
  new:((s'.env.take n).all fun p=>s.env.all fun q=>!Nat.beq q.1 p.1)=true
  val:get s'.env d=.one (.val (.bool v))
theorem Fin1.le {s s':ASt} {n d:Nat} {v:Bool} (h:Fin1 s n d v s') (t:Nat):VLe (get s'.env t) (get (s.put (some d) (.one (.val (.bool v)))).env t):=by
  show VLe _ (get ((d,_)::s.env) t)
  rw [get_cons]
  by_cases e:d=t
  · rw [if_pos e,←e,h.val]
    exact .refl _
  · rw [if_neg e]
    have e1:=List.take_append_drop n s'.env
    rw [h.env] at e1
    by_cases hk:((s'.env.take n).all fun p=>!Nat.beq p.1 t)=true
    · rw [←e1,get_app hk]
      exact .refl _
    · have hx:(s.env.all fun q=>!Nat.beq q.1 t)=true:=by
        rw [Bool.not_eq_true,List.all_eq_false] at hk
        obtain ⟨p,hp,hq⟩:=hk
        have hq:Nat.beq p.1 t=true:=by simpa using hq
        have:=List.all_eq_true.1 h.new p hp
        rwa [Nat.eq_of_beq_eq_true hq] at this
      rw [get_none hx]
      exact .any _
theorem Fin1.ok {s s':ASt} {n d:Nat} {v:Bool} (h:Fin1 s n d v s') {U T:Nat→Prop} {w0:Base} {a:Act} {w:World} {hv:Nat→Value} (ok:Ok U T w0 s' a w hv):Ok U T w0 (s.put (some d) (.one (.val (.bool v)))) a w hv:=by
  obtain ⟨nt,kp,env,heap⟩:=s
  obtain ⟨nt',kp',env',heap'⟩:=s'
  have h1:nt'=nt:=h.nt
  have h2:kp'=kp:=h.kp
  have h3:heap'=heap:=h.heap
  subst h1 h2 h3
  exact ⟨⟨ok.m.nt,ok.m.defers,fun t=>(h.le t).rep (ok.m.env t),ok.m.hm⟩,ok.fr,ok.own,ok.box⟩
abbrev FinQ (s:ASt) (n d:Nat) (v:Bool):Exit→ASt→Prop:=fun e s'=>match e with
  | .normal=>Fin1 s n d v s'
  | _=>False
theorem fin {p:Prop} (q:p) {s s':ASt} {n d:Nat} {v:Bool} (h1:s'.nt=s.nt:=by rfl) (h2:s'.kp=s.kp:=by rfl) (h3:s'.heap=s.heap:=by rfl) (h4:s'.env.drop n=s.env:=by rfl)
    (h5:((s'.env.take n).all fun p=>s.env.all fun q=>!Nat.beq q.1 p.1)=true:=by rfl) (h6:p→get s'.env d=.one (.val (.bool v)):=by (intro q;first|rfl|(rw [q];rfl)|(simp [q,get];done)|fail)):FinQ s n d v .normal s':=⟨h1,h2,h3,h4,h5,h6 q⟩
section
variable {P:Program} {s s':ASt} {Q:Exit→ASt→Prop} {ops:Array Oper} {l:List Oper} {j t d:Nat} {c want:Bool}
theorem bo (n:Nat) (v:Bool) (hr:AOps P ops (l.drop n) (s.put (some d) (.one (.val (.bool v)))) Q) (hd:(l[n - 1]?).bind (·.dst)=some d:=by rfl) (hg:(l[0]?).bind (·.guard)=some (j,want):=by rfl) (ht:(ops[j]?).bind (·.dst)=some t:=by rfl) (hc:get s.env t=.one (.val (.bool c)):=by rfl)
    (h1:c=true→AOps P ops (l.take n) s (FinQ s n d v):=by (intro q;repeat' (first|refine y_mv q ?_|refine y_fd q ?_|refine y_ld q ?_|refine y_cm q ?_|refine y_ln q ?_|refine y_nt q ?_|refine s_py q ?_|refine s_pn q ?_|refine np q ?_|refine aops_nil ?_|exact fin q|fail)))
    (h2:c=false→AOps P ops (l.take n) s (FinQ s n d v):=by (intro q;repeat' (first|refine y_mv q ?_|refine y_fd q ?_|refine y_ld q ?_|refine y_cm q ?_|refine y_ln q ?_|refine y_nt q ?_|refine s_py q ?_|refine s_pn q ?_|refine np q ?_|refine aops_nil ?_|exact fin q|fail))):AOps P ops l s Q:=by
  have h0:AOps P ops (l.take n) s (FinQ s n d v):=by cases c;exact h2 rfl;exact h1 rfl
  have h:=aops_app (l.take n) (l2:=l.drop n) h0 (fun e s' h=>by
    cases e with
    | normal=>exact ⟨rfl,fun U T w0 a w hv ok=>hr U T w0 a w hv (Fin1.ok h ok)⟩
    | _=>exact h.elim)
  rwa [List.take_append_drop] at h
theorem aops_cutE {ε:Type} (n:Nat) (o:ε) (out:ε→ASt) (cont:AOps P ops (l.drop n) (out o) Q) (h1:AOps P ops (l.take n) s (fun e s'=>match e with|.normal=>∃x,x=o∧Weak s' (out x)|_=>False)):AOps P ops l s Q :=
  aops_cut n out (· = o) (fun x h=>by subst h;exact cont) h1
theorem aw_cutE {ε:Type} {p q:Code} (o:ε) (out:ε→ASt) (cont:AW P q (out o) Q) (h1:AW P p s (JQ out (· = o) Q)):AW P (.seq p q) s Q:=aw_cut out (· = o) (fun x h=>by subst h;exact cont) h1
theorem jx {ε:Type} {out:ε→ASt} {v o:ε} (j:some v=some o) (w:Weak s (out v)):∃x,x=o∧Weak s (out x):=⟨v,Option.some.inj j,w⟩
theorem aw_if {α:Type} {A B:Option α} {r:α} {b:Bool} {c:Operand} {x y:Code} (i:(bif b then A else B)=some r) (h1:b=true→A=some r→AW P x s Q) (h2:b=false→B=some r→AW P y s Q) (hc:s.ev c=.one (.val (.bool b)):=by rfl):AW P (.cond c x y) s Q :=
  aw_cond hc (fun q=>h1 q (Md.cond_t i q)) fun q=>h2 q (Md.cond_f i q)
end
theorem sj {α:Type} {a b:α} (h:some a=some b):a=b:=Option.some.inj h
theorem co {α:Type} {A B:Option α} {r:α} {b:Bool} (h:(bif b then A else B)=some r):(b=true∧A=some r)∨(b=false∧B=some r):=by cases b;exact .inr ⟨rfl,h⟩;exact .inl ⟨rfl,h⟩
end Abs
end Go.Proofs.YtclffekkjfhpdaaGreat

