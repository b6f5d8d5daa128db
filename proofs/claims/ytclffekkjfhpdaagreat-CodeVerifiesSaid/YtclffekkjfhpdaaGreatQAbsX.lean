import Derived.Test.YtclffekkjfhpdaaGreatQAbsU
namespace Go.Proofs.YtclffekkjfhpdaaGreat
open Go.ChangeShapes Go.WideShapes Go.RowKit
set_option linter.unusedVariables false
set_option linter.unusedSimpArgs false
namespace Abs
structure ApartC (cs:List Nat) (l:List Oper) (m:Nat) (al:List Add):Prop where
 len:(l.take m).length=al.length
 dst:∀(i j:Nat) (o o':Oper) (t:Nat),(l.take m)[i]?=some o→(l.take m)[j]?=some o'→o.dst=some t→o'.dst=some t→i=j
 key:∀(i j:Nat) (x y:Add) (id:Nat),al[i]?=some x→al[j]?=some y→id∈x.blks.map (·.1)→id∈y.blks.map (·.1)→i=j∨(i∈cs∧j∈cs)
def freshC:List Add→ASt→List Nat→Nat→Bool
 | [],_,_,_=>true
 | x::r,s,cs,i=>(memB cs i||(x.blks.map (·.1)).all fun id=>(look s.heap id).isNone)&&freshC r s cs (i+1)
theorem freshC_at {s:ASt} {cs:List Nat}:∀{al:List Add} {k:Nat},freshC al s cs k=true→∀{i:Nat} {x:Add} {id:Nat},al[i]?=some x→k+i∉cs→id∈x.blks.map (·.1)→look s.heap id=none
 | [],_,_,i,x,id,hx,_,_=>by simp at hx
 | y::r,k,h,0,x,id,hx,hc,hid=>by
  simp at hx;subst hx
  simp only [freshC,Bool.and_eq_true,Bool.or_eq_true] at h
  rcases h.1 with h1|h1
  ·exact absurd (memB_mem h1) (by simpa using hc)
  ·simpa using List.all_eq_true.1 h1 id hid
 | y::r,k,h,i+1,x,id,hx,hc,hid=>by
  simp only [freshC,Bool.and_eq_true] at h
  exact freshC_at h.2 (i:=i) (by simpa using hx) (by rwa [show k+1+i=k+(i+1) by omega]) hid
def apartB (cs:List Nat) (al:List Add):Bool:=(List.range al.length).all fun i=>(List.range al.length).all fun j=>Nat.beq i j||(memB cs i&&memB cs j)||match al[i]?,al[j]? with
 | some x,some y=>(x.blks.map (·.1)).all fun id=>!memB (y.blks.map (·.1)) id
 | _,_=>true
theorem apartB_at {cs:List Nat} {al:List Add} (h:apartB cs al=true) {i j:Nat} {x y:Add} {id:Nat} (hx:al[i]?=some x) (hy:al[j]?=some y) (h1:id∈x.blks.map (·.1)) (h2:id∈y.blks.map (·.1)):i=j∨(i∈cs∧j∈cs):=by
 have h3:=List.all_eq_true.1 (List.all_eq_true.1 h i (List.mem_range.2 (List.getElem?_eq_some_iff.1 hx).1)) j (List.mem_range.2 (List.getElem?_eq_some_iff.1 hy).1)
 simp only [Bool.or_eq_true,Bool.and_eq_true] at h3
 rcases h3 with (h3|h3)|h3
 ·exact .inl (Nat.eq_of_beq_eq_true h3)
 ·exact .inr ⟨memB_mem h3.1,memB_mem h3.2⟩
 ·rw [hx,hy] at h3
  have h4:=List.all_eq_true.1 h3 id h1
  have h5:memB (y.blks.map (·.1)) id=true:=List.any_eq_true.2 ⟨id,h2,Nat.beq_refl id⟩
  rw [h5] at h4
  cases h4
def chainB:List (Nat×List Nat)→Bool
 | []=>true
 | p::r=>(r.all fun q=>memB q.2 p.1&&Nat.blt p.1 q.1)&&chainB r
theorem chainB_at:∀{cs:List (Nat×List Nat)},chainB cs=true→∀{p q:Nat×List Nat},p∈cs→q∈cs→p.1<q.1→p.1∈q.2
 | [],_,p,q,h,_,_=>by cases h
 | a::r,h,p,q,hp,hq,hlt=>by
  simp only [chainB,Bool.and_eq_true] at h
  have key:∀b∈r,a.1∈b.2∧a.1<b.1:=fun b hb=>by
   have:=List.all_eq_true.1 h.1 b hb
   rw [Bool.and_eq_true] at this
   exact ⟨memB_mem this.1,by simpa [Nat.blt_eq] using this.2⟩
  rcases List.mem_cons.1 hp with e1|h1
  ·rcases List.mem_cons.1 hq with e2|h2
   ·rw [e1,e2] at hlt;omega
   ·rw [e1];exact (key q h2).1
  ·rcases List.mem_cons.1 hq with e2|h2
   ·have:=(key p h1).2;rw [e2] at hlt;omega
   ·exact chainB_at h.2 h1 h2 hlt
def keyC (cs:List Nat) (al:List Add):List Nat:=cs.flatMap fun c=>match al[c]? with
 | some x=>x.blks.map (·.1)
 | none=>[]
theorem keyC_at {cs:List Nat} {al:List Add} {c:Nat} {x:Add} {id:Nat} (hc:c∈cs) (hx:al[c]?=some x) (hid:id∈x.blks.map (·.1)):id∈keyC cs al:=List.mem_flatMap.2 ⟨c,hc,by rw [hx];exact hid⟩
def ASt.dropK (s:ASt) (K:List Nat):ASt:={ s with heap:=K.map (fun k=>(k,none))++s.heap }
theorem ziY (s:ASt) (K:List Nat) (id:Nat):look (s.dropK K).heap id=if id∈K then none else look s.heap id:=by
 unfold ASt.dropK
 induction K with
 | nil=>simp
 | cons k r ih =>
  show look ((k,none)::(r.map (fun k=>(k,none))++s.heap)) id=_
  rw [look_cons]
  by_cases h:k=id
  ·subst h;simp
  ·rw [if_neg h]
   have h':¬id=k:=fun e=>h e.symm
   have ih':look (r.map (fun k=>(k,none))++s.heap) id=if id∈r then none else look s.heap id:=ih
   rw [ih']
   simp [h']
section
variable {D D':Nat→Bool}
theorem zgt:∀(i:Nat) (os:List Oper) (xs:List Add) (s:ASt) (id:Nat),(∀(j:Nat) (x:Add),xs[j]?=some x→j<os.length→id∈x.blks.map (·.1)→D (i+j)=D' (i+j))→look (SD D i os xs s).heap id=look (SD D' i os xs s).heap id:=by
 have key:∀(os:List Oper) (xs:List Add) (i:Nat) (s s':ASt) (id:Nat),look s.heap id=look s'.heap id→(∀(j:Nat) (x:Add),xs[j]?=some x→j<os.length→id∈x.blks.map (·.1)→D (i+j)=D' (i+j))→look (SD D i os xs s).heap id=look (SD D' i os xs s').heap id:=by
  intro os
  induction os with
  | nil=>intro xs i s s' id h _;cases xs<;>exact h
  | cons o os ih =>
   intro xs i s s' id h hh
   cases xs with
   | nil=>exact h
   | cons x xs =>
    simp only [SD]
    refine ih xs (i+1) _ _ id ?_ fun j y hj hl hid=>by
     have:=hh (j+1) y (by simpa using hj) (by simp;omega) hid
     rwa [show i+1+j=i+(j+1) by omega]
    by_cases hid:id∈x.blks.map (·.1)
    ·have h0:=hh 0 x rfl (by simp) hid
     rw [Nat.add_zero] at h0
     rw [h0]
     split
     ·rw [add_look,add_look,if_pos hid,if_pos hid]
     ·exact h
    ·have e:∀(b:Bool) (s:ASt),look (if b=true then s.add o.dst x else s).heap id=look s.heap id:=fun b s=>by
      split
      ·rw [add_look,if_neg hid]
      ·rfl
     rw [e,e]
     exact h
 exact fun i os xs s id h=>key os xs i s s id rfl h
theorem zfU:∀(i:Nat) (os:List Oper) (xs:List Add) (s:ASt) (id j:Nat) (x:Add),j<os.length→xs[j]?=some x→id∈x.blks.map (·.1)→D (i+j)=true→(∀(j':Nat) (x':Add),xs[j']?=some x'→j<j'→D (i+j')=true→id∉x'.blks.map (·.1))→look (SD D i os xs s).heap id=look x.blks id
 | i,o::os,x::xs,s,id,0,x',ho,hx,hd,hD,hu=>by
  simp at hx
  subst hx
  simp only [SD]
  rw [zbn (i+1) os xs _ id fun j x' hj hd' hl=>hu (j+1) x' (by simpa using hj) (by omega) (by rw [←hd'];congr 1;omega)]
  rw [if_pos (by simpa using hD),add_look,if_pos hd]
 | i,o::os,x::xs,s,id,j+1,x',ho,hx,hd,hD,hu=>by
  simp only [SD]
  exact zfU (i+1) os xs _ id j x' (by simpa using ho) (by simpa using hx) hd (by rw [←hD];congr 1;omega) fun j' x'' hj hlt hd'=>hu (j'+1) x'' (by simpa using hj) (by omega) (by rw [←hd'];congr 1;omega)
 | i,[],_,s,id,j,x,ho,_,_,_,_=>by simp at ho
 | i,_::_,[],s,id,j,x,_,hx,_,_,_=>by simp at hx
end
section
variable {P:Program} {l:List Oper} {m:Nat} {al:List Add} {s:ASt} {Q:Exit→ASt→Prop} {cs:List (Nat×List Nat)}
def ObsC (P:Program) (l:List Oper) (m:Nat) (cs:List (Nat×List Nat)) (al:List Add) (s:ASt):Nat→List Oper→List Add→Prop
 | i,o::os,x::xs=>(∃deps,depsOk l i [] deps=true ∧
   (((cs.all fun p=>Nat.beq i p.1||memB p.2 i||memB deps p.1)=true∧∀S,Le (SD (memB deps) 0 (l.take m) al (s.hide (dsts (l.take m)))) S→(memB (cs.map (·.1)) i=false→∀id,id∈x.blks.map (·.1)→look S.heap id=none)→Ob P l.toArray S o x) ∨
    (memB (cs.map (·.1)) i=false∧∀S,Le ((SD (memB deps) 0 (l.take m) al (s.hide (dsts (l.take m)))).dropK (keyC (cs.map (·.1)) al)) S→(∀id,id∈x.blks.map (·.1)→look S.heap id=none)→Ob P l.toArray S o x)))∧ObsC P l m cs al s (i+1) os xs
 | _,[],[]=>True
 | _,_,_=>False
theorem ObsC.at:∀{k:Nat} {os:List Oper} {xs:List Add},ObsC P l m cs al s k os xs→∀{i:Nat} {o:Oper},os[i]?=some o →
  ∃x,xs[i]?=some x∧∃deps,depsOk l (k+i) [] deps=true ∧
   (((cs.all fun p=>Nat.beq (k+i) p.1||memB p.2 (k+i)||memB deps p.1)=true∧∀S,Le (SD (memB deps) 0 (l.take m) al (s.hide (dsts (l.take m)))) S→(memB (cs.map (·.1)) (k+i)=false→∀id,id∈x.blks.map (·.1)→look S.heap id=none)→Ob P l.toArray S o x) ∨
    (memB (cs.map (·.1)) (k+i)=false∧∀S,Le ((SD (memB deps) 0 (l.take m) al (s.hide (dsts (l.take m)))).dropK (keyC (cs.map (·.1)) al)) S→(∀id,id∈x.blks.map (·.1)→look S.heap id=none)→Ob P l.toArray S o x))
 | k,o::os,x::xs,h,0,o',ho=>by
  simp at ho;subst ho
  obtain ⟨deps,h1,h2⟩:=h.1
  exact ⟨x,rfl,deps,h1,h2⟩
 | k,o::os,x::xs,h,i+1,o',ho=>by
  obtain ⟨x',h1,h2⟩:=ObsC.at h.2 (i:=i) (by simpa using ho)
  refine ⟨x',by simpa using h1,?_⟩
  rw [show k+(i+1)=k+1+i by omega]
  exact h2
 | _,[],[],_,i,o,ho=>by simp at ho
 | _,[],_::_,h,_,_,_=>h.elim
 | _,_::_,[],h,_,_,_=>h.elim
theorem ObsC.length:∀{k:Nat} {os:List Oper} {xs:List Add},ObsC P l m cs al s k os xs→os.length=xs.length
 | _,[],[],_=>rfl
 | _,o::os,x::xs,h=>by rw [List.length_cons,List.length_cons,ObsC.length h.2]
 | _,[],_::_,h=>h.elim
 | _,_::_,[],h=>h.elim
theorem ziG {id n:Nat} (h:∃(j:Nat) (x:Add),al[j]?=some x∧j<n∧id∈x.blks.map (·.1)):∃(j:Nat) (x:Add),al[j]?=some x∧(j<n∧id∈x.blks.map (·.1))∧∀(j':Nat) (x':Add),al[j']?=some x'→j<j'→j'<n→id∉x'.blks.map (·.1):=by
 obtain ⟨j,x,h1,h2,h3⟩:=h
 generalize hd:n - j=d
 induction d using Nat.strongRecOn generalizing j x with
 | _ d ih =>
  by_cases hex:∃(j':Nat) (x':Add),al[j']?=some x'∧j<j'∧j'<n∧id∈x'.blks.map (·.1)
  ·obtain ⟨j',x',h4,h5,h6,h7⟩:=hex
   exact ih (n - j') (by omega) j' x' h4 h6 h7 rfl
  ·exact ⟨j,x,h1,⟨h2,h3⟩,fun j' x' h4 h5 h6 h7=>hex ⟨j',x',h4,h5,h6,h7⟩⟩
theorem SD_leEnv {c0:List Nat} (ap:ApartC c0 l m al) {D D':Nat→Bool} (h:∀i,D i=true→D' i=true) (t:Nat) (ht:get (SD D 0 (l.take m) al (s.hide (dsts (l.take m)))).env t≠.one .any):get (SD D' 0 (l.take m) al (s.hide (dsts (l.take m)))).env t=get (SD D 0 (l.take m) al (s.hide (dsts (l.take m)))).env t:=by
 by_cases hex:∃(j:Nat) (o:Oper),(l.take m)[j]?=some o∧o.dst=some t
 ·obtain ⟨j,o,h1,h2⟩:=hex
  have hjl:j<al.length:=by rw [←ap.len];exact (List.getElem?_eq_some_iff.1 h1).1
  have hx:al[j]?=some al[j]:=List.getElem?_eq_getElem hjl
  have hu:∀(j':Nat) (o':Oper),(l.take m)[j']?=some o'→j'<al.length→o'.dst=some t→j'=j:=fun j' o' h3 _ h4=>ap.dst j' j o' o t h3 h1 h4 h2
  by_cases hD:D j=true
  ·rw [zbR 0 _ al _ t j o _ h1 hx h2 (by simpa using h j hD) hu,zbR 0 _ al _ t j o _ h1 hx h2 (by simpa using hD) hu]
  ·exfalso
   apply ht
   rw [zbr 0 _ al _ t fun j' o' h3 h4 h5 h6=>by rw [hu j' o' h3 h5 h6] at h4;simp at h4;exact hD h4]
   rw [hide_get,if_pos]
   exact List.mem_filterMap.2 ⟨o,List.mem_of_getElem? h1,h2⟩
 ·have hn:∀(D:Nat→Bool) (j:Nat) (o:Oper),(l.take m)[j]?=some o→D (0+j)=true→j<al.length→o.dst≠some t:=fun D j o h1 _ _ h2=>hex ⟨j,o,h1,h2⟩
  rw [zbr 0 _ al _ t (hn D'),zbr 0 _ al _ t (hn D)]
theorem SD_leHeap {c0:List Nat} (ap:ApartC c0 l m al) (fresh:∀(i:Nat) (x:Add) (id:Nat),al[i]?=some x→i∉c0→id∈x.blks.map (·.1)→look s.heap id=none) {D D':Nat→Bool} (h:∀i,D i=true→D' i=true) (id:Nat) (hid:id∉keyC c0 al∨∀c,c∈c0→D' c=true→D c=true) {b:Blk} (hb:look (SD D 0 (l.take m) al (s.hide (dsts (l.take m)))).heap id=some b):look (SD D' 0 (l.take m) al (s.hide (dsts (l.take m)))).heap id=some b:=by
 rw [←hb]
 refine (zgt 0 _ al _ id fun j x hj hl hk=>?_).symm
 rw [Nat.zero_add]
 cases hD:D j with
 | true=>rw [h j hD]
 | false =>
  by_cases hjc:j∈c0
  ·rcases hid with hid|hid
   ·exact absurd (keyC_at hjc hj hk) hid
   ·cases hD':D' j with
    | false=>rfl
    | true=>rw [hid j hjc hD'] at hD;cases hD
  ·exfalso
   rw [zbn 0 _ al _ id fun j' x' h3 h4 h5 h6=>by
    rcases ap.key j' j x' x id h3 hj h6 hk with e|e
    ·rw [e] at h4;simp [hD] at h4
    ·exact hjc e.2] at hb
   rw [show look (s.hide (dsts (l.take m))).heap id=look s.heap id from rfl,fresh j x id hj hjc hk] at hb
   cases hb
theorem SD_addC {c0:List Nat} (ap:ApartC c0 l m al) {D D':Nat→Bool} {i:Nat} {o:Oper} {x:Add} (ho:(l.take m)[i]?=some o) (hx:al[i]?=some x) (hi:¬D i=true) (hD:∀j,D' j=true↔(D j=true∨j=i)) (hch:i∈c0→∀j,j∈c0→i<j→¬D j=true) :
  (∀t,get (SD D' 0 (l.take m) al (s.hide (dsts (l.take m)))).env t=get ((SD D 0 (l.take m) al (s.hide (dsts (l.take m)))).add o.dst x).env t) ∧
  ∀id,look (SD D' 0 (l.take m) al (s.hide (dsts (l.take m)))).heap id=look ((SD D 0 (l.take m) al (s.hide (dsts (l.take m)))).add o.dst x).heap id:=by
 have hil:i<al.length:=(List.getElem?_eq_some_iff.1 hx).1
 have hil2:i<(l.take m).length:=(List.getElem?_eq_some_iff.1 ho).1
 refine ⟨fun t=>?_,fun id=>?_⟩
 ·rw [add_get]
  by_cases hd:o.dst=some t
  ·rw [if_pos hd]
   exact zbR 0 _ al _ t i o x ho hx hd (by simpa using (hD i).2 (.inr rfl)) fun j' o' h3 _ h4=>ap.dst j' i o' o t h3 ho h4 hd
  ·rw [if_neg hd]
   by_cases hex:∃(j:Nat) (o:Oper),(l.take m)[j]?=some o∧o.dst=some t∧D j=true
   ·obtain ⟨j,o1,h1,h2,h3⟩:=hex
    have hjl:j<al.length:=by rw [←ap.len];exact (List.getElem?_eq_some_iff.1 h1).1
    have hx1:al[j]?=some al[j]:=List.getElem?_eq_getElem hjl
    have hu:∀(j':Nat) (o':Oper),(l.take m)[j']?=some o'→j'<al.length→o'.dst=some t→j'=j:=fun j' o' h3 _ h4=>ap.dst j' j o' o1 t h3 h1 h4 h2
    rw [zbR 0 _ al _ t j o1 _ h1 hx1 h2 (by simpa using (hD j).2 (.inl h3)) hu,zbR 0 _ al _ t j o1 _ h1 hx1 h2 (by simpa using h3) hu]
   ·rw [zbr 0 _ al _ t fun j o1 h1 h2 h3 h4=>?_,zbr 0 _ al _ t fun j o1 h1 h2 h3 h4=>hex ⟨j,o1,h1,h4,by simpa using h2⟩]
    rcases (hD j).1 (by simpa using h2) with h5|h5
    ·exact hex ⟨j,o1,h1,h4,h5⟩
    ·subst h5;rw [ho] at h1;injection h1 with h1;subst h1;exact hd h4
 ·rw [add_look]
  by_cases hd:id∈x.blks.map (·.1)
  ·rw [if_pos hd]
   refine zfU 0 _ al _ id i x hil2 hx hd (by simpa using (hD i).2 (.inr rfl)) fun j' x' h3 hlt h4 h5=>?_
   rw [Nat.zero_add] at h4
   rcases ap.key i j' x x' id hx h3 hd h5 with e|⟨e1,e2⟩
   ·omega
   ·rcases (hD j').1 h4 with h6|h6
    ·exact hch e1 j' e2 hlt h6
    ·omega
  ·rw [if_neg hd]
   refine zgt 0 _ al _ id fun j y hj hl hk=>?_
   rw [Nat.zero_add]
   have hji:j≠i:=fun e=>by subst e;rw [hx] at hj;injection hj with hj;subst hj;exact hd hk
   rw [Bool.eq_iff_iff,hD]
   exact ⟨fun h=>h.resolve_right hji,.inl⟩
theorem draw_set (hst:staticOk l m=true) (hdc:(cs.all fun p=>depsOk l p.1 [] p.2&&Nat.blt p.1 m)=true) (hch:chainB cs=true) (hkeys:apartB (cs.map (·.1)) al=true) (fresh:∀(i:Nat) (x:Add) (id:Nat),al[i]?=some x→i∉cs.map (·.1)→id∈x.blks.map (·.1)→look s.heap id=none) (hob:ObsC P l m cs al s 0 (l.take m) al)
  (hrest:AOps P l.toArray (l.drop m) (SD (fun _=>true) 0 (l.take m) al s) Q) {U T:Nat→Prop} {w0:Base} {a:Act} {w:World} {hv:Nat→Value} (ok:Ok U T w0 s a w hv) :
  wpAny P .any l.toArray (Post U T w0 Q) l.toArray.size (Array.replicate l.toArray.size false) a w:=by
 simp only [staticOk,Bool.and_eq_true] at hst
 obtain ⟨⟨⟨hback,hsuf⟩,hm⟩,hdst⟩:=hst
 have hm':=Nat.le_of_ble_eq_true hm
 have ap:ApartC (cs.map (·.1)) l m al:=⟨ObsC.length hob,fun i j o o' t h1 h2 h3 h4=>zer (zdQ hdst) i j o o' t h1 h2 h3 h4,fun i j x y id h1 h2 h3 h4=>apartB_at hkeys h1 h2 h3 h4⟩
 have hbk:∀i o,l[i]?=some o→∀j,j∈Oper.edges o→j<i:=fun i o ho j hj=>by
  have h1:=List.all_eq_true.1 hback i (List.mem_range.2 (List.getElem?_eq_some_iff.1 ho).1)
  rw [ho] at h1
  have h2:=List.all_eq_true.1 h1 j hj
  simpa [Nat.blt_eq] using h2
 have hsf:∀i o,m≤i→l[i]?=some o→depsOk l i [] (List.range i).reverse=true:=fun i o hi ho=>by
  have h1:=List.all_eq_true.1 hsuf i (List.mem_range.2 (List.getElem?_eq_some_iff.1 ho).1)
  rw [Bool.or_eq_true] at h1
  rcases h1 with h1|h1
  ·have:i<m:=by simpa [Nat.blt_eq] using h1
   omega
  ·exact h1

 let Inv:Array Bool→Act→World→Prop:=fun listed a w =>
  (∀k o,l[k]?=some o→listed.getD k false=true→∀j,j∈Oper.edges o→listed.getD j false=true) ∧
  (((∀k,m≤k→listed.getD k false=false)∧∃hv,Ok U T w0 (SD (fun j=>listed.getD j false) 0 (l.take m) al (s.hide (dsts (l.take m)))) a w hv) ∨
   ∃k,m≤k∧k≤l.length∧(∀j,j<l.length→(listed.getD j false=true↔j<k))∧wpList P l.toArray (Post U T w0 Q) (l.drop k) a w)

 have full:∀(listed:Array Bool) a w hv,(∀k,m≤k→listed.getD k false=false)→(∀k,k<m→listed.getD k false=true)→Ok U T w0 (SD (fun j=>listed.getD j false) 0 (l.take m) al (s.hide (dsts (l.take m)))) a w hv→wpList P l.toArray (Post U T w0 Q) (l.drop m) a w:=by
  intro listed a w hv hno hyes ok
  refine hrest U T w0 a w hv (ok.equiv (by rw [(SD_nt _ _ _ _).1,(SD_nt _ _ _ _).1];rfl) (by rw [(SD_nt _ _ _ _).2,(SD_nt _ _ _ _).2];rfl) (fun t=>?_) (fun id=>?_))
  ·by_cases hex:∃(j:Nat) (o:Oper),(l.take m)[j]?=some o∧o.dst=some t
   ·obtain ⟨j,o,h1,h2⟩:=hex
    have hjl:j<al.length:=by rw [←ap.len];exact (List.getElem?_eq_some_iff.1 h1).1
    have hjm:j<m:=by have:=(List.getElem?_eq_some_iff.1 h1).1;rw [List.length_take] at this;omega
    have hx:al[j]?=some al[j]:=List.getElem?_eq_getElem hjl
    have hu:∀(j':Nat) (o':Oper),(l.take m)[j']?=some o'→j'<al.length→o'.dst=some t→j'=j:=fun j' o' h3 _ h4=>ap.dst j' j o' o t h3 h1 h4 h2
    rw [zbR 0 _ al _ t j o _ h1 hx h2 (by simp) hu,zbR 0 _ al _ t j o _ h1 hx h2 (by simpa using hyes j hjm) hu]
   ·have hn:∀(D:Nat→Bool) (j:Nat) (o:Oper),(l.take m)[j]?=some o→D (0+j)=true→j<al.length→o.dst≠some t:=fun D j o h1 _ _ h2=>hex ⟨j,o,h1,h2⟩
    rw [zbr 0 _ al _ t (hn _),zbr 0 _ al _ t (hn _),hide_get,if_neg]
    intro ht
    obtain ⟨o,h1,h2⟩:=List.mem_filterMap.1 ht
    obtain ⟨j,h3⟩:=List.mem_iff_getElem?.1 h1
    exact hex ⟨j,o,h3,h2⟩
  ·have e1:look (SD (fun j=>listed.getD j false) 0 (l.take m) al (s.hide (dsts (l.take m)))).heap id=look (SD (fun _=>true) 0 (l.take m) al (s.hide (dsts (l.take m)))).heap id:=zgt 0 _ al _ id fun j x _ hl _=>by
    have hjm:j<m:=by rw [List.length_take] at hl;omega
    rw [Nat.zero_add,hyes j hjm]
   have e2:look (SD (fun _=>true) 0 (l.take m) al s).heap id=look (SD (fun _=>true) 0 (l.take m) al (s.hide (dsts (l.take m)))).heap id:=by
    by_cases hex:∃(j:Nat) (x:Add),al[j]?=some x∧j<(l.take m).length∧id∈x.blks.map (·.1)
    ·obtain ⟨j,x,h1,h2,h3⟩:=ziG hex
     rw [zfU 0 _ al _ id j x h2.1 h1 h2.2 rfl fun j' x' h4 h5 _=>h3 j' x' h4 h5 (by have:=(List.getElem?_eq_some_iff.1 h4).1;rw [←ap.len] at this;exact this),zfU 0 _ al _ id j x h2.1 h1 h2.2 rfl fun j' x' h4 h5 _=>h3 j' x' h4 h5 (by have:=(List.getElem?_eq_some_iff.1 h4).1;rw [←ap.len] at this;exact this)]
    ·have hn:∀(D:Nat→Bool) (j:Nat) (x:Add),al[j]?=some x→D (0+j)=true→j<(l.take m).length→id∉x.blks.map (·.1):=fun D j x h1 _ h3 h2=>hex ⟨j,x,h1,h3,h2⟩
     rw [zbn 0 _ al _ id (hn _),zbn 0 _ al _ id (hn _)]
     rfl
   first|exact e1.trans e2.symm|exact e2.trans e1.symm
 have key:∀fuel (listed:Array Bool) a w,listed.size=l.length→unl l.length listed≤fuel→Inv listed a w→wpAny P .any l.toArray (Post U T w0 Q) fuel listed a w:=by
  intro fuel

  have done:∀(listed:Array Bool) a w,listed.size=l.length→Inv listed a w→Region.ready .any l.toArray listed=[]→Post U T w0 Q .normal a w:=by
   intro listed a w hs hinv hr
   have hall:∀n,n≤l.length→∀j,j<n→listed.getD j false=true:=by
    intro n
    induction n with
    | zero=>intro _ j hj;omega
    | succ n ih =>
     intro hn j hj
     by_cases hjn:j<n
     ·exact ih (by omega) j hjn
     ·have hj2:j=n:=by omega
      subst hj2
      cases hg:listed.getD j false with
      | true=>rfl
      | false =>
       exfalso
       have hjl:j<l.length:=by omega
       have ho:l[j]?=some l[j]:=List.getElem?_eq_getElem hjl
       have:j∈Region.ready .any l.toArray listed:=mem_ready.2 ⟨by simpa [Array.getD,hs,hjl] using hg,l[j],by simp [hjl],fun e he hb=>ih (by omega) _ (hbk j _ ho _ (edges_mem he hb))⟩
       rw [hr] at this
       cases this
   have hall':=hall l.length (Nat.le_refl _)
   obtain ⟨_,⟨hno,hv,ok⟩|⟨k,h1,h2,h3,h4⟩⟩:=hinv
   ·have hml:m=l.length:=by
     rcases Nat.lt_or_ge m l.length with h|h
     ·have:=hno m (Nat.le_refl _);rw [hall' m h] at this;cases this
     ·omega
    have:=full listed a w hv hno (fun k hk=>hall' k (by omega)) ok
    rw [hml,List.drop_length] at this
    exact this
   ·have hk:k=l.length:=by
     rcases Nat.lt_or_ge k l.length with h|h
     ·have:=(h3 k h).1 (hall' k h);omega
     ·omega
    rw [hk,List.drop_length] at h4
    exact h4
  induction fuel with
  | zero =>
   intro listed a w hs hu hinv
   have hr:Region.ready .any l.toArray listed=[]:=by
    cases hr:Region.ready .any l.toArray listed with
    | nil=>rfl
    | cons i r =>
     exfalso
     have hi:i∈Region.ready .any l.toArray listed:=by rw [hr];simp
     obtain ⟨h1,o,h2,h3⟩:=mem_ready.1 hi
     obtain ⟨h4,h5⟩:=zeZ hs h1
     have hmem:i∈(List.range l.length).filter fun j=>!listed.getD j false:=List.mem_filter.2 ⟨List.mem_range.2 h4,by rw [h5];rfl⟩
     have hpos:=List.length_pos_of_mem hmem
     unfold unl at hu
     omega
   exact ⟨hr,done listed a w hs hinv hr⟩
  | succ fuel ih =>
   intro listed a w hs hu hinv
   refine ⟨done listed a w hs hinv,fun i hi=>?_⟩
   obtain ⟨h1,o,h2,h3⟩:=mem_ready.1 hi
   obtain ⟨hil,hi0⟩:=zeZ hs h1
   have ho:l[i]?=some o:=by simpa using h2
   have hs':(listed.setIfInBounds i true).size=l.length:=by simpa using hs
   have hu':unl l.length (listed.setIfInBounds i true)≤fuel:=by have:=unl_set hs hil hi0;omega
   have hset:∀j,(listed.setIfInBounds i true).getD j false=true↔(listed.getD j false=true∨j=i):=fun j=>by
    by_cases hij:i=j
    ·subst hij
     have:(listed.setIfInBounds i true).getD i false=true:=by simp [Array.getD,hs,hil]
     exact ⟨fun _=>.inr rfl,fun _=>this⟩
    ·rw [getD_set_ne false hij]
     exact ⟨.inl,fun h=>h.resolve_right (Ne.symm hij)⟩
   obtain ⟨hcl,hcase⟩:=hinv
   have hedge:∀j,j∈Oper.edges o→listed.getD j false=true:=fun j hj=>by
    obtain ⟨e,he,hb,hon⟩:=mem_edges hj
    rw [←hon]
    exact h3 e he hb
   have hearl:m≤i→∀j,j<i→listed.getD j false=true:=fun hmi j hj=>zdJ (D:=fun j=>listed.getD j false) (fun k o' hk hor j hj=>by
    rcases hor with hl|rfl
    ·exact hcl k o' hk hl j hj
    ·rw [ho] at hk;injection hk with hk;subst hk;exact hedge j hj) [] _ (fun j hj=>by cases hj) (hsf i o hmi ho) j (by simpa using hj)
   have hcl':∀k o',l[k]?=some o'→(listed.setIfInBounds i true).getD k false=true→∀j,j∈Oper.edges o'→(listed.setIfInBounds i true).getD j false=true:=fun k o' hk hl j hj=>by
    rw [hset] at hl ⊢
    rcases hl with hl|hl
    ·exact .inl (hcl k o' hk hl j hj)
    ·subst hl;rw [ho] at hk;injection hk with hk;subst hk;exact .inl (hedge j hj)

   have step2:∀k,m≤k→(∀j,j<l.length→(listed.getD j false=true↔j<k))→wpList P l.toArray (Post U T w0 Q) (l.drop k) a w→wpOp P l.toArray (Post U T w0 Q) i (wpAny P .any l.toArray (Post U T w0 Q) fuel (listed.setIfInBounds i true)) a w:=by
    intro k hk hiff hwp
    have hik:i=k:=by
     have h4:¬i<k:=fun h=>by have:=(hiff i hil).2 h;rw [hi0] at this;cases this
     rcases Nat.lt_or_ge k i with h5|h5
     ·have:=(hiff k (by omega)).1 (hearl (by omega) k h5);omega
     ·omega
    subst hik
    have hdrop:l.drop i=o::l.drop (i+1):=by
     rw [List.drop_eq_getElem_cons hil]
     congr 1
     have:=List.getElem?_eq_getElem hil
     rw [ho] at this
     injection this with this
     exact this.symm
    rw [hdrop] at hwp
    unfold wpOp
    rw [h2]
    simp only
    have next:∀a w,wpList P l.toArray (Post U T w0 Q) (l.drop (i+1)) a w→wpAny P .any l.toArray (Post U T w0 Q) fuel (listed.setIfInBounds i true) a w:=fun a w hwp=>by
     refine ih _ a w hs' hu' ⟨hcl',.inr ⟨i+1,by omega,by omega,fun j hj=>?_,hwp⟩⟩
     rw [hset,hiff j hj]
     omega
    unfold wpList at hwp
    split
    ·rename_i hw
     rw [if_pos hw] at hwp
     exact hwp.imp (Oper.wp_mono next) id
    ·rename_i hw
     rw [if_neg hw] at hwp
     exact next _ _ hwp
   rcases hcase with ⟨hno,hv,ok⟩|⟨k,hk1,hk2,hiff,hwp⟩
   ·by_cases him:i<m
    ·
     have hot:(l.take m)[i]?=some o:=by rw [List.getElem?_take,if_pos him];exact ho
     obtain ⟨x,hx,deps,hdeps,hmode⟩:=ObsC.at hob hot
     simp only [Nat.zero_add] at hdeps hmode
     have hclD:∀(k:Nat) (dk:List Nat),depsOk l k [] dk=true→(listed.getD k false=true∨k=i)→∀j,j∈dk→listed.getD j false=true:=fun k dk hk hl=>zdJ (D:=fun j=>listed.getD j false) (fun k' o' hk' hor j hj=>by
      rcases hor with h6|h6
      ·exact hcl k' o' hk' h6 j hj
      ·rcases hl with h7|h7
       ·rw [h6] at hk';exact hcl k o' hk' h7 j hj
       ·rw [h6,h7,ho] at hk';injection hk' with hk';subst hk';exact hedge j hj) [] dk (fun j hj=>by cases hj) hk
     have hdl:∀j,j∈deps→listed.getD j false=true:=hclD i deps hdeps (.inr rfl)
     have hcsd:∀p,p∈cs→depsOk l p.1 [] p.2=true:=fun p hp=>by
      have:=List.all_eq_true.1 hdc p hp
      rw [Bool.and_eq_true] at this
      exact this.1
     have hfreshS:memB (cs.map (·.1)) i=false→∀id,id∈x.blks.map (·.1)→look (SD (fun j=>listed.getD j false) 0 (l.take m) al (s.hide (dsts (l.take m)))).heap id=none:=fun hic id hid=>by
      have hic':i∉cs.map (·.1):=fun e=>by
       have:memB (cs.map (·.1)) i=true:=List.any_eq_true.2 ⟨i,e,Nat.beq_refl i⟩
       rw [this] at hic;cases hic
      rw [zbn 0 _ al _ id fun j' x' h3 h4 h5 h6=>by
       rcases ap.key j' i x' x id h3 hx h6 hid with e|e
       ·rw [e] at h4;simp [hi0] at h4
       ·exact hic' e.2]
      exact fresh i x id hx hic' hid
     have hob':Ob P l.toArray (SD (fun j=>listed.getD j false) 0 (l.take m) al (s.hide (dsts (l.take m)))) o x:=by
      rcases hmode with ⟨hcmp,hobi⟩|⟨hic,hobi⟩
      ·refine hobi _ ⟨by rw [(SD_nt _ _ _ _).1,(SD_nt _ _ _ _).1],by rw [(SD_nt _ _ _ _).2,(SD_nt _ _ _ _).2],fun t ht=>SD_leEnv ap (D:=memB deps) (D':=fun j=>listed.getD j false) (fun j hj=>hdl j (memB_mem hj)) t ht,fun id b hb=>SD_leHeap ap fresh (D:=memB deps) (D':=fun j=>listed.getD j false) (fun j hj=>hdl j (memB_mem hj)) id (.inr fun c hc hl=>?_) hb⟩ hfreshS
       obtain ⟨p,hp,rfl⟩:=List.mem_map.1 hc
       have h6:=List.all_eq_true.1 hcmp p hp
       simp only [Bool.or_eq_true] at h6
       rcases h6 with (h6|h6)|h6
       ·rw [Nat.eq_of_beq_eq_true h6] at hi0;rw [hi0] at hl;cases hl
       ·have h7:=hclD p.1 p.2 (hcsd p hp) (.inl hl) i (memB_mem h6)
        rw [h7] at hi0;cases hi0
       ·exact h6
      ·refine hobi _ ⟨by rw [(SD_nt _ _ _ _).1];exact (SD_nt _ _ _ _).1.symm,by rw [(SD_nt _ _ _ _).2];exact (SD_nt _ _ _ _).2.symm,fun t ht=>SD_leEnv ap (D:=memB deps) (D':=fun j=>listed.getD j false) (fun j hj=>hdl j (memB_mem hj)) t ht,fun id b hb=>?_⟩ (hfreshS hic)
       rw [ziY] at hb
       split at hb
       ·cases hb
       ·rename_i hk
        exact SD_leHeap ap fresh (D:=memB deps) (D':=fun j=>listed.getD j false) (fun j hj=>hdl j (memB_mem hj)) id (.inl hk) hb
     obtain ⟨e1,e2⟩:=SD_addC ap (D:=fun j=>listed.getD j false) (D':=fun j=>(listed.setIfInBounds i true).getD j false) hot hx (by simp [hi0]) hset (fun hic j hjc hlt hl=>by
      obtain ⟨p,hp,hpe⟩:=List.mem_map.1 hic
      obtain ⟨q,hq,hqe⟩:=List.mem_map.1 hjc
      have h6:=chainB_at hch hp hq (by omega)
      have h7:=hclD q.1 q.2 (hcsd q hq) (.inl (by rw [hqe];exact hl)) p.1 h6
      rw [hpe,hi0] at h7
      cases h7)
     have next:∀a w hv,Ok U T w0 ((SD (fun j=>listed.getD j false) 0 (l.take m) al (s.hide (dsts (l.take m)))).add o.dst x) a w hv→wpAny P .any l.toArray (Post U T w0 Q) fuel (listed.setIfInBounds i true) a w:=fun a w hv ok=>by
      refine ih _ a w hs' hu' ⟨hcl',.inl ⟨fun k hk=>?_,hv,ok.equiv (by rw [(SD_nt _ _ _ _).1,(add_nt _ _ _).1,(SD_nt _ _ _ _).1]) (by rw [(SD_nt _ _ _ _).2,(add_nt _ _ _).2,(SD_nt _ _ _ _).2]) e1 e2⟩⟩
      cases hg:(listed.setIfInBounds i true).getD k false with
      | false=>rfl
      | true =>
       rcases (hset k).1 hg with h5|h5
       ·rw [hno k hk] at h5;cases h5
       ·omega
     unfold wpOp
     rw [h2]
     simp only
     rcases hob' with ⟨hwant,hev⟩|⟨hwant,rfl,hd⟩
     ·rw [if_pos (hwant.wanted ok.m)]
      exact .inl (hev U T w0 a w hv ok _ _ fun s' v w' hv' hs ok' _=>next _ _ hv' (hs▸ok'))
     ·rw [if_neg (by rw [hwant.wanted ok.m];simp)]
      refine next _ _ hv ?_
      have:=ok.next (Fr.refl (fun _=>False) w) (fun _ e=>e.elim) (fun _ id _=>Pass.refl _ _ id) (fun id _=>Pass.refl _ _ id) ok.m.hm (fun _ h _=>h) (d:=o.dst) (r:=.tup []) (v:=undef) ⟨[],rfl,.nil⟩ hd
      exact this
    ·
     have hyes:∀k,k<m→listed.getD k false=true:=fun k hk=>hearl (by omega) k (by omega)
     refine step2 m (Nat.le_refl _) (fun j hj=>⟨fun h=>?_,fun h=>hyes j h⟩) (full listed a w hv hno hyes ok)
     rcases Nat.lt_or_ge j m with h5|h5
     ·exact h5
     ·rw [hno j h5] at h;cases h
   ·exact step2 k hk1 hiff hwp
 refine key _ _ a w (by simp) ?_ ⟨fun k o _ h=>?_,.inl ⟨fun k _=>?_,hv,?_⟩⟩
 ·unfold unl
  have:=List.length_filter_le (fun j=>!(Array.replicate l.toArray.size false).getD j false) (List.range l.length)
  simpa using this
 ·exfalso;simp [Array.getD] at h
 ·simp [Array.getD]
 ·have h0:=ok_hide ok (dsts (l.take m))
  refine h0.equiv (SD_nt _ _ _ _).1 (SD_nt _ _ _ _).2 (fun t=>zbr 0 _ al _ t fun j o' _ h4 _ _=>?_) fun id=>zbn 0 _ al _ id fun j x' _ h4 _ _=>?_
  ·simp [Array.getD] at h4
  ·simp [Array.getD] at h4
theorem zhe {id:Nat} (m:Nat) (cs:List (Nat×List Nat)) (al:List Add) (hmix:P.follows .mixedOrders=true) (hst:(staticOk l m&&noDefer l)=true) (hdc:((cs.all fun p=>depsOk l p.1 [] p.2&&Nat.blt p.1 m)&&chainB cs)=true) (hkeys:apartB (cs.map (·.1)) al=true) (hfr:freshC al s (cs.map (·.1)) 0=true) (hob:ObsC P l m cs al s 0 (l.take m) al)
  (hrest:AOps P l.toArray (l.drop m) (SD (fun _=>true) 0 (l.take m) al s) Q):AW P (.region id l.toArray true) s Q:=fun n r U T w0 a w hv ok mk=>by
 rw [Bool.and_eq_true] at hst hdc
 exact wpIn_region_any hmix (any_in (ds:=a.defers) (a:=bare a) (fun e a' w' h'=>post_in ok mk h') post_calm (zgN hst.2) _ _ _ (draw_set hst.1 hdc.1 hdc.2 hkeys (fun i x id hx hic hid=>freshC_at hfr hx (by simpa using hic) hid) hob hrest (by
  have:=ok.base.next (w':=w.drew) (Fr.drew (fun _=>False) w) (fun _ e=>e.elim) (fun _ id _=>Pass.refl _ _ id) (fun id _=>Pass.refl _ _ id) (ok.m.hm.keep (Fr.drew _ w)) (fun _ h _=>h) (d:=none) (r:=.one .any) (v:=undef) trivial rfl
  exact this)))
end
end Abs
end Go.Proofs.YtclffekkjfhpdaaGreat

