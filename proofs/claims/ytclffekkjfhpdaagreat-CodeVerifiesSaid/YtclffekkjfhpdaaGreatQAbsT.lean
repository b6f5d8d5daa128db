import Derived.Test.YtclffekkjfhpdaaGreatQAbsQ
namespace Go.Proofs.YtclffekkjfhpdaaGreat
open Go.ChangeShapes Go.WideShapes Go.RowKit
set_option linter.unusedVariables false
set_option linter.unusedSimpArgs false
namespace Abs
section
variable {P:Program} {l:List Oper} {m:Nat} {al:List Add} {s:ASt}
def PhOb2 (P:Program) (l:List Oper) (m i:Nat) (deps un:List Nat) (o:Oper) (x:Add) (al:List Add) (s:ASt):List StoreAt→List Nat→(ASt→ASt)→Prop
 | [],K,g=>memB K i=true∨∀S,Le (g (SD (memB deps) 0 (l.take m) al (s.hide (hidden l m un)))) S→(∀id,id∈x.blks.map (·.1)→look S.heap id=none)→Ob P l.toArray S o x
 | (e,Ke,bx,cs)::r,K,g=>(memB deps e=true∨memB K i=true∨∀S,Le (g (SD (memB deps) 0 (l.take m) al (s.hide (hidden l m un)))) S→(∀id,id∈x.blks.map (·.1)→look S.heap id=none)→Ob P l.toArray S o x)∧PhOb2 P l m i deps un o x al s r Ke (fun S=>(g S).setB bx (some (.box cs)))
def Obs4 (P:Program) (l:List Oper) (m:Nat) (sts:List StoreAt) (al:List Add) (s:ASt):Nat→List Oper→List Add→Prop
 | i,o::os,x::xs=>(isSt sts i=true∨∃deps un,depsOk l i [] deps=true∧unOk l m i un=true∧PhOb2 P l m i deps un o x al s sts [] (fun S=>S))∧Obs4 P l m sts al s (i+1) os xs
 | _,[],[]=>True
 | _,_,_=>False
theorem Obs4.at {sts:List StoreAt}:∀{k:Nat} {os:List Oper} {xs:List Add},Obs4 P l m sts al s k os xs→∀{i:Nat} {o:Oper},os[i]?=some o →
  ∃x,xs[i]?=some x∧(isSt sts (k+i)=true∨∃deps un,depsOk l (k+i) [] deps=true∧unOk l m (k+i) un=true∧PhOb2 P l m (k+i) deps un o x al s sts [] (fun S=>S))
 | k,o::os,x::xs,h,0,o',ho=>by
  simp at ho;subst ho
  exact ⟨x,rfl,h.1⟩
 | k,o::os,x::xs,h,i+1,o',ho=>by
  obtain ⟨x',h1,h2⟩:=Obs4.at h.2 (i:=i) (by simpa using ho)
  refine ⟨x',by simpa using h1,?_⟩
  rw [show k+(i+1)=k+1+i by omega]
  exact h2
 | _,[],[],_,i,o,ho=>by simp at ho
 | _,[],_::_,h,_,_,_=>h.elim
 | _,_::_,[],h,_,_,_=>h.elim
theorem Obs4.length {sts:List StoreAt}:∀{k:Nat} {os:List Oper} {xs:List Add},Obs4 P l m sts al s k os xs→os.length=xs.length
 | _,[],[],_=>rfl
 | _,o::os,x::xs,h=>by rw [List.length_cons,List.length_cons,Obs4.length h.2]
 | _,[],_::_,h=>h.elim
 | _,_::_,[],h=>h.elim
def keyOk (al:List Add) (bx:Nat) (Ke:List Nat):Bool:=(List.range al.length).all fun i=>match al[i]? with|some x=>!memB (x.blks.map (·.1)) bx||memB Ke i|none=>true
theorem keyOk_at {bx:Nat} {Ke:List Nat} (h:keyOk al bx Ke=true) {i:Nat} {x:Add} (hx:al[i]?=some x) (hb:bx∈x.blks.map (·.1)):i∈Ke:=by
 have h1:=List.all_eq_true.1 h i (List.mem_range.2 (List.getElem?_eq_some_iff.1 hx).1)
 rw [hx,Bool.or_eq_true] at h1
 rcases h1 with h1|h1
 ·have:memB (x.blks.map (·.1)) bx=true:=List.any_eq_true.2 ⟨bx,hb,Nat.beq_refl bx⟩
  rw [this] at h1;cases h1
 ·exact memB_mem h1
def StOk2 (P:Program) (l:List Oper) (m:Nat) (al:List Add) (s:ASt):List StoreAt→Option Nat→(ASt→ASt)→Prop
 | [],_,_=>True
 | (e,Ke,bx,cs)::r,prev,g=>(Nat.blt e m=true∧(match prev with|some p=>memB Ke p&&Nat.blt p e|none=>true)=true∧depsOk l e [] Ke=true∧keyOk al bx Ke=true∧(match al[e]? with|some x=>x.blks.isEmpty|none=>true)=true ∧
   ∃oe X,l[e]?=some oe∧oe.guard=none∧oe.dst=none∧∀S,Le (g (SD (memB Ke) 0 (l.take m) al (s.hide (hidden l m [])))) S→Ev P X S oe (· = S.setB bx (some (.box cs))))∧StOk2 P l m al s r (some e) (fun S=>(g S).setB bx (some (.box cs)))
def SameL (s' s:ASt):Prop:=s'.nt=s.nt∧s'.kp=s.kp∧(∀t,get s'.env t=get s.env t)∧∀j,look s'.heap j=look s.heap j
theorem SameL.trans {a b c:ASt} (h:SameL a b) (k:SameL b c):SameL a c:=⟨h.1.trans k.1,h.2.1.trans k.2.1,fun t=>(h.2.2.1 t).trans (k.2.2.1 t),fun j=>(h.2.2.2 j).trans (k.2.2.2 j)⟩
theorem SameL.setB {a b:ASt} (h:SameL a b) (bx:Nat) (c:Option Blk):SameL (a.setB bx c) (b.setB bx c):=⟨h.1,h.2.1,h.2.2.1,fun j=>by
 show look ((bx,_)::_) j=look ((bx,_)::_) j
 rw [look_cons,look_cons,h.2.2.2]⟩
theorem SameL.phase {D:Nat→Bool}:∀(sts:List StoreAt) {a b:ASt},SameL a b→SameL (phase D sts a) (phase D sts b)
 | [],a,b,h=>h
 | (e,K,bx,cs)::r,a,b,h=>by
  show SameL (if D e then Abs.phase D r (a.setB bx (some (.box cs))) else a) (if D e then Abs.phase D r (b.setB bx (some (.box cs))) else b)
  split
  ·exact SameL.phase r (h.setB _ _)
  ·exact h
theorem SameL.last:∀(sts:List StoreAt) {a b:ASt},SameL a b→SameL (lastS sts a) (lastS sts b)
 | [],a,b,h=>h
 | (e,K,bx,cs)::r,a,b,h=>SameL.last r (h.setB _ _)
theorem Le.setB {a b:ASt} (h:Le a b) (bx:Nat) (c:Option Blk):Le (a.setB bx c) (b.setB bx c):=⟨h.nt,h.kp,h.env,fun j x hx=>by
 have hx':look ((bx,c)::a.heap) j=some x:=hx
 show look ((bx,c)::b.heap) j=some x
 rw [look_cons] at hx' ⊢
 split
 ·rename_i e;rw [if_pos e] at hx';exact hx'
 ·rename_i e;rw [if_neg e] at hx';exact h.heap j x hx'⟩
theorem Le.phase {D:Nat→Bool}:∀(sts:List StoreAt) {a b:ASt},Le a b→Le (phase D sts a) (phase D sts b)
 | [],a,b,h=>h
 | (e,K,bx,cs)::r,a,b,h=>by
  show Le (if D e then Abs.phase D r (a.setB bx (some (.box cs))) else a) (if D e then Abs.phase D r (b.setB bx (some (.box cs))) else b)
  split
  ·exact Le.phase r (h.setB _ _)
  ·exact h
theorem zhj {D:Nat→Bool} {id:Nat}:∀(sts:List StoreAt) (a:ASt),(∀q,q∈sts→D q.1=true→q.2.2.1≠id)→look (phase D sts a).heap id=look a.heap id
 | [],a,_=>rfl
 | (e,K,bx,cs)::r,a,h=>by
  show look (if D e then phase D r (a.setB bx (some (.box cs))) else a).heap id=_
  split
  ·rename_i he
   rw [zhj r _ fun q hq=>h q (by simp [hq])]
   show look ((bx,_)::a.heap) id=_
   rw [look_cons,if_neg (h (e,K,bx,cs) (by simp) he)]
  ·rfl
theorem phase_add {D:Nat→Bool} {d:Option Nat} {x:Add}:∀(sts:List StoreAt) (a:ASt),(∀q,q∈sts→D q.1=true→q.2.2.1∉x.blks.map (·.1))→SameL (phase D sts (a.add d x)) ((phase D sts a).add d x)
 | [],a,_=>⟨rfl,rfl,fun _=>rfl,fun _=>rfl⟩
 | (e,K,bx,cs)::r,a,h=>by
  show SameL (if D e then phase D r ((a.add d x).setB bx (some (.box cs))) else a.add d x) ((if D e then phase D r (a.setB bx (some (.box cs))) else a).add d x)
  split
  ·rename_i he
   have hn:bx∉x.blks.map (·.1):=h (e,K,bx,cs) (by simp) he
   have h1:SameL ((a.add d x).setB bx (some (.box cs))) ((a.setB bx (some (.box cs))).add d x):=by
    refine ⟨?_,?_,fun t=>?_,fun j=>?_⟩
    ·rw [(add_nt _ _ _).1];exact (add_nt _ _ _).1
    ·rw [(add_nt _ _ _).2];exact (add_nt _ _ _).2
    ·rw [add_get]
     show get (a.add d x).env t=_
     rw [add_get]
     rfl
    ·rw [add_look]
     show look ((bx,_)::(a.add d x).heap) j=if _ then _ else look ((bx,_)::a.heap) j
     rw [look_cons,look_cons,add_look]
     by_cases hj:bx=j
     ·subst hj
      rw [if_pos rfl,if_pos rfl,if_neg hn]
     ·rw [if_neg hj,if_neg hj]
   exact (h1.phase r).trans (phase_add r _ fun q hq=>h q (by simp [hq]))
  ·exact ⟨rfl,rfl,fun _=>rfl,fun _=>rfl⟩
theorem zhY (D:Nat→Bool):∀(sts:List StoreAt) (prev:Option Nat) (g:ASt→ASt) (a:ASt),StOk2 P l m al s sts prev g→(∀k,k<m→D k=true)→phase D sts a=lastS sts a
 | [],_,_,a,_,_=>rfl
 | (e,K,bx,cs)::r,prev,g,a,h,hD=>by
  show (if D e then phase D r (a.setB bx (some (.box cs))) else a)=lastS r (a.setB bx (some (.box cs)))
  rw [if_pos (hD e (by simpa [Nat.blt_eq] using h.1.1))]
  exact zhY D r (some e) _ _ h.2 hD
theorem phase_ob2 {D:Nat→Bool} {i:Nat} {deps un:List Nat} {o:Oper} {x:Add} (hcl:∀k o,l[k]?=some o→D k=true→∀j,j∈Oper.edges o→D j=true) (hi:¬D i=true) (hdeps:∀j,j∈deps→D j=true) {S:ASt}:∀(sts:List StoreAt) (prev:Option Nat) (K:List Nat) (g:ASt→ASt),StOk2 P l m al s sts prev g→PhOb2 P l m i deps un o x al s sts K g→(∀j,j∈K→D j=true) →
  Le (phase D sts (g (SD (memB deps) 0 (l.take m) al (s.hide (hidden l m un))))) S→(∀id,id∈x.blks.map (·.1)→look S.heap id=none)→Ob P l.toArray S o x
 | [],prev,K,g,_,h,hK,hle,hfr=>(h.resolve_left fun q=>hi (hK i (memB_mem q))) S hle hfr
 | (e,Ke,bx,cs)::r,prev,K,g,hs,h,hK,hle,hfr=>by
  by_cases he:D e=true
  ·have e1:∀a,phase D ((e,Ke,bx,cs)::r) a=phase D r (a.setB bx (some (.box cs))):=fun a=>if_pos he
   rw [e1] at hle
   exact phase_ob2 hcl hi hdeps r (some e) Ke (fun S=>(g S).setB bx (some (.box cs))) hs.2 h.2 (closed_K hcl hs.1.2.2.1 fun o ho=>hcl e o ho he) hle hfr
  ·have e1:∀a,phase D ((e,Ke,bx,cs)::r) a=a:=fun a=>if_neg he
   rw [e1] at hle
   exact ((h.1.resolve_left fun q=>he (hdeps e (memB_mem q))).resolve_left fun q=>hi (hK i (memB_mem q))) S hle hfr
theorem zhr {D:Nat→Bool} (hcl:∀k o,l[k]?=some o→D k=true→∀j,j∈Oper.edges o→D j=true):∀(sts:List StoreAt) (p:Nat) (g:ASt→ASt) (i:Nat),StOk2 P l m al s sts (some p) g→isSt sts i=true→(∀o,l[i]?=some o→∀j,j∈Oper.edges o→D j=true)→D p=true
 | [],p,g,i,_,h,_=>by cases h
 | (e,Ke,bx,cs)::r,p,g,i,hs,h,hi=>by
  have h1:(Nat.beq e i||isSt r i)=true:=h
  have hp:memB Ke p=true:=by have:=hs.1.2.1;rw [Bool.and_eq_true] at this;exact this.1
  rw [Bool.or_eq_true] at h1
  rcases h1 with h1|h1
  ·have:e=i:=Nat.eq_of_beq_eq_true h1
   subst this
   exact closed_K hcl hs.1.2.2.1 hi p (memB_mem hp)
  ·have he:=zhr hcl r e _ i hs.2 h1 hi
   exact closed_K hcl hs.1.2.2.1 (fun o ho=>hcl e o ho he) p (memB_mem hp)
theorem zhC {D D':Nat→Bool} {i:Nat} (hcl:∀k o,l[k]?=some o→D k=true→∀j,j∈Oper.edges o→D j=true) (hi:¬D i=true) (hie:∀o,l[i]?=some o→∀j,j∈Oper.edges o→D j=true) (hD:∀j,D' j=true↔(D j=true∨j=i)):∀(sts:List StoreAt) (prev:Option Nat) (g:ASt→ASt),StOk2 P l m al s sts prev g→isSt sts i=true →
  ∃Ke bx cs oe X,(∀j,j∈Ke→D j=true)∧(∀x,al[i]?=some x→x.blks.isEmpty=true)∧l[i]?=some oe∧oe.guard=none∧oe.dst=none ∧
   (∀S,Le (phase D sts (g (SD (memB Ke) 0 (l.take m) al (s.hide (hidden l m []))))) S→Ev P X S oe (· = S.setB bx (some (.box cs))))∧∀a,phase D' sts a=(phase D sts a).setB bx (some (.box cs))
 | [],prev,g,_,h=>by cases h
 | (e,Ke,bx,cs)::r,prev,g,hs,h=>by
  have h1:(Nat.beq e i||isSt r i)=true:=h
  rw [Bool.or_eq_true] at h1
  by_cases he:D e=true
  ·have hne:e≠i:=fun q=>hi (q▸he)
   have e1:∀a,phase D ((e,Ke,bx,cs)::r) a=phase D r (a.setB bx (some (.box cs))):=fun a=>if_pos he
   have e2:∀a,phase D' ((e,Ke,bx,cs)::r) a=phase D' r (a.setB bx (some (.box cs))):=fun a=>if_pos ((hD e).2 (.inl he))
   obtain ⟨Ke',bx',cs',oe,X,k1,k2,k3,k4,k5,k6,k7⟩:=zhC hcl hi hie hD r (some e) _ hs.2 (h1.resolve_left fun q=>hne (Nat.eq_of_beq_eq_true q))
   exact ⟨Ke',bx',cs',oe,X,k1,k2,k3,k4,k5,fun S hle=>k6 S (by rw [e1] at hle;exact hle),fun a=>by rw [e1,e2,k7]⟩
  ·have hie2:e=i:=by
    rcases h1 with h1|h1
    ·exact Nat.eq_of_beq_eq_true h1
    ·exact absurd (zhr hcl r e _ i hs.2 h1 hie) he
   subst hie2
   obtain ⟨⟨_,_,hK,hk,hx,oe,X,ho,hg,hd,hev⟩,hr⟩:=hs
   have e1:∀a,phase D ((e,Ke,bx,cs)::r) a=a:=fun a=>if_neg he
   have e2:∀a,phase D' ((e,Ke,bx,cs)::r) a=a.setB bx (some (.box cs)):=fun a=>by
    refine (if_pos ((hD e).2 (.inr rfl))).trans ?_
    cases r with
    | nil=>rfl
    | cons q r =>
     obtain ⟨e2,K2,b2,c2⟩:=q
     have hp:=hr.1.2.1
     rw [Bool.and_eq_true] at hp
     refine if_neg fun q=>?_
     rcases (hD e2).1 q with q|q
     ·exact he (closed_K hcl hr.1.2.2.1 (fun o ho=>hcl e2 o ho q) e (memB_mem hp.1))
     ·subst q
      have:=hp.2
      simp [Nat.blt_eq] at this
   exact ⟨Ke,bx,cs,oe,X,closed_K hcl hK hie,fun x hx'=>by rw [hx'] at hx;exact hx,ho,hg,hd,fun S hle=>hev S (by rw [e1] at hle;exact hle),fun a=>by rw [e1,e2]⟩
theorem no_key {D:Nat→Bool} {i:Nat} {x:Add} (hcl:∀k o,l[k]?=some o→D k=true→∀j,j∈Oper.edges o→D j=true) (hi:¬D i=true) (hx:al[i]?=some x):∀(sts:List StoreAt) (prev:Option Nat) (g:ASt→ASt),StOk2 P l m al s sts prev g→∀q,q∈sts→D q.1=true→q.2.2.1∉x.blks.map (·.1)
 | [],_,_,_,q,hq,_=>by cases hq
 | (e,Ke,bx,cs)::r,prev,g,hs,q,hq,hD=>by
  rcases List.mem_cons.1 hq with rfl|hq
  ·intro hb
   exact hi (closed_K hcl hs.1.2.2.1 (fun o ho=>hcl e o ho hD) i (keyOk_at hs.1.2.2.2.1 hx hb))
  ·exact no_key hcl hi hx r (some e) _ hs.2 q hq hD
end
section
variable {P:Program} {l:List Oper} {m:Nat} {al:List Add} {s:ASt} {Q:Exit→ASt→Prop}
theorem draw_over {sts:List StoreAt} (hst:staticOk l m=true) (hkeys:nodupB (keysOf al)=true) (hfr:∀id,id∈keysOf al→look s.heap id=none) (hok:StOk2 P l m al s sts none (fun S=>S)) (hob:Obs4 P l m sts al s 0 (l.take m) al)
  (hrest:AOps P l.toArray (l.drop m) (lastS sts (SD (fun _=>true) 0 (l.take m) al s)) Q) {U T:Nat→Prop} {w0:Base} {a:Act} {w:World} {hv:Nat→Value} (ok:Ok U T w0 s a w hv) :
  wpAny P .any l.toArray (Post U T w0 Q) l.toArray.size (Array.replicate l.toArray.size false) a w:=by
 simp only [staticOk,Bool.and_eq_true] at hst
 obtain ⟨⟨⟨hback,hsuf⟩,hm⟩,hdst⟩:=hst
 have hm':=Nat.le_of_ble_eq_true hm
 have ap:Apart l m al s:=by
  refine ⟨Obs4.length hob,fun i j o o' t h1 h2 h3 h4=>zer (zdQ hdst) i j o o' t h1 h2 h3 h4,fun i j x y id h1 h2 h3 h4=>zft (zdQ hkeys) i j x y id h1 h2 h3 h4,fun i x id h1 h2=>hfr id (List.mem_flatMap.2 ⟨x,List.mem_of_getElem? h1,h2⟩)⟩
 have hbk:∀i o,l[i]?=some o→∀j,j∈Oper.edges o→j<i:=fun i o ho j hj=>by
  have h1:=List.all_eq_true.1 hback i (List.mem_range.2 (List.getElem?_eq_some_iff.1 ho).1)
  rw [ho] at h1
  have h2:=List.all_eq_true.1 h1 j hj
  simpa [Nat.blt_eq] using h2
 have hsf:∀i o,m≤i→l[i]?=some o→depsOk l i [] (List.range i).reverse=true:=fun i o hi ho=>by
  have h1:=List.all_eq_true.1 hsuf i (List.mem_range.2 (List.getElem?_eq_some_iff.1 ho).1)
  rw [Bool.or_eq_true] at h1
  rcases h1 with h1|h1
  ·have:i<m:=by simpa [Nat.blt_eq] using h1
   omega
  ·exact h1

 let Inv:Array Bool→Act→World→Prop:=fun listed a w =>
  (∀k o,l[k]?=some o→listed.getD k false=true→∀j,j∈Oper.edges o→listed.getD j false=true) ∧
  (((∀k,m≤k→listed.getD k false=false)∧∃hv,Ok U T w0 (phase (fun j=>listed.getD j false) sts (SD (fun j=>listed.getD j false) 0 (l.take m) al s)) a w hv) ∨
   ∃k,m≤k∧k≤l.length∧(∀j,j<l.length→(listed.getD j false=true↔j<k))∧wpList P l.toArray (Post U T w0 Q) (l.drop k) a w)

 have full:∀(listed:Array Bool) a w hv,(∀k,m≤k→listed.getD k false=false)→(∀k,k<m→listed.getD k false=true)→Ok U T w0 (phase (fun j=>listed.getD j false) sts (SD (fun j=>listed.getD j false) 0 (l.take m) al s)) a w hv→wpList P l.toArray (Post U T w0 Q) (l.drop m) a w:=by
  intro listed a w hv hno hyes ok
  rw [zhY _ sts none _ _ hok hyes] at ok
  have hsame:SameL (SD (fun _=>true) 0 (l.take m) al s) (SD (fun j=>listed.getD j false) 0 (l.take m) al s):=⟨by rw [(SD_nt _ _ _ _).1,(SD_nt _ _ _ _).1],by rw [(SD_nt _ _ _ _).2,(SD_nt _ _ _ _).2],fun t=>?_,fun id=>?_⟩
  ·have hl:=hsame.last sts
   exact hrest U T w0 a w hv (ok.equiv hl.1 hl.2.1 hl.2.2.1 hl.2.2.2)
  ·by_cases hex:∃(j:Nat) (o:Oper),(l.take m)[j]?=some o∧o.dst=some t
   ·obtain ⟨j,o,h1,h2⟩:=hex
    have hjl:j<al.length:=by rw [←ap.len];exact (List.getElem?_eq_some_iff.1 h1).1
    have hjm:j<m:=by have:=(List.getElem?_eq_some_iff.1 h1).1;rw [List.length_take] at this;omega
    have hx:al[j]?=some al[j]:=List.getElem?_eq_getElem hjl
    have hu:∀(j':Nat) (o':Oper),(l.take m)[j']?=some o'→j'<al.length→o'.dst=some t→j'=j:=fun j' o' h3 _ h4=>ap.dst j' j o' o t h3 h1 h4 h2
    rw [zbR 0 _ al _ t j o _ h1 hx h2 (by simp) hu,zbR 0 _ al _ t j o _ h1 hx h2 (by simpa using hyes j hjm) hu]
   ·have hn:∀(D:Nat→Bool) (j:Nat) (o:Oper),(l.take m)[j]?=some o→D (0+j)=true→j<al.length→o.dst≠some t:=fun D j o h1 _ _ h2=>hex ⟨j,o,h1,h2⟩
    rw [zbr 0 _ al _ t (hn _),zbr 0 _ al _ t (hn _)]
  ·by_cases hex:∃(j:Nat) (x:Add),al[j]?=some x∧id∈x.blks.map (·.1)
   ·obtain ⟨j,x,h1,h2⟩:=hex
    have hjl:j<(l.take m).length:=by rw [ap.len];exact (List.getElem?_eq_some_iff.1 h1).1
    have hjm:j<m:=by rw [List.length_take] at hjl;omega
    have hu:∀(j':Nat) (x':Add),al[j']?=some x'→id∈x'.blks.map (·.1)→j'=j:=fun j' x' h3 h4=>ap.key j' j x' x id h3 h1 h4 h2
    rw [zcm 0 _ al _ id j x hjl h1 h2 (by simp) hu,zcm 0 _ al _ id j x hjl h1 h2 (by simpa using hyes j hjm) hu]
   ·have hn:∀(D:Nat→Bool) (j:Nat) (x:Add),al[j]?=some x→D (0+j)=true→j<(l.take m).length→id∉x.blks.map (·.1):=fun D j x h1 _ _ h2=>hex ⟨j,x,h1,h2⟩
    rw [zbn 0 _ al _ id (hn _),zbn 0 _ al _ id (hn _)]
 have key:∀fuel (listed:Array Bool) a w,listed.size=l.length→unl l.length listed≤fuel→Inv listed a w→wpAny P .any l.toArray (Post U T w0 Q) fuel listed a w:=by
  intro fuel

  have done:∀(listed:Array Bool) a w,listed.size=l.length→Inv listed a w→Region.ready .any l.toArray listed=[]→Post U T w0 Q .normal a w:=by
   intro listed a w hs hinv hr
   have hall:∀n,n≤l.length→∀j,j<n→listed.getD j false=true:=by
    intro n
    induction n with
    | zero=>intro _ j hj;omega
    | succ n ih =>
     intro hn j hj
     by_cases hjn:j<n
     ·exact ih (by omega) j hjn
     ·have hj2:j=n:=by omega
      subst hj2
      cases hg:listed.getD j false with
      | true=>rfl
      | false =>
       exfalso
       have hjl:j<l.length:=by omega
       have ho:l[j]?=some l[j]:=List.getElem?_eq_getElem hjl
       have:j∈Region.ready .any l.toArray listed:=mem_ready.2 ⟨by simpa [Array.getD,hs,hjl] using hg,l[j],by simp [hjl],fun e he hb=>ih (by omega) _ (hbk j _ ho _ (edges_mem he hb))⟩
       rw [hr] at this
       cases this
   have hall':=hall l.length (Nat.le_refl _)
   obtain ⟨_,⟨hno,hv,ok⟩|⟨k,h1,h2,h3,h4⟩⟩:=hinv
   ·have hml:m=l.length:=by
     rcases Nat.lt_or_ge m l.length with h|h
     ·have:=hno m (Nat.le_refl _);rw [hall' m h] at this;cases this
     ·omega
    have:=full listed a w hv hno (fun k hk=>hall' k (by omega)) ok
    rw [hml,List.drop_length] at this
    exact this
   ·have hk:k=l.length:=by
     rcases Nat.lt_or_ge k l.length with h|h
     ·have:=(h3 k h).1 (hall' k h);omega
     ·omega
    rw [hk,List.drop_length] at h4
    exact h4
  induction fuel with
  | zero =>
   intro listed a w hs hu hinv
   have hr:Region.ready .any l.toArray listed=[]:=by
    cases hr:Region.ready .any l.toArray listed with
    | nil=>rfl
    | cons i r =>
     exfalso
     have hi:i∈Region.ready .any l.toArray listed:=by rw [hr];simp
     obtain ⟨h1,o,h2,h3⟩:=mem_ready.1 hi
     obtain ⟨h4,h5⟩:=zeZ hs h1
     have hmem:i∈(List.range l.length).filter fun j=>!listed.getD j false:=List.mem_filter.2 ⟨List.mem_range.2 h4,by rw [h5];rfl⟩
     have hpos:=List.length_pos_of_mem hmem
     unfold unl at hu
     omega
   exact ⟨hr,done listed a w hs hinv hr⟩
  | succ fuel ih =>
   intro listed a w hs hu hinv
   refine ⟨done listed a w hs hinv,fun i hi=>?_⟩
   obtain ⟨h1,o,h2,h3⟩:=mem_ready.1 hi
   obtain ⟨hil,hi0⟩:=zeZ hs h1
   have ho:l[i]?=some o:=by simpa using h2
   have hs':(listed.setIfInBounds i true).size=l.length:=by simpa using hs
   have hu':unl l.length (listed.setIfInBounds i true)≤fuel:=by have:=unl_set hs hil hi0;omega
   have hset:∀j,(listed.setIfInBounds i true).getD j false=true↔(listed.getD j false=true∨j=i):=fun j=>by
    by_cases hij:i=j
    ·subst hij
     have:(listed.setIfInBounds i true).getD i false=true:=by simp [Array.getD,hs,hil]
     exact ⟨fun _=>.inr rfl,fun _=>this⟩
    ·rw [getD_set_ne false hij]
     exact ⟨.inl,fun h=>h.resolve_right (Ne.symm hij)⟩
   obtain ⟨hcl,hcase⟩:=hinv
   have hedge:∀j,j∈Oper.edges o→listed.getD j false=true:=fun j hj=>by
    obtain ⟨e,he,hb,hon⟩:=mem_edges hj
    rw [←hon]
    exact h3 e he hb
   have hearl:m≤i→∀j,j<i→listed.getD j false=true:=fun hmi j hj=>zdJ (D:=fun j=>listed.getD j false) (fun k o' hk hor j hj=>by
    rcases hor with hl|rfl
    ·exact hcl k o' hk hl j hj
    ·rw [ho] at hk;injection hk with hk;subst hk;exact hedge j hj) [] _ (fun j hj=>by cases hj) (hsf i o hmi ho) j (by simpa using hj)
   have hcl':∀k o',l[k]?=some o'→(listed.setIfInBounds i true).getD k false=true→∀j,j∈Oper.edges o'→(listed.setIfInBounds i true).getD j false=true:=fun k o' hk hl j hj=>by
    rw [hset] at hl ⊢
    rcases hl with hl|hl
    ·exact .inl (hcl k o' hk hl j hj)
    ·subst hl;rw [ho] at hk;injection hk with hk;subst hk;exact .inl (hedge j hj)

   have step2:∀k,m≤k→(∀j,j<l.length→(listed.getD j false=true↔j<k))→wpList P l.toArray (Post U T w0 Q) (l.drop k) a w→wpOp P l.toArray (Post U T w0 Q) i (wpAny P .any l.toArray (Post U T w0 Q) fuel (listed.setIfInBounds i true)) a w:=by
    intro k hk hiff hwp
    have hik:i=k:=by
     have h4:¬i<k:=fun h=>by have:=(hiff i hil).2 h;rw [hi0] at this;cases this
     rcases Nat.lt_or_ge k i with h5|h5
     ·have:=(hiff k (by omega)).1 (hearl (by omega) k h5);omega
     ·omega
    subst hik
    have hdrop:l.drop i=o::l.drop (i+1):=by
     rw [List.drop_eq_getElem_cons hil]
     congr 1
     have:=List.getElem?_eq_getElem hil
     rw [ho] at this
     injection this with this
     exact this.symm
    rw [hdrop] at hwp
    unfold wpOp
    rw [h2]
    simp only
    have next:∀a w,wpList P l.toArray (Post U T w0 Q) (l.drop (i+1)) a w→wpAny P .any l.toArray (Post U T w0 Q) fuel (listed.setIfInBounds i true) a w:=fun a w hwp=>by
     refine ih _ a w hs' hu' ⟨hcl',.inr ⟨i+1,by omega,by omega,fun j hj=>?_,hwp⟩⟩
     rw [hset,hiff j hj]
     omega
    unfold wpList at hwp
    split
    ·rename_i hw
     rw [if_pos hw] at hwp
     exact hwp.imp (Oper.wp_mono next) id
    ·rename_i hw
     rw [if_neg hw] at hwp
     exact next _ _ hwp
   rcases hcase with ⟨hno,hv,ok⟩|⟨k,hk1,hk2,hiff,hwp⟩
   ·by_cases him:i<m
    ·
     have hot:(l.take m)[i]?=some o:=by rw [List.getElem?_take,if_pos him];exact ho
     obtain ⟨x,hx,hcase⟩:=Obs4.at hob hot
     rw [Nat.zero_add] at hcase
     unfold wpOp
     rw [h2]
     simp only
     cases hie:isSt sts i with
     | true =>

      obtain ⟨Ke,bx,cs',oe,X,hKl,hxe,hoe,hge,hde,hev,hBB⟩:=zhC (P:=P) (D:=fun j=>listed.getD j false) (D':=fun j=>(listed.setIfInBounds i true).getD j false) hcl (by simp [hi0]) (fun o' ho' j hj=>by rw [ho] at ho';injection ho' with ho';subst ho';exact hedge j hj) hset sts none (fun S=>S) hok hie
      rw [ho] at hoe
      injection hoe with hoe
      subst hoe
      have hle:=Le.phase (D:=fun j=>listed.getD j false) sts<|SD_le2 ap (D:=memB Ke) (D':=fun j=>listed.getD j false) (H:=hidden l m []) (fun j hj=>hKl j (memB_mem hj)) fun j o' t h1 h2 _=>.inr (List.mem_filter.2 ⟨List.mem_filterMap.2 ⟨o',List.mem_of_getElem? h1,h2⟩,rfl⟩)
      have next:∀a w hv,Ok U T w0 ((phase (fun j=>listed.getD j false) sts (SD (fun j=>listed.getD j false) 0 (l.take m) al s)).setB bx (some (.box cs'))) a w hv→wpAny P .any l.toArray (Post U T w0 Q) fuel (listed.setIfInBounds i true) a w:=fun a w hv ok=>by
       refine ih _ a w hs' hu' ⟨hcl',.inl ⟨fun k hk=>?_,hv,?_⟩⟩
       ·cases hg:(listed.setIfInBounds i true).getD k false with
        | false=>rfl
        | true =>
         rcases (hset k).1 hg with h5|h5
         ·rw [hno k hk] at h5;cases h5
         ·omega
       ·rw [hBB]
        obtain ⟨e1,e2⟩:=SD_add2 ap s (D:=fun j=>listed.getD j false) (D':=fun j=>(listed.setIfInBounds i true).getD j false) hot hx (by simp [hi0]) hset
        have hxb:x.blks=[]:=by simpa using hxe x hx
        have hsm:SameL (SD (fun j=>(listed.setIfInBounds i true).getD j false) 0 (l.take m) al s) (SD (fun j=>listed.getD j false) 0 (l.take m) al s):=⟨by rw [(SD_nt _ _ _ _).1,(SD_nt _ _ _ _).1],by rw [(SD_nt _ _ _ _).2,(SD_nt _ _ _ _).2],fun t=>by rw [e1,add_get,hde,if_neg (by simp)],fun j=>by rw [e2,add_look,hxb];simp⟩
        have hl:=(hsm.phase (D:=fun j=>listed.getD j false) sts).setB bx (some (.box cs'))
        exact ok.equiv hl.1 hl.2.1 hl.2.2.1 hl.2.2.2
      rw [if_pos (by simp [Region.wanted,hge])]
      exact .inl (hev _ hle U T w0 a w hv ok _ _ fun s' v w' hv' hs ok' _=>by
       subst hs
       rw [hde] at ok' ⊢
       exact next _ _ hv' ok')
     | false =>
      obtain ⟨deps,un,hdeps,hun,hph⟩:=hcase.resolve_left (by rw [hie];simp)
      have hdl:=zdJ (D:=fun j=>listed.getD j false) (fun k o' hk hor j hj=>by
       rcases hor with hl|rfl
       ·exact hcl k o' hk hl j hj
       ·rw [ho] at hk;injection hk with hk;subst hk;exact hedge j hj) [] deps (fun j hj=>by cases hj) hdeps
      have hle:=Le.phase (D:=fun j=>listed.getD j false) sts<|SD_le2 ap (D:=memB deps) (D':=fun j=>listed.getD j false) (H:=hidden l m un) (fun j hj=>hdl j (memB_mem hj)) fun j o' t h1 h2 h3=>by
       refine .inr (List.mem_filter.2 ⟨List.mem_filterMap.2 ⟨o',List.mem_of_getElem? h1,h2⟩,?_⟩)
       cases hm:memB un t with
       | false=>rfl
       | true =>
        exfalso
        have h4:=List.all_eq_true.1 (List.all_eq_true.1 hun t (memB_mem hm)) o' (List.mem_of_getElem? h1)
        rw [h2,Bool.or_eq_true] at h4
        rcases h4 with h4|h4
        ·simp at h4
        ·have h5:l[j]?=some o':=by rw [List.getElem?_take] at h1;split at h1;exact h1;cases h1
         have:=hcl j o' h5 h3 i (List.contains_iff_mem.1 h4)
         rw [hi0] at this;cases this
      have hnk:=no_key (D:=fun j=>listed.getD j false) hcl (by simp [hi0]) hx sts none (fun S=>S) hok
      have hfresh:∀id,id∈x.blks.map (·.1)→look (phase (fun j=>listed.getD j false) sts (SD (fun j=>listed.getD j false) 0 (l.take m) al s)).heap id=none:=fun id hid=>by
       rw [zhj sts _ fun q hq hD e=>hnk q hq hD (by rw [e];exact hid)]
       exact SD_fresh2 ap (D:=fun j=>listed.getD j false) hx (by simp [hi0]) id hid
      have hob':Ob P l.toArray (phase (fun j=>listed.getD j false) sts (SD (fun j=>listed.getD j false) 0 (l.take m) al s)) o x:=phase_ob2 (D:=fun j=>listed.getD j false) hcl (by simp [hi0]) hdl sts none [] (fun S=>S) hok hph (fun j hj=>by cases hj) hle hfresh
      obtain ⟨e1,e2⟩:=SD_add2 ap s (D:=fun j=>listed.getD j false) (D':=fun j=>(listed.setIfInBounds i true).getD j false) hot hx (by simp [hi0]) hset
      have hBB:∀a,phase (fun j=>(listed.setIfInBounds i true).getD j false) sts a=phase (fun j=>listed.getD j false) sts a:=fun a=>zhz hset sts a hie
      have hsm:SameL (SD (fun j=>(listed.setIfInBounds i true).getD j false) 0 (l.take m) al s) ((SD (fun j=>listed.getD j false) 0 (l.take m) al s).add o.dst x):=⟨by rw [(SD_nt _ _ _ _).1,(add_nt _ _ _).1,(SD_nt _ _ _ _).1],by rw [(SD_nt _ _ _ _).2,(add_nt _ _ _).2,(SD_nt _ _ _ _).2],e1,e2⟩
      have hl:=(hsm.phase (D:=fun j=>listed.getD j false) sts).trans (phase_add sts _ hnk)
      have next:∀a w hv,Ok U T w0 ((phase (fun j=>listed.getD j false) sts (SD (fun j=>listed.getD j false) 0 (l.take m) al s)).add o.dst x) a w hv→wpAny P .any l.toArray (Post U T w0 Q) fuel (listed.setIfInBounds i true) a w:=fun a w hv ok=>by
       refine ih _ a w hs' hu' ⟨hcl',.inl ⟨fun k hk=>?_,hv,?_⟩⟩
       ·cases hg:(listed.setIfInBounds i true).getD k false with
        | false=>rfl
        | true =>
         rcases (hset k).1 hg with h5|h5
         ·rw [hno k hk] at h5;cases h5
         ·omega
       ·rw [hBB]
        exact ok.equiv hl.1 hl.2.1 hl.2.2.1 hl.2.2.2
      rcases hob' with ⟨hwant,hev⟩|⟨hwant,rfl,hd⟩
      ·rw [if_pos (hwant.wanted ok.m)]
       exact .inl (hev U T w0 a w hv ok _ _ fun s' v w' hv' hs ok' _=>next _ _ hv' (hs▸ok'))
      ·rw [if_neg (by rw [hwant.wanted ok.m];simp)]
       refine next _ _ hv ?_
       have:=ok.next (Fr.refl (fun _=>False) w) (fun _ e=>e.elim) (fun _ id _=>Pass.refl _ _ id) (fun id _=>Pass.refl _ _ id) ok.m.hm (fun _ h _=>h) (d:=o.dst) (r:=.tup []) (v:=undef) ⟨[],rfl,.nil⟩ hd
       exact this
    ·
     have hyes:∀k,k<m→listed.getD k false=true:=fun k hk=>hearl (by omega) k (by omega)
     refine step2 m (Nat.le_refl _) (fun j hj=>⟨fun h=>?_,fun h=>hyes j h⟩) (full listed a w hv hno hyes ok)
     rcases Nat.lt_or_ge j m with h5|h5
     ·exact h5
     ·rw [hno j h5] at h;cases h
   ·exact step2 k hk1 hiff hwp
 refine key _ _ a w (by simp) ?_ ⟨fun k o _ h=>?_,.inl ⟨fun k _=>?_,hv,?_⟩⟩
 ·unfold unl
  have:=List.length_filter_le (fun j=>!(Array.replicate l.toArray.size false).getD j false) (List.range l.length)
  simpa using this
 ·exfalso;simp [Array.getD] at h
 ·simp [Array.getD]
 ·rw [zhZ _ sts _ (by simp [Array.getD])]
  refine ok.equiv (SD_nt _ _ _ _).1 (SD_nt _ _ _ _).2 (fun t=>zbr 0 _ al _ t fun j o' _ h4 _ _=>?_) fun id=>zbn 0 _ al _ id fun j x' _ h4 _ _=>?_
  ·simp [Array.getD] at h4
  ·simp [Array.getD] at h4
theorem zio {ri:Nat} (m:Nat) (sts:List StoreAt) (al:List Add) (hmix:P.follows .mixedOrders=true) (hst:(staticOk l m&&noDefer l)=true) (hkeys:nodupB (keysOf al)=true) (hfr:(keysOf al).all (fun id=>(look s.heap id).isNone)=true)
  (hob:Obs4 P l m sts al s 0 (l.take m) al) (hok:StOk2 P l m al s sts none (fun S=>S))
  (hrest:AOps P l.toArray (l.drop m) (lastS sts (SD (fun _=>true) 0 (l.take m) al s)) Q):AW P (.region ri l.toArray true) s Q:=fun n r U T w0 a w hv ok mk=>by
 rw [Bool.and_eq_true] at hst
 exact wpIn_region_any hmix (any_in (ds:=a.defers) (a:=bare a) (fun e a' w' h'=>post_in ok mk h') post_calm (zgN hst.2) _ _ _ (draw_over hst.1 hkeys (fun id hid=>by simpa using List.all_eq_true.1 hfr id hid) hok hob hrest (by
  have:=ok.base.next (w':=w.drew) (Fr.drew (fun _=>False) w) (fun _ e=>e.elim) (fun _ id _=>Pass.refl _ _ id) (fun id _=>Pass.refl _ _ id) (ok.m.hm.keep (Fr.drew _ w)) (fun _ h _=>h) (d:=none) (r:=.one .any) (v:=undef) trivial rfl
  exact this)))
end
end Abs
end Go.Proofs.YtclffekkjfhpdaaGreat

