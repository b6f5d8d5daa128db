import Derived.Test.YtclffekkjfhpdaaGreatQAbsY
import Derived.RangeFuncIn
import Derived.Test.YtclffekkjfhpdaaGreatQAbsR
namespace Go.Proofs.YtclffekkjfhpdaaGreat
open Go.ChangeShapes Go.WideShapes Go.RowKit
set_option linter.unusedVariables false
set_option linter.unusedSimpArgs false
namespace Abs
def boxIds (s:ASt):Bool:=(envIds s.env).all fun j=>isBoxB (look s.heap j)
theorem ziP {h:Heap} {j:Nat} (hb:isBoxB (look h j)=true):IsBox h j:=by
 cases hl:look h j with
 | none=>rw [hl] at hb;cases hb
 | some b =>
  rw [hl] at hb
  cases b with
  | box cs=>exact ⟨cs,hl⟩
  | row e sz n el=>cases hb
  | iter s pos=>cases hb
section
variable {U:Nat→Prop} {w0:Base} {sE s:ASt} {aE a:Act} {w:World} {hv:Nat→Value}
theorem Ok.swap {U':Nat→Prop} (hU:∀b,b<w0.w.heap.size→U' b→U b) (hE:Ok U (mine sE.heap w0.v) w0 sE aE w0.w w0.v) (hk:sE.kp=boxesOf sE.heap) (hids:boxIds sE=true) (ok:Ok U' (mine sE.heap w0.v) w0 s a w hv) (hkp:s.kp=sE.kp) :
  Ok U' (mine sE.heap w0.v) w0 ⟨sE.nt,sE.kp,sE.env,s.heap⟩ aE w hv:=by
 refine ⟨⟨hE.m.nt,hE.m.defers,fun t=>(hE.m.env t).keep (fun id hid=>?_) ok.fr (fun b h=>.inr h) fun b hlt hb=>hb.imp (hU b hlt) fun x=>ok.own b x hlt,ok.m.hm⟩,ok.fr,ok.own,fun id hid=>ok.box id (by rw [hkp];exact hid)⟩
 have hb:=ziP (List.all_eq_true.1 hids id (get_ids hid))
 have hm:id∈s.kp:=by rw [hkp,hk];exact mem_boxes.2 hb
 obtain ⟨e1,e2⟩:=ok.box id hm
 obtain ⟨cs,hcs⟩:=hb
 exact ⟨fun ⟨_,_,_,_,e⟩=>by (rw [hcs] at e;cases e),fun _=>e1,fun _=>e2,fun ⟨_,_,e⟩=>by (rw [hcs] at e;cases e)⟩
theorem Ok.entry {T:Nat→Prop} {w1:Base} (ok:Ok U T w1 s a w hv):Ok U (mine s.heap hv) ⟨w,hv⟩ ⟨s.nt,boxesOf s.heap,s.env,s.heap⟩ a w hv :=
 ⟨⟨ok.m.nt,ok.m.defers,ok.m.env,ok.m.hm⟩,Fr.refl _ _,fun b hb _=>hb,fun id hid=>⟨mem_boxes.1 hid,rfl⟩⟩
end
def naked:Act:={ tmps:=#[],defers:=[] }
section
variable {U T:Nat→Prop} {w0:Base} {s s':ASt} {a a':Act} {w w':World} {hv hv':Nat→Value}
theorem Ok.back' {l:Nat} (hl:w0.w.heap.size≤l) (ok:Ok U T w0 s a w hv) (ok':Ok U (fun b=>mine s.heap hv b∨b=l) (w0.at w) s' a' w' hv'):Ok U T w0 s' a' w' hv':=by
 have h:∀x,x<w0.w.heap.size→(mine s.heap hv x∨x=l)→T x:=fun x hx hm=>by
  rcases hm with hm|hm
  ·exact ok.own x hm hx
  ·omega
 exact ⟨ok'.m,ok.fr.trans ok'.fr h,fun b hb hlt=>h b hlt (ok'.own b hb (Nat.lt_of_lt_of_le hlt ok.fr.size)),fun id h=>ok'.box id h⟩
theorem Ok.base' {l:Nat} (ok:Ok U T w0 s a w hv):Ok U (fun b=>mine s.heap hv b∨b=l) (w0.at w) s a w hv:=⟨ok.m,Fr.refl _ _,fun b hb _=>.inl hb,fun id h=>ok.box id h⟩
end
end Abs
end Go.Proofs.YtclffekkjfhpdaaGreat
namespace Go.Proofs.YtclffekkjfhpdaaGreat
open Go.ChangeShapes Go.WideShapes Go.RowKit
set_option linter.unusedVariables false
set_option linter.unusedSimpArgs false
namespace Abs
section
variable {P:Program} {s:ASt} {Q:Exit→ASt→Prop}
theorem Ok.own_nil_box {U T:Nat→Prop} {w0:Base} {a:Act} {w:World} {hv:Nat→Value} (ok:Ok U T w0 s a w hv) (bid off id e sz:Nat) (el:Nat→List CV) {cs:List CV} (hid:look s.heap id=none) (hb:look s.heap bid=some (.box cs)) (hc:cs[off]?=some (.val (.slice none 0 0))) :
  ∃hv',Ok U T w0 ⟨s.nt,s.kp,s.env,(bid,some (.box (cs.set off (.own id))))::(id,some (.row e sz 0 el))::s.heap⟩ a w hv':=by
 have hne:id≠bid:=fun q=>by rw [q,hb] at hid;cases hid
 have ok1:=ok.new (w':=w) (blk:=.row e sz 0 el) (u:=.slice none 0 0) hid (Fr.refl (fun _=>False) w) (fun g hg=>by cases hg) ⟨[],by rw [upd_same];exact ⟨by simp,.inl ⟨rfl,rfl⟩⟩,fun i hi=>by omega,fun i j c hi=>by omega⟩ (d:=none) (r:=.one .any) (v:=undef) trivial rfl
 have hb1:look ((id,some (Blk.row e sz 0 el))::s.heap) bid=some (.box cs):=by rw [look_cons,if_neg hne];exact hb
 have pass:∀j,Pass ((id,some (Blk.row e sz 0 el))::s.heap) (upd hv id (.slice none 0 0)) ((bid,some (Blk.box (cs.set off (.own id))))::(id,some (.row e sz 0 el))::s.heap) (upd (upd hv id (.slice none 0 0)) bid (upd hv id (.slice none 0 0) bid)) j:=fun j=>by
  refine ⟨fun ⟨e',sz',n',el',hr⟩=>⟨e',sz',n',el',?_⟩,fun ⟨cs',hr⟩=>?_,fun _=>?_,fun ⟨s',p,hr⟩=>⟨s',p,by rw [look_cons,if_neg (fun q=>by subst q;rw [hb1] at hr;cases hr)];exact hr⟩⟩
  ·rw [look_cons,if_neg (fun q=>by subst q;rw [hb1] at hr;cases hr)];exact hr
  ·by_cases q:bid=j
   ·exact ⟨_,by rw [look_cons,if_pos q]⟩
   ·exact ⟨cs',by rw [look_cons,if_neg q];exact hr⟩
  ·by_cases q:j=bid
   ·subst q;rw [upd_same]
   ·rw [upd_other (fun k=>q k.symm)]
 have hblk:=ok1.m.hm.blk bid _ hb1
 obtain ⟨g,vs,ty,h1,h2,h3⟩:=hblk
 have hmine:∀b,mine ((bid,some (Blk.box (cs.set off (.own id))))::(id,some (.row e sz 0 el))::s.heap) (upd (upd hv id (.slice none 0 0)) bid (upd hv id (.slice none 0 0) bid)) b→mine ((id,some (Blk.row e sz 0 el))::s.heap) (upd hv id (.slice none 0 0)) b:=by
  rintro b ⟨i,x,e1,e2⟩
  by_cases q:i=bid
  ·subst q
   rw [upd_same] at e2
   exact ⟨i,_,hb1,e2⟩
  ·rw [upd_other (fun k=>q k.symm)] at e2
   rw [look_cons,if_neg (fun k=>q k.symm)] at e1
   exact ⟨i,x,e1,e2⟩
 have hm:=ok1.m.hm.put (w':=w) (T1:=fun _=>False) (id:=bid) (blk:=.box (cs.set off (.own id))) (u:=upd hv id (.slice none 0 0) bid) (Fr.refl _ w) (fun _ e=>e.elim) (fun g hg=>.inr ⟨⟨_,hb1⟩,hg⟩) (fun i b _ _ j _=>pass j) (by
  refine ⟨g,vs,ty,by rw [upd_same];exact h1,h2,?_⟩
  have h4:All2 (RepT ((bid,some (Blk.box (cs.set off (.own id))))::(id,some (.row e sz 0 el))::s.heap) (upd (upd hv id (.slice none 0 0)) bid (upd hv id (.slice none 0 0) bid)) (fun b=>U b∨mine ((bid,some (Blk.box (cs.set off (.own id))))::(id,some (.row e sz 0 el))::s.heap) (upd (upd hv id (.slice none 0 0)) bid (upd hv id (.slice none 0 0) bid)) b) w) cs vs.toList :=
   h3.imp fun x y k=>k.keep (fun j _=>pass j) (Fr.refl (fun _=>False) w) (fun _ e=>e.elim) fun b _ hb=>hb.imp (fun x=>x) (hmine b)
  obtain ⟨v,hv1,hv2⟩:=h4.get hc
  have hval:v=.slice none 0 0:=rep_val (A:=fun _=>True) (w:=w) (h:=[]) (hv:=hv) (v:=.slice none 0 0) (by cases (show RepC _ w (.val (.slice none 0 0)) v from hv2);exact RepC.val _ rfl)
  have h5:=h4.set off (x:=.own id) (y:=v) ⟨⟨e,sz,0,el,by rw [look_cons,if_neg (Ne.symm hne),look_same]⟩,by rw [hval,upd_other (Ne.symm hne),upd_same],none,0,0,hval⟩
  rwa [show vs.toList.set off v=vs.toList from List.ext_getElem? fun j=>by
   rw [List.getElem?_set]
   by_cases q:off=j
   ·subst q
    rw [if_pos rfl,hv1]
    have:=(List.getElem?_eq_some_iff.1 hv1).1
    simp only [Array.length_toList] at this
    simp [this]
   ·rw [if_neg q]] at h5)
 have ok2:=ok1.next (w':=w) (T1:=fun _=>False) (Fr.refl _ w) (fun _ e=>e.elim) (fun _ j _=>pass j) (fun j _=>pass j) hm (fun b hb _=>hmine b hb) (d:=none) (r:=.one .any) (v:=undef) trivial rfl
 exact ⟨_,ok2⟩
theorem zey {code:Code} (bid off id e sz:Nat) (el:Nat→List CV) {cs:List CV} (hid:look s.heap id=none) (hb:look s.heap bid=some (.box cs)) (hc:cs[off]?=some (.val (.slice none 0 0)))
  (h:AW P code ⟨s.nt,s.kp,s.env,(bid,some (.box (cs.set off (.own id))))::(id,some (.row e sz 0 el))::s.heap⟩ Q):AW P code s Q:=fun n r U T w0 a w hv ok mk=>by
 obtain ⟨_,ok2⟩:=ok.own_nil_box bid off id e sz el hid hb hc
 exact h n r U T w0 a w _ ok2 mk
theorem zhw {ops:Array Oper} {l:List Oper} (bid off id e sz:Nat) (el:Nat→List CV) {cs:List CV} (hid:look s.heap id=none) (hb:look s.heap bid=some (.box cs)) (hc:cs[off]?=some (.val (.slice none 0 0)))
  (h:AOps P ops l ⟨s.nt,s.kp,s.env,(bid,some (.box (cs.set off (.own id))))::(id,some (.row e sz 0 el))::s.heap⟩ Q):AOps P ops l s Q:=fun U T w0 a w hv ok=>by
 obtain ⟨_,ok2⟩:=ok.own_nil_box bid off id e sz el hid hb hc
 exact h U T w0 a w _ ok2
variable {d:Option Nat} {ty t:TypeId} {pos:String} {af:Array Edge} {g:Option (Nat×Bool)} {len e sz:Nat} {agg:Bool}
end
end Abs
end Go.Proofs.YtclffekkjfhpdaaGreat
namespace Go.Proofs.YtclffekkjfhpdaaGreat
open Go.ChangeShapes Go.WideShapes Go.RowKit
set_option linter.unusedVariables false
set_option linter.unusedSimpArgs false
namespace Abs
def notFn:CV→Bool
 | .fn _ _=>false
 | _=>true
def plainC:CV→Bool
 | .val _=>true
 | .slc _ _=>true
 | .emp0=>true
 | .full _ _=>true
 | .cptr _=>true
 | .fn _ caps=>caps.all CV.isC
 | _=>false
theorem repP_of {h:Heap} {hv:Nat→Value} {A:Nat→Prop} {w:World} {c:CV} {v:Value} (hn:notFn c=true) (hr:RepT h hv A w c v):RepP h hv A w c v:=by
 cases c<;>first|exact hr|cases hn
theorem repC_of {h:Heap} {hv:Nat→Value} {A:Nat→Prop} {w:World} {c:CV} {v:Value} (hn:plainC c=true) (hr:RepT h hv A w c v):RepC A w c v:=by
 cases c with
 | fn f caps =>
  obtain ⟨vs,rfl,h2⟩:=hr
  refine RepC.fnc f caps vs hn h2.length fun j c u hj hu=>?_
  obtain ⟨u',h3,h4⟩:=h2.get hj
  rw [hu] at h3
  injection h3 with h3
  subst h3
  have h5:=List.all_eq_true.1 hn c (List.mem_of_getElem? hj)
  cases c<;>first|exact h4|cases h5
 | _=>first|exact hr|cases hn
section
variable {P:Program} {s:ASt} {Q:Exit→ASt→Prop}
theorem zeK {f:FuncId} {caps:List Operand} (cs:List CV) {d:Option Tmp} {ty:TypeId} {pos:String} {af:Array Edge} {g:Option (Nat×Bool)} (hc:caps.map s.ev=cs.map .one) (hn:cs.all notFn=true) (hd:dOk s d=true) :
  Ev P [] s ⟨d,.makeFunc (.func f) #[] caps.toArray,ty,pos,af,g⟩ (· = s.put d (.one (.fn f cs))) :=
 ev_of_run hd fun U a w hv m=>by
  refine ⟨.func (.func f) #[] (caps.toArray.map a.eval),w,by simp [execOp,Instr.makeFunc],Fr.refl _ _,caps.map a.eval,by simp,?_⟩
  clear hd
  induction caps generalizing cs with
  | nil =>
   cases cs with
   | nil=>exact .nil
   | cons c cs=>cases hc
  | cons x caps ih =>
   cases cs with
   | nil=>cases hc
   | cons c cs =>
    rw [List.map_cons,List.map_cons,List.cons.injEq] at hc
    rw [List.all_cons,Bool.and_eq_true] at hn
    have h1:=m.ev x
    rw [hc.1] at h1
    exact .cons (repP_of hn.1 h1) (ih cs hc.2 hn.2)
end
def EnvAt (e:List (Nat×AV)):List (Nat×AV)→Prop
 | []=>True
 | p::r=>get e p.1=p.2∧EnvAt e r
def Less (s s':ASt):Prop:=s'.nt=s.nt∧s'.kp=s.kp∧s'.heap=s.heap∧EnvAt s.env s'.env
theorem EnvAt.mem {e:List (Nat×AV)}:∀{l:List (Nat×AV)},EnvAt e l→∀p,p∈l→get e p.1=p.2
 | [],_,p,hp=>by cases hp
 | q::r,h,p,hp=>by
  rcases List.mem_cons.1 hp with rfl|hp
  ·exact h.1
  ·exact EnvAt.mem h.2 p hp
theorem Less.ok {U T:Nat→Prop} {w0:Base} {s s':ASt} {a:Act} {w:World} {hv:Nat→Value} (k:Less s s') (ok:Ok U T w0 s a w hv):Ok U T w0 s' a w hv:=by
 obtain ⟨nt',kp',env',heap'⟩:=s'
 obtain ⟨h1,h2,h3,h4⟩:=k
 simp only at h1 h2 h3 h4
 subst h1;subst h2;subst h3
 refine ⟨⟨ok.m.nt,ok.m.defers,fun t=>?_,ok.m.hm⟩,ok.fr,ok.own,ok.box⟩
 rcases get_mem (env:=env') (t:=t) with h|h
 ·rw [h];exact trivial
 ·have:=h4.mem _ h
  simp only at this
  rw [←this]
  exact ok.m.env t
section
variable {P:Program} {s s':ASt} {U T:Nat→Prop} {w0:Base} {Z:World→Prop}
variable {ops:Array Oper} {K:Exit→Act→World→Prop} {o:Oper} {rest:List Oper} {X:List Nat}
def RawAt (n:Nat) (fs:List (Nat×Value)) (a:Act):Prop:=a.tmps.size=n∧a.defers=[]∧∀p,p∈fs→a.tmps[p.1]?=some p.2
theorem RawAt.eval {n:Nat} {fs:List (Nat×Value)} {a:Act} (h:RawAt n fs a) {t:Nat} {v:Value} (hm:(t,v)∈fs):a.eval (.tmp t)=v:=by
 have:=h.2.2 _ hm
 show a.tmps.getD t undef=v
 simp only at this
 obtain ⟨hlt,e⟩:=Array.getElem?_eq_some_iff.1 this
 simp [Array.getD,hlt,e]
theorem RawAt.put {n:Nat} {fs:List (Nat×Value)} {a:Act} (h:RawAt n fs a) {d:Nat} (v:Value) (hd:d<n) (hn:∀p,p∈fs→p.1≠d):RawAt n ((d,v)::fs) (a.put (some d) v):=by
 refine ⟨?_,h.2.1,fun p hp=>?_⟩
 ·show (a.tmps.setIfInBounds d v).size=n
  simp [h.1]
 ·show (a.tmps.setIfInBounds d v)[p.1]?=some p.2
  rcases List.mem_cons.1 hp with rfl|hp
  ·simp [h.1,hd]
  ·rw [Array.getElem?_setIfInBounds_ne (Ne.symm (hn p hp))]
   exact h.2.2 p hp
theorem Ok.kept {l:Nat} {H':Heap} {a:Act} {w w':World} {hv hv':Nat→Value} (hU:U l) (ok:Ok U T w0 s a w hv) (hl:w0.w.heap.size≤l) (hi:(envIds s.env).isEmpty=true) (ok':Ok U (fun b=>mine s.heap hv b∨b=l) (w0.at w) ⟨0,s.kp,[],H'⟩ naked w' hv'):Ok U T w0 ⟨s.nt,s.kp,s.env,H'⟩ a w' hv':=by
 have h1:=ok.back' hl ok'
 refine ⟨⟨ok.m.nt,ok.m.defers,fun t=>(ok.m.env t).keep (fun id hid=>?_) ok'.fr (fun b hb=>?_) (fun b hlt hb=>?_),h1.m.hm⟩,h1.fr,h1.own,h1.box⟩
 ·have:=get_ids hid
  rw [List.isEmpty_iff.1 hi] at this
  cases this
 ·rcases hb with hb|hb
  ·exact .inr hb
  ·subst hb;exact .inl hU
 ·rcases hb with hb|hb
  ·exact .inl hb
  ·rcases ok'.own b hb hlt with h|h
   ·exact .inr h
   ·subst h;exact .inl hU
end
end Abs
end Go.Proofs.YtclffekkjfhpdaaGreat
namespace Go.Proofs.YtclffekkjfhpdaaGreat
open Go.ChangeShapes Go.WideShapes Go.RowKit
set_option linter.unusedVariables false
set_option linter.unusedSimpArgs false
namespace Abs
def ASt.setB (s:ASt) (id:Nat) (b:Option Blk):ASt:={ s with heap:=(id,b)::s.heap }
theorem SD_setB {D:Nat→Bool} {id:Nat} {b:Option Blk}:∀(i:Nat) (os:List Oper) (xs:List Add) (s s':ASt),(∀x,x∈xs→id∉x.blks.map (·.1))→(∀t,get s'.env t=get s.env t)→(∀j,look s'.heap j=if id=j then b else look s.heap j) →
  (∀t,get (SD D i os xs s').env t=get (SD D i os xs s).env t)∧∀j,look (SD D i os xs s').heap j=if id=j then b else look (SD D i os xs s).heap j
 | i,[],xs,s,s',_,h1,h2=>by cases xs<;>exact ⟨h1,h2⟩
 | i,_::_,[],s,s',_,h1,h2=>⟨h1,h2⟩
 | i,o::os,x::xs,s,s',hx,h1,h2=>by
  simp only [SD]
  refine SD_setB (i+1) os xs _ _ (fun y hy=>hx y (by simp [hy])) (fun t=>?_) fun j=>?_
  ·split
   ·rw [add_get,add_get,h1]
   ·exact h1 t
  ·split
   ·rw [add_look,add_look,h2]
    by_cases hj:id=j
    ·subst hj;rw [if_pos rfl,if_pos rfl,if_neg (hx x (by simp))]
    ·rw [if_neg hj,if_neg hj]
   ·exact h2 j
def unOk (l:List Oper) (m i:Nat) (un:List Nat):Bool:=un.all fun t=>(l.take m).all fun o=>(match o.dst with|some t'=>!Nat.beq t' t|none=>true)||(Oper.edges o).contains i
def hidden (l:List Oper) (m:Nat) (un:List Nat):List Nat:=(dsts (l.take m)).filter fun t=>!memB un t
abbrev StoreAt:=Nat×List Nat×Nat×List CV
def phase (D:Nat→Bool):List StoreAt→ASt→ASt
 | [],s=>s
 | (e,_,bx,cs)::r,s=>if D e then phase D r (s.setB bx (some (.box cs))) else s
def lastS:List StoreAt→ASt→ASt
 | [],s=>s
 | (_,_,bx,cs)::r,s=>lastS r (s.setB bx (some (.box cs)))
def PhOb (P:Program) (l:List Oper) (m i:Nat) (deps un:List Nat) (o:Oper) (x:Add) (al:List Add):List StoreAt→List Nat→ASt→Prop
 | [],K,s=>memB K i=true∨∀S,Le (SD (memB deps) 0 (l.take m) al (s.hide (hidden l m un))) S→(∀id,id∈x.blks.map (·.1)→look S.heap id=none)→Ob P l.toArray S o x
 | (e,Ke,bx,cs)::r,K,s=>(memB deps e=true∨memB K i=true∨∀S,Le (SD (memB deps) 0 (l.take m) al (s.hide (hidden l m un))) S→(∀id,id∈x.blks.map (·.1)→look S.heap id=none)→Ob P l.toArray S o x)∧PhOb P l m i deps un o x al r Ke (s.setB bx (some (.box cs)))
def isSt (sts:List StoreAt) (i:Nat):Bool:=sts.any fun q=>Nat.beq q.1 i
def Obs3 (P:Program) (l:List Oper) (m:Nat) (sts:List StoreAt) (al:List Add) (s:ASt):Nat→List Oper→List Add→Prop
 | i,o::os,x::xs=>(isSt sts i=true∨∃deps un,depsOk l i [] deps=true∧unOk l m i un=true∧PhOb P l m i deps un o x al sts [] s)∧Obs3 P l m sts al s (i+1) os xs
 | _,[],[]=>True
 | _,_,_=>False
theorem Obs3.at {P:Program} {l:List Oper} {m:Nat} {sts:List StoreAt} {al:List Add} {s:ASt}:∀{k:Nat} {os:List Oper} {xs:List Add},Obs3 P l m sts al s k os xs→∀{i:Nat} {o:Oper},os[i]?=some o →
  ∃x,xs[i]?=some x∧(isSt sts (k+i)=true∨∃deps un,depsOk l (k+i) [] deps=true∧unOk l m (k+i) un=true∧PhOb P l m (k+i) deps un o x al sts [] s)
 | k,o::os,x::xs,h,0,o',ho=>by
  simp at ho;subst ho
  exact ⟨x,rfl,h.1⟩
 | k,o::os,x::xs,h,i+1,o',ho=>by
  obtain ⟨x',h1,h2⟩:=Obs3.at h.2 (i:=i) (by simpa using ho)
  refine ⟨x',by simpa using h1,?_⟩
  rw [show k+(i+1)=k+1+i by omega]
  exact h2
 | _,[],[],_,i,o,ho=>by simp at ho
 | _,[],_::_,h,_,_,_=>h.elim
 | _,_::_,[],h,_,_,_=>h.elim
theorem Obs3.length {P:Program} {l:List Oper} {m:Nat} {sts:List StoreAt} {al:List Add} {s:ASt}:∀{k:Nat} {os:List Oper} {xs:List Add},Obs3 P l m sts al s k os xs→os.length=xs.length
 | _,[],[],_=>rfl
 | _,o::os,x::xs,h=>by rw [List.length_cons,List.length_cons,Obs3.length h.2]
 | _,[],_::_,h=>h.elim
 | _,_::_,[],h=>h.elim
def StOk (P:Program) (l:List Oper) (m:Nat) (al:List Add):List StoreAt→Option Nat→ASt→Prop
 | [],_,_=>True
 | (e,Ke,bx,cs)::r,prev,s=>(Nat.blt e m=true∧(match prev with|some p=>memB Ke p&&Nat.blt p e|none=>true)=true∧depsOk l e [] Ke=true∧memB (keysOf al) bx=false∧(match al[e]? with|some x=>x.blks.isEmpty|none=>true)=true ∧
   ∃oe X,l[e]?=some oe∧oe.guard=none∧oe.dst=none∧∀S,Le (SD (memB Ke) 0 (l.take m) al (s.hide (hidden l m []))) S→Ev P X S oe (· = S.setB bx (some (.box cs))))∧StOk P l m al r (some e) (s.setB bx (some (.box cs)))
section
variable {P:Program} {l:List Oper} {m:Nat} {al:List Add}
theorem phase_nt (D:Nat→Bool):∀(sts:List StoreAt) (s:ASt),(phase D sts s).nt=s.nt∧(phase D sts s).kp=s.kp
 | [],s=>⟨rfl,rfl⟩
 | (e,K,bx,cs)::r,s=>by
  show (if D e then phase D r (s.setB bx (some (.box cs))) else s).nt=_∧(if D e then phase D r (s.setB bx (some (.box cs))) else s).kp=_
  split
  ·exact phase_nt D r _
  ·exact ⟨rfl,rfl⟩
theorem keys_no {bx:Nat} (h:memB (keysOf al) bx=false):∀x,x∈al→bx∉x.blks.map (·.1):=fun x hx hi=>by
 have:memB (keysOf al) bx=true:=List.any_eq_true.2 ⟨bx,List.mem_flatMap.2 ⟨x,hx,hi⟩,Nat.beq_refl bx⟩
 rw [h] at this;cases this
theorem Apart.setB {s:ASt} {bx:Nat} {b:Option Blk} (ap:Apart l m al s) (h:memB (keysOf al) bx=false):Apart l m al (s.setB bx b):=⟨ap.len,ap.dst,ap.key,fun i x j h1 h2=>by
 show look ((bx,_)::s.heap) j=none
 rw [look_cons,if_neg (fun (e:bx=j)=>keys_no h x (List.mem_of_getElem? h1) (by rw [e];exact h2))]
 exact ap.fresh i x j h1 h2⟩
theorem phase_ap (D:Nat→Bool):∀(sts:List StoreAt) (prev:Option Nat) (s:ASt),Apart l m al s→StOk P l m al sts prev s→Apart l m al (phase D sts s)
 | [],_,s,ap,_=>ap
 | (e,K,bx,cs)::r,prev,s,ap,h=>by
  show Apart l m al (if D e then phase D r (s.setB bx (some (.box cs))) else s)
  split
  ·exact phase_ap D r (some e) _ (ap.setB h.1.2.2.2.1) h.2
  ·exact ap
theorem phase_all (D:Nat→Bool):∀(sts:List StoreAt) (prev:Option Nat) (s:ASt),StOk P l m al sts prev s→(∀k,k<m→D k=true)→phase D sts s=lastS sts s
 | [],_,s,_,_=>rfl
 | (e,K,bx,cs)::r,prev,s,h,hD=>by
  show (if D e then phase D r (s.setB bx (some (.box cs))) else s)=lastS r (s.setB bx (some (.box cs)))
  rw [if_pos (hD e (by simpa [Nat.blt_eq] using h.1.1))]
  exact phase_all D r (some e) _ h.2 hD
theorem zhZ (D:Nat→Bool):∀(sts:List StoreAt) (s:ASt),(∀k,¬D k=true)→phase D sts s=s
 | [],s,_=>rfl
 | (e,K,bx,cs)::r,s,hD=>if_neg (hD e)
theorem zhz {D D':Nat→Bool} {i:Nat} (hD:∀j,D' j=true↔(D j=true∨j=i)):∀(sts:List StoreAt) (s:ASt),isSt sts i=false→phase D' sts s=phase D sts s
 | [],s,_=>rfl
 | (e,K,bx,cs)::r,s,h=>by
  have h1:(Nat.beq e i||isSt r i)=false:=h
  rw [Bool.or_eq_false_iff] at h1
  have hne:e≠i:=fun q=>by rw [q,Nat.beq_refl] at h1;cases h1.1
  show (if D' e then phase D' r (s.setB bx (some (.box cs))) else s)=(if D e then phase D r (s.setB bx (some (.box cs))) else s)
  by_cases he:D e=true
  ·rw [if_pos he,if_pos ((hD e).2 (.inl he))]
   exact zhz hD r _ h1.2
  ·rw [if_neg he,if_neg (fun q=>((hD e).1 q).elim he hne)]
theorem closed_K {D:Nat→Bool} (hcl:∀k o,l[k]?=some o→D k=true→∀j,j∈Oper.edges o→D j=true) {e:Nat} {K:List Nat} (hK:depsOk l e [] K=true) (he:∀o,l[e]?=some o→∀j,j∈Oper.edges o→D j=true):∀j,j∈K→D j=true :=
 zdJ (fun k o hk hor j hj=>by
  rcases hor with h|h
  ·exact hcl k o hk h j hj
  ·subst h;exact he o hk j hj) [] K (fun j hj=>by cases hj) hK
theorem phase_ob {D:Nat→Bool} {i:Nat} {deps un:List Nat} {o:Oper} {x:Add} (hcl:∀k o,l[k]?=some o→D k=true→∀j,j∈Oper.edges o→D j=true) (hi:¬D i=true) (hdeps:∀j,j∈deps→D j=true) {S:ASt}:∀(sts:List StoreAt) (prev:Option Nat) (K:List Nat) (s:ASt),StOk P l m al sts prev s→PhOb P l m i deps un o x al sts K s→(∀j,j∈K→D j=true) →
  Le (SD (memB deps) 0 (l.take m) al ((phase D sts s).hide (hidden l m un))) S→(∀id,id∈x.blks.map (·.1)→look S.heap id=none)→Ob P l.toArray S o x
 | [],prev,K,s,_,h,hK,hle,hfr=>(h.resolve_left fun q=>hi (hK i (memB_mem q))) S hle hfr
 | (e,Ke,bx,cs)::r,prev,K,s,hs,h,hK,hle,hfr=>by
  by_cases he:D e=true
  ·have e1:phase D ((e,Ke,bx,cs)::r) s=phase D r (s.setB bx (some (.box cs))):=if_pos he
   rw [e1] at hle
   exact phase_ob hcl hi hdeps r (some e) Ke _ hs.2 h.2 (closed_K hcl hs.1.2.2.1 fun o ho=>hcl e o ho he) hle hfr
  ·have e1:phase D ((e,Ke,bx,cs)::r) s=s:=if_neg he
   rw [e1] at hle
   exact ((h.1.resolve_left fun q=>he (hdeps e (memB_mem q))).resolve_left fun q=>hi (hK i (memB_mem q))) S hle hfr
theorem zhO {D:Nat→Bool} (hcl:∀k o,l[k]?=some o→D k=true→∀j,j∈Oper.edges o→D j=true):∀(sts:List StoreAt) (p:Nat) (s:ASt) (i:Nat),StOk P l m al sts (some p) s→isSt sts i=true→(∀o,l[i]?=some o→∀j,j∈Oper.edges o→D j=true)→D p=true
 | [],p,s,i,_,h,_=>by cases h
 | (e,Ke,bx,cs)::r,p,s,i,hs,h,hi=>by
  have h1:(Nat.beq e i||isSt r i)=true:=h
  have hp:memB Ke p=true:=by have:=hs.1.2.1;rw [Bool.and_eq_true] at this;exact this.1
  rw [Bool.or_eq_true] at h1
  rcases h1 with h1|h1
  ·have:e=i:=Nat.eq_of_beq_eq_true h1
   subst this
   exact closed_K hcl hs.1.2.2.1 hi p (memB_mem hp)
  ·have he:=zhO hcl r e _ i hs.2 h1 hi
   exact closed_K hcl hs.1.2.2.1 (fun o ho=>hcl e o ho he) p (memB_mem hp)
theorem zhK {D D':Nat→Bool} {i:Nat} (hcl:∀k o,l[k]?=some o→D k=true→∀j,j∈Oper.edges o→D j=true) (hi:¬D i=true) (hie:∀o,l[i]?=some o→∀j,j∈Oper.edges o→D j=true) (hD:∀j,D' j=true↔(D j=true∨j=i)):∀(sts:List StoreAt) (prev:Option Nat) (s:ASt),StOk P l m al sts prev s→isSt sts i=true →
  ∃Ke bx cs oe X,(∀j,j∈Ke→D j=true)∧memB (keysOf al) bx=false∧(∀x,al[i]?=some x→x.blks.isEmpty=true)∧l[i]?=some oe∧oe.guard=none∧oe.dst=none ∧
   (∀S,Le (SD (memB Ke) 0 (l.take m) al ((phase D sts s).hide (hidden l m []))) S→Ev P X S oe (· = S.setB bx (some (.box cs))))∧phase D' sts s=(phase D sts s).setB bx (some (.box cs))
 | [],prev,s,_,h=>by cases h
 | (e,Ke,bx,cs)::r,prev,s,hs,h=>by
  have h1:(Nat.beq e i||isSt r i)=true:=h
  rw [Bool.or_eq_true] at h1
  by_cases he:D e=true
  ·have hne:e≠i:=fun q=>hi (q▸he)
   have e1:phase D ((e,Ke,bx,cs)::r) s=phase D r (s.setB bx (some (.box cs))):=if_pos he
   have e2:phase D' ((e,Ke,bx,cs)::r) s=phase D' r (s.setB bx (some (.box cs))):=if_pos ((hD e).2 (.inl he))
   rw [e1,e2]
   exact zhK hcl hi hie hD r (some e) _ hs.2 (h1.resolve_left fun q=>hne (Nat.eq_of_beq_eq_true q))
  ·have hie2:e=i:=by
    rcases h1 with h1|h1
    ·exact Nat.eq_of_beq_eq_true h1
    ·exact absurd (zhO hcl r e _ i hs.2 h1 hie) he
   subst hie2
   obtain ⟨⟨_,_,hK,hk,hx,oe,X,ho,hg,hd,hev⟩,hr⟩:=hs
   have e1:phase D ((e,Ke,bx,cs)::r) s=s:=if_neg he
   have e2:phase D' ((e,Ke,bx,cs)::r) s=s.setB bx (some (.box cs)):=by
    refine (if_pos ((hD e).2 (.inr rfl))).trans ?_
    cases r with
    | nil=>rfl
    | cons q r =>
     obtain ⟨e2,K2,b2,c2⟩:=q
     have hp:=hr.1.2.1
     rw [Bool.and_eq_true] at hp
     refine if_neg fun q=>?_
     rcases (hD e2).1 q with q|q
     ·exact he (closed_K hcl hr.1.2.2.1 (fun o ho=>hcl e2 o ho q) e (memB_mem hp.1))
     ·subst q
      have:=hp.2
      simp [Nat.blt_eq] at this
   rw [e1,e2]
   exact ⟨Ke,bx,cs,oe,X,closed_K hcl hK hie,hk,fun x hx'=>by rw [hx'] at hx;exact hx,ho,hg,hd,hev,rfl⟩
end
section
variable {P:Program} {l:List Oper} {m:Nat} {al:List Add} {s:ASt} {Q:Exit→ASt→Prop}
theorem SD_le2 (ap:Apart l m al s) {D D':Nat→Bool} {H:List Nat} (h:∀i,D i=true→D' i=true) (hH:∀(j:Nat) (o:Oper) (t:Nat),(l.take m)[j]?=some o→o.dst=some t→D' j=true→D j=true∨t∈H) :
  Le (SD D 0 (l.take m) al (s.hide H)) (SD D' 0 (l.take m) al s):=by
 refine ⟨by rw [(SD_nt _ _ _ _).1,(SD_nt _ _ _ _).1];rfl,by rw [(SD_nt _ _ _ _).2,(SD_nt _ _ _ _).2];rfl,fun t ht=>?_,fun id b hb=>?_⟩
 ·by_cases hex:∃(j:Nat) (o:Oper),(l.take m)[j]?=some o∧o.dst=some t
  ·obtain ⟨j,o,h1,h2⟩:=hex
   have hjl:j<al.length:=by rw [←ap.len];exact (List.getElem?_eq_some_iff.1 h1).1
   have hx:al[j]?=some al[j]:=List.getElem?_eq_getElem hjl
   have hu:∀(j':Nat) (o':Oper),(l.take m)[j']?=some o'→j'<al.length→o'.dst=some t→j'=j:=fun j' o' h3 _ h4=>ap.dst j' j o' o t h3 h1 h4 h2
   by_cases hD:D j=true
   ·rw [zbR 0 _ al _ t j o _ h1 hx h2 (by simpa using h j hD) hu,zbR 0 _ al _ t j o _ h1 hx h2 (by simpa using hD) hu]
   ·have hl:get (SD D 0 (l.take m) al (s.hide H)).env t=get (s.hide H).env t:=zbr 0 _ al _ t fun j' o' h3 h4 h5 h6=>by rw [hu j' o' h3 h5 h6] at h4;simp at h4;exact hD h4
    rw [hl,hide_get] at ht ⊢
    by_cases hT:t∈H
    ·rw [if_pos hT] at ht;exact absurd rfl ht
    ·rw [if_neg hT]
     refine zbr 0 _ al _ t fun j' o' h3 h4 h5 h6=>?_
     rw [hu j' o' h3 h5 h6] at h4
     rcases hH j o t h1 h2 (by simpa using h4) with h7|h7
     ·exact hD h7
     ·exact hT h7
  ·have hn:∀(D:Nat→Bool) (j:Nat) (o:Oper),(l.take m)[j]?=some o→D (0+j)=true→j<al.length→o.dst≠some t:=fun D j o h1 _ _ h2=>hex ⟨j,o,h1,h2⟩
   rw [zbr 0 _ al _ t (hn D)] at ht ⊢
   rw [zbr 0 _ al _ t (hn D')]
   rw [hide_get] at ht ⊢
   by_cases hT:t∈H
   ·rw [if_pos hT] at ht;exact absurd rfl ht
   ·rw [if_neg hT]
 ·by_cases hex:∃(j:Nat) (x:Add),al[j]?=some x∧id∈x.blks.map (·.1)
  ·obtain ⟨j,x,h1,h2⟩:=hex
   have hjl:j<(l.take m).length:=by rw [ap.len];exact (List.getElem?_eq_some_iff.1 h1).1
   have hu:∀(j':Nat) (x':Add),al[j']?=some x'→id∈x'.blks.map (·.1)→j'=j:=fun j' x' h3 h4=>ap.key j' j x' x id h3 h1 h4 h2
   by_cases hD:D j=true
   ·rw [zcm 0 _ al _ id j x hjl h1 h2 (by simpa using hD) hu] at hb
    rw [zcm 0 _ al _ id j x hjl h1 h2 (by simpa using h j hD) hu]
    exact hb
   ·rw [zbn 0 _ al _ id fun j' x' h3 h4 h5 h6=>by rw [hu j' x' h3 h6] at h4;simp at h4;exact hD h4] at hb
    have:=ap.fresh j x id h1 h2
    rw [show look (s.hide H).heap id=look s.heap id from rfl,this] at hb
    cases hb
  ·have hn:∀(D:Nat→Bool) (j:Nat) (x:Add),al[j]?=some x→D (0+j)=true→j<(l.take m).length→id∉x.blks.map (·.1):=fun D j x h1 _ _ h2=>hex ⟨j,x,h1,h2⟩
   rw [zbn 0 _ al _ id (hn D)] at hb
   rw [zbn 0 _ al _ id (hn D')]
   exact hb
theorem SD_fresh2 (ap:Apart l m al s) {D:Nat→Bool} {i:Nat} {x:Add} (hx:al[i]?=some x) (hi:¬D i=true):∀id,id∈x.blks.map (·.1)→look (SD D 0 (l.take m) al s).heap id=none:=fun id hid=>by
 rw [zbn 0 _ al _ id fun j' x' h3 h4 h5 h6=>by rw [ap.key j' i x' x id h3 hx h6 hid] at h4;simp at h4;exact hi h4]
 exact ap.fresh i x id hx hid
theorem SD_add2 (ap:Apart l m al s) (s0:ASt) {D D':Nat→Bool} {i:Nat} {o:Oper} {x:Add} (ho:(l.take m)[i]?=some o) (hx:al[i]?=some x) (hi:¬D i=true) (hD:∀j,D' j=true↔(D j=true∨j=i)) :
  (∀t,get (SD D' 0 (l.take m) al s0).env t=get ((SD D 0 (l.take m) al s0).add o.dst x).env t) ∧
  ∀id,look (SD D' 0 (l.take m) al s0).heap id=look ((SD D 0 (l.take m) al s0).add o.dst x).heap id:=by
 have hil:i<al.length:=(List.getElem?_eq_some_iff.1 hx).1
 have hil2:i<(l.take m).length:=(List.getElem?_eq_some_iff.1 ho).1
 refine ⟨fun t=>?_,fun id=>?_⟩
 ·rw [add_get]
  by_cases hd:o.dst=some t
  ·rw [if_pos hd]
   exact zbR 0 _ al _ t i o x ho hx hd (by simpa using (hD i).2 (.inr rfl)) fun j' o' h3 _ h4=>ap.dst j' i o' o t h3 ho h4 hd
  ·rw [if_neg hd]
   by_cases hex:∃(j:Nat) (o:Oper),(l.take m)[j]?=some o∧o.dst=some t∧D j=true
   ·obtain ⟨j,o1,h1,h2,h3⟩:=hex
    have hjl:j<al.length:=by rw [←ap.len];exact (List.getElem?_eq_some_iff.1 h1).1
    have hx1:al[j]?=some al[j]:=List.getElem?_eq_getElem hjl
    have hu:∀(j':Nat) (o':Oper),(l.take m)[j']?=some o'→j'<al.length→o'.dst=some t→j'=j:=fun j' o' h3 _ h4=>ap.dst j' j o' o1 t h3 h1 h4 h2
    rw [zbR 0 _ al _ t j o1 _ h1 hx1 h2 (by simpa using (hD j).2 (.inl h3)) hu,zbR 0 _ al _ t j o1 _ h1 hx1 h2 (by simpa using h3) hu]
   ·rw [zbr 0 _ al _ t fun j o1 h1 h2 h3 h4=>?_,zbr 0 _ al _ t fun j o1 h1 h2 h3 h4=>hex ⟨j,o1,h1,h4,by simpa using h2⟩]
    rcases (hD j).1 (by simpa using h2) with h5|h5
    ·exact hex ⟨j,o1,h1,h4,h5⟩
    ·subst h5;rw [ho] at h1;injection h1 with h1;subst h1;exact hd h4
 ·rw [add_look]
  by_cases hd:id∈x.blks.map (·.1)
  ·rw [if_pos hd]
   exact zcm 0 _ al _ id i x hil2 hx hd (by simpa using (hD i).2 (.inr rfl)) fun j' x' h3 h4=>ap.key j' i x' x id h3 hx h4 hd
  ·rw [if_neg hd]
   by_cases hex:∃(j:Nat) (x:Add),al[j]?=some x∧id∈x.blks.map (·.1)∧D j=true
   ·obtain ⟨j,x1,h1,h2,h3⟩:=hex
    have hjl:j<(l.take m).length:=by rw [ap.len];exact (List.getElem?_eq_some_iff.1 h1).1
    have hu:∀(j':Nat) (x':Add),al[j']?=some x'→id∈x'.blks.map (·.1)→j'=j:=fun j' x' h3 h4=>ap.key j' j x' x1 id h3 h1 h4 h2
    rw [zcm 0 _ al _ id j x1 hjl h1 h2 (by simpa using (hD j).2 (.inl h3)) hu,zcm 0 _ al _ id j x1 hjl h1 h2 (by simpa using h3) hu]
   ·rw [zbn 0 _ al _ id fun j x1 h1 h2 h3 h4=>?_,zbn 0 _ al _ id fun j x1 h1 h2 h3 h4=>hex ⟨j,x1,h1,h4,by simpa using h2⟩]
    rcases (hD j).1 (by simpa using h2) with h5|h5
    ·exact hex ⟨j,x1,h1,h4,h5⟩
    ·subst h5;rw [hx] at h1;injection h1 with h1;subst h1;exact hd h4
theorem ziw {sts:List StoreAt} (hst:staticOk l m=true) (hkeys:nodupB (keysOf al)=true) (hfr:∀id,id∈keysOf al→look s.heap id=none) (hok:StOk P l m al sts none s) (hob:Obs3 P l m sts al s 0 (l.take m) al)
  (hrest:AOps P l.toArray (l.drop m) (SD (fun _=>true) 0 (l.take m) al (lastS sts s)) Q) {U T:Nat→Prop} {w0:Base} {a:Act} {w:World} {hv:Nat→Value} (ok:Ok U T w0 s a w hv) :
  wpAny P .any l.toArray (Post U T w0 Q) l.toArray.size (Array.replicate l.toArray.size false) a w:=by
 simp only [staticOk,Bool.and_eq_true] at hst
 obtain ⟨⟨⟨hback,hsuf⟩,hm⟩,hdst⟩:=hst
 have hm':=Nat.le_of_ble_eq_true hm
 have ap:Apart l m al s:=by
  refine ⟨Obs3.length hob,fun i j o o' t h1 h2 h3 h4=>zer (zdQ hdst) i j o o' t h1 h2 h3 h4,fun i j x y id h1 h2 h3 h4=>zft (zdQ hkeys) i j x y id h1 h2 h3 h4,fun i x id h1 h2=>hfr id (List.mem_flatMap.2 ⟨x,List.mem_of_getElem? h1,h2⟩)⟩
 let B:(Nat→Bool)→ASt:=fun D=>phase D sts s
 have apB:∀D,Apart l m al (B D):=fun D=>phase_ap D sts none s ap hok
 have Bnt:∀D,(B D).nt=s.nt∧(B D).kp=s.kp:=fun D=>phase_nt D sts s
 have hbk:∀i o,l[i]?=some o→∀j,j∈Oper.edges o→j<i:=fun i o ho j hj=>by
  have h1:=List.all_eq_true.1 hback i (List.mem_range.2 (List.getElem?_eq_some_iff.1 ho).1)
  rw [ho] at h1
  have h2:=List.all_eq_true.1 h1 j hj
  simpa [Nat.blt_eq] using h2
 have hsf:∀i o,m≤i→l[i]?=some o→depsOk l i [] (List.range i).reverse=true:=fun i o hi ho=>by
  have h1:=List.all_eq_true.1 hsuf i (List.mem_range.2 (List.getElem?_eq_some_iff.1 ho).1)
  rw [Bool.or_eq_true] at h1
  rcases h1 with h1|h1
  ·have:i<m:=by simpa [Nat.blt_eq] using h1
   omega
  ·exact h1

 let Inv:Array Bool→Act→World→Prop:=fun listed a w =>
  (∀k o,l[k]?=some o→listed.getD k false=true→∀j,j∈Oper.edges o→listed.getD j false=true) ∧
  (((∀k,m≤k→listed.getD k false=false)∧∃hv,Ok U T w0 (SD (fun j=>listed.getD j false) 0 (l.take m) al (B fun j=>listed.getD j false)) a w hv) ∨
   ∃k,m≤k∧k≤l.length∧(∀j,j<l.length→(listed.getD j false=true↔j<k))∧wpList P l.toArray (Post U T w0 Q) (l.drop k) a w)

 have full:∀(listed:Array Bool) a w hv,(∀k,m≤k→listed.getD k false=false)→(∀k,k<m→listed.getD k false=true)→Ok U T w0 (SD (fun j=>listed.getD j false) 0 (l.take m) al (B fun j=>listed.getD j false)) a w hv→wpList P l.toArray (Post U T w0 Q) (l.drop m) a w:=by
  intro listed a w hv hno hyes ok
  have hB:(B fun j=>listed.getD j false)=lastS sts s:=phase_all _ sts none s hok hyes
  rw [hB] at ok
  refine hrest U T w0 a w hv (ok.equiv (by rw [(SD_nt _ _ _ _).1,(SD_nt _ _ _ _).1]) (by rw [(SD_nt _ _ _ _).2,(SD_nt _ _ _ _).2]) (fun t=>?_) (fun id=>?_))
  ·by_cases hex:∃(j:Nat) (o:Oper),(l.take m)[j]?=some o∧o.dst=some t
   ·obtain ⟨j,o,h1,h2⟩:=hex
    have hjl:j<al.length:=by rw [←ap.len];exact (List.getElem?_eq_some_iff.1 h1).1
    have hjm:j<m:=by have:=(List.getElem?_eq_some_iff.1 h1).1;rw [List.length_take] at this;omega
    have hx:al[j]?=some al[j]:=List.getElem?_eq_getElem hjl
    have hu:∀(j':Nat) (o':Oper),(l.take m)[j']?=some o'→j'<al.length→o'.dst=some t→j'=j:=fun j' o' h3 _ h4=>ap.dst j' j o' o t h3 h1 h4 h2
    rw [zbR 0 _ al _ t j o _ h1 hx h2 (by simp) hu,zbR 0 _ al _ t j o _ h1 hx h2 (by simpa using hyes j hjm) hu]
   ·have hn:∀(D:Nat→Bool) (j:Nat) (o:Oper),(l.take m)[j]?=some o→D (0+j)=true→j<al.length→o.dst≠some t:=fun D j o h1 _ _ h2=>hex ⟨j,o,h1,h2⟩
    rw [zbr 0 _ al _ t (hn _),zbr 0 _ al _ t (hn _)]
  ·by_cases hex:∃(j:Nat) (x:Add),al[j]?=some x∧id∈x.blks.map (·.1)
   ·obtain ⟨j,x,h1,h2⟩:=hex
    have hjl:j<(l.take m).length:=by rw [ap.len];exact (List.getElem?_eq_some_iff.1 h1).1
    have hjm:j<m:=by rw [List.length_take] at hjl;omega
    have hu:∀(j':Nat) (x':Add),al[j']?=some x'→id∈x'.blks.map (·.1)→j'=j:=fun j' x' h3 h4=>ap.key j' j x' x id h3 h1 h4 h2
    rw [zcm 0 _ al _ id j x hjl h1 h2 (by simp) hu,zcm 0 _ al _ id j x hjl h1 h2 (by simpa using hyes j hjm) hu]
   ·have hn:∀(D:Nat→Bool) (j:Nat) (x:Add),al[j]?=some x→D (0+j)=true→j<(l.take m).length→id∉x.blks.map (·.1):=fun D j x h1 _ _ h2=>hex ⟨j,x,h1,h2⟩
    rw [zbn 0 _ al _ id (hn _),zbn 0 _ al _ id (hn _)]
 have key:∀fuel (listed:Array Bool) a w,listed.size=l.length→unl l.length listed≤fuel→Inv listed a w→wpAny P .any l.toArray (Post U T w0 Q) fuel listed a w:=by
  intro fuel

  have done:∀(listed:Array Bool) a w,listed.size=l.length→Inv listed a w→Region.ready .any l.toArray listed=[]→Post U T w0 Q .normal a w:=by
   intro listed a w hs hinv hr
   have hall:∀n,n≤l.length→∀j,j<n→listed.getD j false=true:=by
    intro n
    induction n with
    | zero=>intro _ j hj;omega
    | succ n ih =>
     intro hn j hj
     by_cases hjn:j<n
     ·exact ih (by omega) j hjn
     ·have hj2:j=n:=by omega
      subst hj2
      cases hg:listed.getD j false with
      | true=>rfl
      | false =>
       exfalso
       have hjl:j<l.length:=by omega
       have ho:l[j]?=some l[j]:=List.getElem?_eq_getElem hjl
       have:j∈Region.ready .any l.toArray listed:=mem_ready.2 ⟨by simpa [Array.getD,hs,hjl] using hg,l[j],by simp [hjl],fun e he hb=>ih (by omega) _ (hbk j _ ho _ (edges_mem he hb))⟩
       rw [hr] at this
       cases this
   have hall':=hall l.length (Nat.le_refl _)
   obtain ⟨_,⟨hno,hv,ok⟩|⟨k,h1,h2,h3,h4⟩⟩:=hinv
   ·have hml:m=l.length:=by
     rcases Nat.lt_or_ge m l.length with h|h
     ·have:=hno m (Nat.le_refl _);rw [hall' m h] at this;cases this
     ·omega
    have:=full listed a w hv hno (fun k hk=>hall' k (by omega)) ok
    rw [hml,List.drop_length] at this
    exact this
   ·have hk:k=l.length:=by
     rcases Nat.lt_or_ge k l.length with h|h
     ·have:=(h3 k h).1 (hall' k h);omega
     ·omega
    rw [hk,List.drop_length] at h4
    exact h4
  induction fuel with
  | zero =>
   intro listed a w hs hu hinv
   have hr:Region.ready .any l.toArray listed=[]:=by
    cases hr:Region.ready .any l.toArray listed with
    | nil=>rfl
    | cons i r =>
     exfalso
     have hi:i∈Region.ready .any l.toArray listed:=by rw [hr];simp
     obtain ⟨h1,o,h2,h3⟩:=mem_ready.1 hi
     obtain ⟨h4,h5⟩:=zeZ hs h1
     have hmem:i∈(List.range l.length).filter fun j=>!listed.getD j false:=List.mem_filter.2 ⟨List.mem_range.2 h4,by rw [h5];rfl⟩
     have hpos:=List.length_pos_of_mem hmem
     unfold unl at hu
     omega
   exact ⟨hr,done listed a w hs hinv hr⟩
  | succ fuel ih =>
   intro listed a w hs hu hinv
   refine ⟨done listed a w hs hinv,fun i hi=>?_⟩
   obtain ⟨h1,o,h2,h3⟩:=mem_ready.1 hi
   obtain ⟨hil,hi0⟩:=zeZ hs h1
   have ho:l[i]?=some o:=by simpa using h2
   have hs':(listed.setIfInBounds i true).size=l.length:=by simpa using hs
   have hu':unl l.length (listed.setIfInBounds i true)≤fuel:=by have:=unl_set hs hil hi0;omega
   have hset:∀j,(listed.setIfInBounds i true).getD j false=true↔(listed.getD j false=true∨j=i):=fun j=>by
    by_cases hij:i=j
    ·subst hij
     have:(listed.setIfInBounds i true).getD i false=true:=by simp [Array.getD,hs,hil]
     exact ⟨fun _=>.inr rfl,fun _=>this⟩
    ·rw [getD_set_ne false hij]
     exact ⟨.inl,fun h=>h.resolve_right (Ne.symm hij)⟩
   obtain ⟨hcl,hcase⟩:=hinv
   have hedge:∀j,j∈Oper.edges o→listed.getD j false=true:=fun j hj=>by
    obtain ⟨e,he,hb,hon⟩:=mem_edges hj
    rw [←hon]
    exact h3 e he hb
   have hearl:m≤i→∀j,j<i→listed.getD j false=true:=fun hmi j hj=>zdJ (D:=fun j=>listed.getD j false) (fun k o' hk hor j hj=>by
    rcases hor with hl|rfl
    ·exact hcl k o' hk hl j hj
    ·rw [ho] at hk;injection hk with hk;subst hk;exact hedge j hj) [] _ (fun j hj=>by cases hj) (hsf i o hmi ho) j (by simpa using hj)
   have hcl':∀k o',l[k]?=some o'→(listed.setIfInBounds i true).getD k false=true→∀j,j∈Oper.edges o'→(listed.setIfInBounds i true).getD j false=true:=fun k o' hk hl j hj=>by
    rw [hset] at hl ⊢
    rcases hl with hl|hl
    ·exact .inl (hcl k o' hk hl j hj)
    ·subst hl;rw [ho] at hk;injection hk with hk;subst hk;exact .inl (hedge j hj)

   have step2:∀k,m≤k→(∀j,j<l.length→(listed.getD j false=true↔j<k))→wpList P l.toArray (Post U T w0 Q) (l.drop k) a w→wpOp P l.toArray (Post U T w0 Q) i (wpAny P .any l.toArray (Post U T w0 Q) fuel (listed.setIfInBounds i true)) a w:=by
    intro k hk hiff hwp
    have hik:i=k:=by
     have h4:¬i<k:=fun h=>by have:=(hiff i hil).2 h;rw [hi0] at this;cases this
     rcases Nat.lt_or_ge k i with h5|h5
     ·have:=(hiff k (by omega)).1 (hearl (by omega) k h5);omega
     ·omega
    subst hik
    have hdrop:l.drop i=o::l.drop (i+1):=by
     rw [List.drop_eq_getElem_cons hil]
     congr 1
     have:=List.getElem?_eq_getElem hil
     rw [ho] at this
     injection this with this
     exact this.symm
    rw [hdrop] at hwp
    unfold wpOp
    rw [h2]
    simp only
    have next:∀a w,wpList P l.toArray (Post U T w0 Q) (l.drop (i+1)) a w→wpAny P .any l.toArray (Post U T w0 Q) fuel (listed.setIfInBounds i true) a w:=fun a w hwp=>by
     refine ih _ a w hs' hu' ⟨hcl',.inr ⟨i+1,by omega,by omega,fun j hj=>?_,hwp⟩⟩
     rw [hset,hiff j hj]
     omega
    unfold wpList at hwp
    split
    ·rename_i hw
     rw [if_pos hw] at hwp
     exact hwp.imp (Oper.wp_mono next) id
    ·rename_i hw
     rw [if_neg hw] at hwp
     exact next _ _ hwp
   rcases hcase with ⟨hno,hv,ok⟩|⟨k,hk1,hk2,hiff,hwp⟩
   ·by_cases him:i<m
    ·
     have hot:(l.take m)[i]?=some o:=by rw [List.getElem?_take,if_pos him];exact ho
     obtain ⟨x,hx,hcase⟩:=Obs3.at hob hot
     rw [Nat.zero_add] at hcase
     unfold wpOp
     rw [h2]
     simp only
     cases hie:isSt sts i with
     | true =>

      obtain ⟨Ke,bx,cs',oe,X,hKl,hid,hxe,hoe,hge,hde,hev,hBB⟩:=zhK (P:=P) (D:=fun j=>listed.getD j false) (D':=fun j=>(listed.setIfInBounds i true).getD j false) hcl (by simp [hi0]) (fun o' ho' j hj=>by rw [ho] at ho';injection ho' with ho';subst ho';exact hedge j hj) hset sts none s hok hie
      rw [ho] at hoe
      injection hoe with hoe
      subst hoe
      have hle:=SD_le2 (apB fun j=>listed.getD j false) (D:=memB Ke) (D':=fun j=>listed.getD j false) (H:=hidden l m []) (fun j hj=>hKl j (memB_mem hj)) fun j o' t h1 h2 _=>.inr (List.mem_filter.2 ⟨List.mem_filterMap.2 ⟨o',List.mem_of_getElem? h1,h2⟩,rfl⟩)
      have next:∀a w hv,Ok U T w0 ((SD (fun j=>listed.getD j false) 0 (l.take m) al (B fun j=>listed.getD j false)).setB bx (some (.box cs'))) a w hv→wpAny P .any l.toArray (Post U T w0 Q) fuel (listed.setIfInBounds i true) a w:=fun a w hv ok=>by
       refine ih _ a w hs' hu' ⟨hcl',.inl ⟨fun k hk=>?_,hv,?_⟩⟩
       ·cases hg:(listed.setIfInBounds i true).getD k false with
        | false=>rfl
        | true =>
         rcases (hset k).1 hg with h5|h5
         ·rw [hno k hk] at h5;cases h5
         ·omega
       ·have hBB':(B fun j=>(listed.setIfInBounds i true).getD j false)=(B fun j=>listed.getD j false).setB bx (some (.box cs')):=hBB
        rw [hBB']
        obtain ⟨e1,e2⟩:=SD_add2 (apB fun j=>listed.getD j false) (B fun j=>listed.getD j false) (D:=fun j=>listed.getD j false) (D':=fun j=>(listed.setIfInBounds i true).getD j false) hot hx (by simp [hi0]) hset
        obtain ⟨e3,e4⟩:=SD_setB (D:=fun j=>(listed.setIfInBounds i true).getD j false) (id:=bx) (b:=some (.box cs')) 0 (l.take m) al (B fun j=>listed.getD j false) ((B fun j=>listed.getD j false).setB bx (some (.box cs'))) (keys_no hid) (fun t=>rfl) (fun j=>by show look ((bx,_)::_) j=_;rw [look_cons])
        have hxb:x.blks=[]:=by simpa using hxe x hx
        refine ok.equiv (by rw [(SD_nt _ _ _ _).1];exact ((SD_nt 0 (l.take m) al (B fun j=>listed.getD j false)).1:(SD (fun j=>listed.getD j false) 0 (l.take m) al (B fun j=>listed.getD j false)).nt=_).symm) (by rw [(SD_nt _ _ _ _).2];exact ((SD_nt 0 (l.take m) al (B fun j=>listed.getD j false)).2:(SD (fun j=>listed.getD j false) 0 (l.take m) al (B fun j=>listed.getD j false)).kp=_).symm) (fun t=>?_) fun j=>?_
        ·rw [e3,e1,add_get,hde,if_neg (by simp)];rfl
        ·rw [e4,e2,add_look,hxb]
         show _=look ((bx,_)::_) j
         rw [look_cons]
         simp
      rw [if_pos (by simp [Region.wanted,hge])]
      exact .inl (hev _ hle U T w0 a w hv ok _ _ fun s' v w' hv' hs ok' _=>by
       subst hs
       rw [hde] at ok' ⊢
       exact next _ _ hv' ok')
     | false =>
      obtain ⟨deps,un,hdeps,hun,hph⟩:=hcase.resolve_left (by rw [hie];simp)
      have hdl:=zdJ (D:=fun j=>listed.getD j false) (fun k o' hk hor j hj=>by
       rcases hor with hl|rfl
       ·exact hcl k o' hk hl j hj
       ·rw [ho] at hk;injection hk with hk;subst hk;exact hedge j hj) [] deps (fun j hj=>by cases hj) hdeps
      have hle:=SD_le2 (apB fun j=>listed.getD j false) (D:=memB deps) (D':=fun j=>listed.getD j false) (H:=hidden l m un) (fun j hj=>hdl j (memB_mem hj)) fun j o' t h1 h2 h3=>by
       refine .inr (List.mem_filter.2 ⟨List.mem_filterMap.2 ⟨o',List.mem_of_getElem? h1,h2⟩,?_⟩)
       cases hm:memB un t with
       | false=>rfl
       | true =>
        exfalso
        have h4:=List.all_eq_true.1 (List.all_eq_true.1 hun t (memB_mem hm)) o' (List.mem_of_getElem? h1)
        rw [h2,Bool.or_eq_true] at h4
        rcases h4 with h4|h4
        ·simp at h4
        ·have h5:l[j]?=some o':=by rw [List.getElem?_take] at h1;split at h1;exact h1;cases h1
         have:=hcl j o' h5 h3 i (List.contains_iff_mem.1 h4)
         rw [hi0] at this;cases this
      have hfresh:=SD_fresh2 (apB fun j=>listed.getD j false) (D:=fun j=>listed.getD j false) hx (by simp [hi0])
      have hob':Ob P l.toArray (SD (fun j=>listed.getD j false) 0 (l.take m) al (B fun j=>listed.getD j false)) o x:=phase_ob (D:=fun j=>listed.getD j false) hcl (by simp [hi0]) hdl sts none [] s hok hph (fun j hj=>by cases hj) hle hfresh
      obtain ⟨e1,e2⟩:=SD_add2 (apB fun j=>listed.getD j false) (B fun j=>listed.getD j false) (D:=fun j=>listed.getD j false) (D':=fun j=>(listed.setIfInBounds i true).getD j false) hot hx (by simp [hi0]) hset
      have hBB:(B fun j=>(listed.setIfInBounds i true).getD j false)=(B fun j=>listed.getD j false):=zhz hset sts s hie
      have next:∀a w hv,Ok U T w0 ((SD (fun j=>listed.getD j false) 0 (l.take m) al (B fun j=>listed.getD j false)).add o.dst x) a w hv→wpAny P .any l.toArray (Post U T w0 Q) fuel (listed.setIfInBounds i true) a w:=fun a w hv ok=>by
       refine ih _ a w hs' hu' ⟨hcl',.inl ⟨fun k hk=>?_,hv,?_⟩⟩
       ·cases hg:(listed.setIfInBounds i true).getD k false with
        | false=>rfl
        | true =>
         rcases (hset k).1 hg with h5|h5
         ·rw [hno k hk] at h5;cases h5
         ·omega
       ·rw [hBB]
        exact ok.equiv (by rw [(SD_nt _ _ _ _).1,(add_nt _ _ _).1,(SD_nt _ _ _ _).1]) (by rw [(SD_nt _ _ _ _).2,(add_nt _ _ _).2,(SD_nt _ _ _ _).2]) e1 e2
      rcases hob' with ⟨hwant,hev⟩|⟨hwant,rfl,hd⟩
      ·rw [if_pos (hwant.wanted ok.m)]
       exact .inl (hev U T w0 a w hv ok _ _ fun s' v w' hv' hs ok' _=>next _ _ hv' (hs▸ok'))
      ·rw [if_neg (by rw [hwant.wanted ok.m];simp)]
       refine next _ _ hv ?_
       have:=ok.next (Fr.refl (fun _=>False) w) (fun _ e=>e.elim) (fun _ id _=>Pass.refl _ _ id) (fun id _=>Pass.refl _ _ id) ok.m.hm (fun _ h _=>h) (d:=o.dst) (r:=.tup []) (v:=undef) ⟨[],rfl,.nil⟩ hd
       exact this
    ·
     have hyes:∀k,k<m→listed.getD k false=true:=fun k hk=>hearl (by omega) k (by omega)
     refine step2 m (Nat.le_refl _) (fun j hj=>⟨fun h=>?_,fun h=>hyes j h⟩) (full listed a w hv hno hyes ok)
     rcases Nat.lt_or_ge j m with h5|h5
     ·exact h5
     ·rw [hno j h5] at h;cases h
   ·exact step2 k hk1 hiff hwp
 refine key _ _ a w (by simp) ?_ ⟨fun k o _ h=>?_,.inl ⟨fun k _=>?_,hv,?_⟩⟩
 ·unfold unl
  have:=List.length_filter_le (fun j=>!(Array.replicate l.toArray.size false).getD j false) (List.range l.length)
  simpa using this
 ·exfalso;simp [Array.getD] at h
 ·simp [Array.getD]
 ·have hB:(B fun j=>(Array.replicate l.toArray.size false).getD j false)=s:=zhZ _ sts s (by simp [Array.getD])
  rw [hB]
  refine ok.equiv (SD_nt _ _ _ _).1 (SD_nt _ _ _ _).2 (fun t=>zbr 0 _ al _ t fun j o' _ h4 _ _=>?_) fun id=>zbn 0 _ al _ id fun j x' _ h4 _ _=>?_
  ·simp [Array.getD] at h4
  ·simp [Array.getD] at h4
theorem zhQ {ri:Nat} (m:Nat) (sts:List StoreAt) (al:List Add) (hmix:P.follows .mixedOrders=true) (hst:(staticOk l m&&noDefer l)=true) (hkeys:nodupB (keysOf al)=true) (hfr:(keysOf al).all (fun id=>(look s.heap id).isNone)=true)
  (hob:Obs3 P l m sts al s 0 (l.take m) al) (hok:StOk P l m al sts none s)
  (hrest:AOps P l.toArray (l.drop m) (SD (fun _=>true) 0 (l.take m) al (lastS sts s)) Q):AW P (.region ri l.toArray true) s Q:=fun n r U T w0 a w hv ok mk=>by
 rw [Bool.and_eq_true] at hst
 exact wpIn_region_any hmix (any_in (ds:=a.defers) (a:=bare a) (fun e a' w' h'=>post_in ok mk h') post_calm (zgN hst.2) _ _ _ (ziw hst.1 hkeys (fun id hid=>by simpa using List.all_eq_true.1 hfr id hid) hok hob hrest (by
  have:=ok.base.next (w':=w.drew) (Fr.drew (fun _=>False) w) (fun _ e=>e.elim) (fun _ id _=>Pass.refl _ _ id) (fun id _=>Pass.refl _ _ id) (ok.m.hm.keep (Fr.drew _ w)) (fun _ h _=>h) (d:=none) (r:=.one .any) (v:=undef) trivial rfl
  exact this)))
end
end Abs
end Go.Proofs.YtclffekkjfhpdaaGreat
namespace Go.Proofs.YtclffekkjfhpdaaGreat
open Go.ChangeShapes Go.WideShapes Go.RowKit
set_option linter.unusedVariables false
set_option linter.unusedSimpArgs false
namespace Abs
section
variable {P:Program} {s:ASt} {d:Option Nat} {ty t:TypeId} {pos:String} {af:Array Edge} {g:Option (Nat×Bool)} {x y c:Operand} {id off n sz:Nat} {e:TypeId}
theorem zfn {el:Nat→List CV} {j o nn:Nat} {ds:List CV} (hx:s.ev x=.one (.rptr id sz j o)) (hb:look s.heap id=some (.row e sz n el)) (hj:j<n) [kk:TVar P t true nn] (hds:((el j).drop o).take nn=ds) (hl:Nat.beq ds.length nn=true) (hd:dOk s d=true):Ev P [] s ⟨d,.load t x,ty,pos,af,g⟩ (· = s.put d (.agg ds)) :=
 ev_of_run hd fun U a w hv m=>by
  have hl:=Nat.eq_of_beq_eq_true hl
  have hr:=m.ev x
  rw [hx] at hr
  obtain ⟨_,b,n',c',h1,h2⟩:=hr
  obtain ⟨vs,h3,h4,h5⟩:=m.hm.blk id _ hb
  have hcell:∀q c,ds[q]?=some c→∃u,vs[j*sz+(o+q)]?=some u∧RepC (fun b=>U b∨mine s.heap hv b) w c u:=fun q c hq=>by
   rw [←hds,List.getElem?_take] at hq
   split at hq
   ·rw [List.getElem?_drop] at hq
    exact h5 j (o+q) c hj hq
   ·cases hq
  let us:List Value:=(List.range nn).map fun q=>vs.getD (j*sz+(o+q)) undef
  have hus:∀(q:Nat) (u:Value),us[q]?=some u→vs[j*sz+(o+q)]?=some u:=fun q u hq=>by
   have hqn:q<nn:=by
    have:=(List.getElem?_eq_some_iff.1 hq).1
    simpa [us] using this
   obtain ⟨u',h6,_⟩:=hcell q ds[q] (List.getElem?_eq_getElem (by omega))
   simp only [us,List.getElem?_map,List.getElem?_range hqn,Option.map_some,Option.some.injEq] at hq
   rw [←hq,List.getD_eq_getElem?_getD,h6]
   rfl
  have hat:CellsAt w (a.eval x) us:=by
   refine ⟨b,j*sz+o,h2,fun q u hq=>?_⟩
   have h8:=h3.cells (g:=b) (by rw [h1];rfl) _ _ (hus q u hq)
   rw [add_at,Nat.zero_add] at h8
   rw [Nat.add_assoc]
   exact h8
  obtain ⟨u,h6,h7,_⟩:=zfh (P:=P) (t:=t) (agg:=true) (n:=nn) hat (by simp [us]) (fun e=>by cases e)
  refine ⟨u,w,?_,Fr.refl _ _,?_⟩
  ·simp only [execOp,Sem.run_bind,h6,Result.andThen_ok,Sem.run_pure]
  ·rw [h7 rfl]
   refine ⟨us,rfl,All2.of (by simp [us,hl]) fun q c hq=>?_⟩
   obtain ⟨v,h8,h9⟩:=hcell q c hq
   have hqn:q<nn:=by have:=(List.getElem?_eq_some_iff.1 hq).1;omega
   refine ⟨v,?_,rep_of_c h9⟩
   simp only [us,List.getElem?_map,List.getElem?_range hqn,Option.map_some,Option.some.injEq]
   rw [List.getD_eq_getElem?_getD,h8]
   rfl
end
end Abs
end Go.Proofs.YtclffekkjfhpdaaGreat
namespace Go.Proofs.YtclffekkjfhpdaaGreat
open Go.ChangeShapes Go.WideShapes Go.RowKit
set_option linter.unusedVariables false
set_option linter.unusedSimpArgs false
namespace Abs
abbrev cI (n:Int):CV:=.val (.int .i64 n)
abbrev cB (b:Bool):CV:=.val (.bool b)
abbrev vI (n:Int):AV:=.one (.val (.int .i64 n))
abbrev vB (b:Bool):AV:=.one (.val (.bool b))
theorem Le.e {s S:ASt} (h:Le s S) {x:Operand} {r:AV} (hx:s.ev x=r) (hr:r≠.one .any:=by nofun):S.ev x=r:=h.ev hx hr
def boxesH:Nat→List (List CV)→Heap
 | _,[]=>[]
 | i,cs::r=>(i,some (.box cs))::boxesH (i+1) r
theorem zeR:∀(i:Nat) (bs:List (List CV)) (j:Nat),look (boxesH i bs) j=if i≤j then (bs[j - i]?).map Blk.box else none
 | i,[],j=>by simp [boxesH,look]
 | i,cs::r,j=>by
  show look ((i,some (.box cs))::boxesH (i+1) r) j=_
  rw [look_cons,zeR (i+1) r j]
  by_cases h:i=j
  ·subst h;simp
  ·rw [if_neg h]
   by_cases h2:i≤j
   ·rw [if_pos (by omega),if_pos h2,show j - i=(j - (i+1))+1 by omega,List.getElem?_cons_succ]
   ·rw [if_neg (by omega),if_neg h2]
def noIds (cs:List CV):Bool:=cs.all fun c=>c.ids.isEmpty
theorem ren_noId {g:Nat→Nat}:∀(c:CV),c.ids.isEmpty=true→c.ren g=c:=fun c h=>by
 cases c with
 | fn f caps =>
  have hc:caps.map (capRen g)=caps:=by
   have h0:caps.flatMap capIds=[]:=List.isEmpty_iff.1 h
   clear h
   induction caps with
   | nil=>rfl
   | cons x xs ih =>
    rw [List.flatMap_cons,List.append_eq_nil_iff] at h0
    rw [List.map_cons,ih h0.2]
    congr 1
    cases x<;>first|rfl|(simp [capIds] at h0)
  show CV.fn f (caps.map (capRen g))=_
  rw [hc]
 | own i=>simp [CV.ids] at h
 | ptr i o=>simp [CV.ids] at h
 | rptr i sz j o=>simp [CV.ids] at h
 | itp i=>simp [CV.ids] at h
 | _=>rfl
theorem ren_noIds {g:Nat→Nat} {cs:List CV} (h:noIds cs=true):cs.map (CV.ren g)=cs:=by
 induction cs with
 | nil=>rfl
 | cons c cs ih =>
  rw [noIds,List.all_cons,Bool.and_eq_true] at h
  rw [List.map_cons,ren_noId c h.1,ih h.2]
theorem ids_noIds {cs:List CV} (h:noIds cs=true):(Blk.box cs).ids=[]:=by
 show cs.flatMap CV.ids=[]
 induction cs with
 | nil=>rfl
 | cons c cs ih =>
  rw [noIds,List.all_cons,Bool.and_eq_true] at h
  rw [List.flatMap_cons,List.isEmpty_iff.1 h.1,ih h.2]
  rfl
section
variable {P:Program} {s:ASt} {Q:Exit→ASt→Prop}
theorem ret_b {fn:Func} {r r0:AV} {bs:List (List CV)} (hres:Res P fn s r0) (hk:s.kp=List.range bs.length) (hi:r.ids.isEmpty=true) (hr:r.ren (fun i=>i)=r) (hno:bs.all noIds=true) (hb:(bs.zipIdx.all fun p=>true)=true) (hl:∀i cs,bs[i]?=some cs→look s.heap i=some (.box cs)) (hle:TLe r0 r):RetOk P fn (Det r (boxesH 0 bs)) s:=by
 have hlook:∀id b,look (boxesH 0 bs) id=some b→∃cs,bs[id]?=some cs∧b=.box cs:=fun id b h=>by
  rw [zeR] at h
  simp only [Nat.zero_le,if_true,Nat.sub_zero,Option.map_eq_some_iff] at h
  obtain ⟨cs,h1,h2⟩:=h
  exact ⟨cs,h1,h2.symm⟩
 refine ⟨r,boxesH 0 bs,fun i=>i,r0,hres,by rw [hr];exact hle,⟨rfl,rfl⟩,⟨fun id hid=>?_,fun id b h=>?_,fun i j _ _ h=>h⟩,fun id hid=>⟨rfl,?_⟩⟩
 ·rw [List.isEmpty_iff.1 hi] at hid;cases hid
 ·obtain ⟨cs,h1,rfl⟩:=hlook id b h
  have hn:=List.all_eq_true.1 hno cs (List.mem_of_getElem? h1)
  refine ⟨?_,fun j hj=>?_⟩
  ·rw [hl id cs h1]
   show _=some (Blk.box (cs.map (CV.ren fun i=>i)))
   rw [ren_noIds hn]
  ·rw [ids_noIds hn] at hj;cases hj
 ·rw [hk] at hid
  have hlt:=List.mem_range.1 hid
  refine ⟨bs[id],?_⟩
  rw [zeR]
  simp [hlt]
def setAll:List Nat→List (List CV)→Heap→Heap
 | i::r,cs::bs,h=>(i,some (.box cs))::setAll r bs h
 | _,_,h=>h
theorem zhN:∀(ρ:List Nat) (bs:List (List CV)) (h:Heap) (j:Nat),ρ.length=bs.length→look (setAll ρ bs h) j=if j∈ρ then (bs[ρ.idxOf j]?).map Blk.box else look h j
 | [],bs,h,j,_=>by cases bs<;>simp [setAll]
 | i::ρ,[],h,j,hl=>by simp at hl
 | i::ρ,cs::bs,h,j,hl=>by
  show look ((i,some (.box cs))::setAll ρ bs h) j=_
  rw [look_cons,zhN ρ bs h j (by simpa using hl)]
  by_cases hij:i=j
  ·subst hij;simp
  ·rw [if_neg hij]
   have hji:¬j=i:=fun e=>hij e.symm
   have hbq:(i==j)=false:=by simpa using hij
   by_cases hm:j∈ρ
   ·rw [if_pos hm,if_pos (by simp [hm]),List.idxOf_cons,hbq]
    simp
   ·rw [if_neg hm,if_neg (by simp [hm,hji])]
theorem ev_call_b {f:FuncId} [hF:IsFn P f] {d:Option Tmp} {ty:TypeId} {pos:String} {af:Array Edge} {g:Option (Nat×Bool)} (ρ:List Nat) {bs bs':List (List CV)} {args:List Operand} {tys:Array TypeId} {cargs xs:List AV} {r:AV} (hfn:FnC P f cargs (boxesH 0 bs) (Det r (boxesH 0 bs'))) (hxs:args.map s.ev=xs) (L:List Nat) (hargs:All2 (ArgV s.heap (gOf ρ) L) xs cargs)
  (hρ:nodupB ρ=true) (hlen:ρ.length=bs.length) (hlen':bs'.length=bs.length) (hno:bs.all noIds=true) (hno':bs'.all noIds=true) (hal:(cargs.all fun x=>x.ids.all fun id=>Nat.blt id bs.length)=true) (hbox:All2 (fun id cs=>look s.heap id=some (.box cs)) ρ bs) (hlr:(L.all fun id=>!memB ρ id)=true)
  (hr:r.ids.isEmpty=true) (hren:r.ren (gOf ρ)=r) (hL:L=[]∨(r.scal=true∧(bs'.all fun cs=>cs.all CV.scal)=true)) (hd:dOk s d=true) :
  Ev P [] s ⟨d,.call { callee:=.value (.func f),args:=args.toArray,argTypes:=tys },ty,pos,af,g⟩ (· = ASt.put { s with heap:=setAll ρ bs' s.heap } d r):=by
 subst hxs
 have hlk:∀(cs0:List (List CV)) id b,look (boxesH 0 cs0) id=some b→∃cs,cs0[id]?=some cs∧b=.box cs:=fun cs0 id b h=>by
  rw [zeR] at h
  simp only [Nat.zero_le,if_true,Nat.sub_zero,Option.map_eq_some_iff] at h
  obtain ⟨cs,h1,h2⟩:=h
  exact ⟨cs,h1,h2.symm⟩
 have hsome:∀(cs0:List (List CV)) id,(look (boxesH 0 cs0) id).isSome=true→id<cs0.length:=fun cs0 id h=>by
  obtain ⟨b,hb⟩:=Option.isSome_iff_exists.1 h
  obtain ⟨cs,h1,_⟩:=hlk cs0 id b hb
  exact (List.getElem?_eq_some_iff.1 h1).1
 have hnd:=zdQ hρ
 have k:CallOk s ρ L [] (args.map s.ev) cargs (boxesH 0 bs) (Det r (boxesH 0 bs')):=by
  refine ⟨hnd,hargs,fun x hx id hid=>?_,fun id b h=>?_,fun i hi h=>?_,fun id hid hm=>?_,fun id hid=>(by cases hid),?_⟩
  ·have h1:=List.all_eq_true.1 (List.all_eq_true.1 hal x hx) id hid
   have h2:id<bs.length:=by simpa [Nat.blt_eq] using h1
   rw [zeR]
   simp [h2]
  ·obtain ⟨cs,h1,rfl⟩:=hlk bs id b h
   have hlt:=(List.getElem?_eq_some_iff.1 h1).1
   have hn:=List.all_eq_true.1 hno cs (List.mem_of_getElem? h1)
   have hρi:ρ[id]?=some (gOf ρ id):=by
    have:id<ρ.length:=by omega
    simp [gOf,List.getD,this]
   obtain ⟨cs1,h2,h3⟩:=hbox.get hρi
   rw [h1] at h2
   injection h2 with h2
   subst h2
   refine ⟨by omega,?_,fun j hj=>?_,fun ⟨_,_,_,_,e⟩=>?_,fun ⟨_,_,e⟩=>by (rw [h] at e;cases e)⟩
   ·rw [h3]
    show _=some (Blk.box (cs.map (CV.ren (gOf ρ))))
    rw [ren_noIds hn]
   ·rw [ids_noIds hn] at hj;cases hj
   ·rw [h] at e;cases e
  ·rw [zeR] at h
   have:i<bs.length:=by omega
   simp [this] at h
  ·have h1:=List.all_eq_true.1 hlr id hid
   have h2:memB ρ id=true:=List.any_eq_true.2 ⟨id,hm,Nat.beq_refl id⟩
   rw [h2] at h1;cases h1
  ·rintro r' h' ⟨rfl,rfl⟩
   refine ⟨fun id h=>by have:=hsome bs' id h;omega,fun id hid=>?_,fun id b h j hj=>?_,?_⟩
   ·rw [List.isEmpty_iff.1 hr] at hid;cases hid
   ·obtain ⟨cs,h1,rfl⟩:=hlk bs' id b h
    rw [ids_noIds (List.all_eq_true.1 hno' cs (List.mem_of_getElem? h1))] at hj;cases hj
   ·refine hL.imp (fun x=>x) fun h=>⟨h.1,fun id b hb=>?_⟩
    obtain ⟨cs,h1,rfl⟩:=hlk bs' id b hb
    exact List.all_eq_true.1 h.2 cs (List.mem_of_getElem? h1)
 refine fun U T w0 a w hv ok K Q hK=>ev_call (P:=P) (d:=d) (ty:=ty) (pos:=pos) (af:=af) (g:=g) (tys:=tys) ρ L [] hfn k hd U T w0 a w hv ok K Q fun s' v w' hv' hs ok' hh=>?_
 obtain ⟨r',h',⟨rfl,rfl⟩,rfl⟩:=hs
 refine hK _ v w' hv' rfl (ok'.equiv ?_ ?_ (fun t=>?_) fun id=>?_) hh
 ·cases d<;>rfl
 ·cases d<;>rfl
 ·show get (ASt.put { s with heap:=setAll ρ bs' s.heap } d r').env t=get (ASt.put { s with heap:=backHeap ρ (boxesH 0 bs')++s.heap } d (r'.ren (gOf ρ))).env t
  rw [hren]
  cases d<;>rfl
 ·have e1:(ASt.put { s with heap:=setAll ρ bs' s.heap } d r').heap=setAll ρ bs' s.heap:=by cases d<;>rfl
  have e2:(callEnd s ρ [] d r' (boxesH 0 bs')).heap=backHeap ρ (boxesH 0 bs')++s.heap:=by unfold callEnd;cases d<;>rfl
  rw [e1,e2,look_back hnd,zhN ρ bs' s.heap id (by omega)]
  by_cases hm:id∈ρ
  ·rw [if_pos hm,if_pos hm,zeR]
   simp only [Nat.zero_le,if_true,Nat.sub_zero]
   cases hc:bs'[ρ.idxOf id]? with
   | none=>rfl
   | some cs =>
    have hn:=List.all_eq_true.1 hno' cs (List.mem_of_getElem? hc)
    show some (Blk.box cs)=some (Blk.box (cs.map (CV.ren (gOf ρ))))
    rw [ren_noIds hn]
  ·rw [if_neg hm,if_neg hm]
end
end Abs
end Go.Proofs.YtclffekkjfhpdaaGreat

