import Derived.Test.YtclffekkjfhpdaaGreatQAbsO
import Derived.Test.YtclffekkjfhpdaaGreatQAbsN
import Derived.Test.YtclffekkjfhpdaaGreatQKit
namespace Go.Proofs.YtclffekkjfhpdaaGreat
open Go.ChangeShapes Go.WideShapes Go.RowKit
set_option linter.unusedVariables false
set_option linter.unusedSimpArgs false
namespace Abs
section
variable {h:Heap} {hv:Nat→Value} {A:Nat→Prop} {w:World}
theorem All2.of_mem {α β:Type} {R:α→β→Prop}:∀{xs:List α} {ys:List β},All2 R xs ys→∀x,x∈xs→∃y,R x y
 | _,_,.cons a t,x,hx=>by
  rcases List.mem_cons.1 hx with rfl|hx
  ·exact ⟨_,a⟩
  ·exact All2.of_mem t x hx
theorem RepP.alive {c:CV} {v:Value} (hr:RepP h hv A w c v) {id:Nat} (hid:id∈capIds c):∃b,look h id=some b:=by
 cases c with
 | own i=>simp [capIds] at hid;subst hid;obtain ⟨⟨_,_,_,_,hl⟩,_⟩:=hr;exact ⟨_,hl⟩
 | ptr i o=>simp [capIds] at hid;subst hid;obtain ⟨⟨_,hl⟩,_⟩:=hr;exact ⟨_,hl⟩
 | rptr i sz j o=>simp [capIds] at hid;subst hid;obtain ⟨⟨_,_,_,_,hl⟩,_⟩:=hr;exact ⟨_,hl⟩
 | itp i=>simp [capIds] at hid;subst hid;obtain ⟨⟨_,_,hl⟩,_⟩:=hr;exact ⟨_,hl⟩
 | _=>simp [capIds] at hid
theorem RepT.alive {c:CV} {v:Value} (hr:RepT h hv A w c v) {id:Nat} (hid:id∈c.ids):∃b,look h id=some b:=by
 cases c with
 | own i=>exact RepP.alive (A:=A) (w:=w) (c:=.own i) hr hid
 | ptr i o=>exact RepP.alive (A:=A) (w:=w) (c:=.ptr i o) hr hid
 | rptr i sz j o=>exact RepP.alive (A:=A) (w:=w) (c:=.rptr i sz j o) hr hid
 | itp i=>exact RepP.alive (A:=A) (w:=w) (c:=.itp i) hr hid
 | fn f caps =>
  obtain ⟨vs,_,k⟩:=hr
  obtain ⟨c,hc,hi⟩:=List.mem_flatMap.1 hid
  obtain ⟨y,hy⟩:=k.of_mem c hc
  exact hy.alive hi
 | _=>simp [CV.ids] at hid
theorem Rep1.alive {x:AV} {v:Value} (hr:Rep1 h hv A w x v) {id:Nat} (hid:id∈x.ids1):∃b,look h id=some b:=by
 cases x with
 | one c=>exact RepT.alive hr hid
 | agg cs =>
  obtain ⟨vs,_,k⟩:=hr
  obtain ⟨c,hc,hi⟩:=List.mem_flatMap.1 hid
  obtain ⟨y,hy⟩:=k.of_mem c hc
  exact hy.alive hi
 | tup _=>simp [AV.ids1] at hid
theorem RepV.alive {x:AV} {v:Value} (hr:RepV h hv A w x v) {id:Nat} (hid:id∈x.ids):∃b,look h id=some b:=by
 cases x with
 | tup xs =>
  obtain ⟨vs,_,k⟩:=hr
  obtain ⟨c,hc,hi⟩:=List.mem_flatMap.1 hid
  obtain ⟨y,hy⟩:=k.of_mem c hc
  exact hy.alive hi
 | one c=>exact Rep1.alive (x:=.one c) hr hid
 | agg cs=>exact Rep1.alive (x:=.agg cs) hr hid
theorem BlkRep.alive {i:Nat} {b:Blk} (hr:BlkRep h hv A w i b) {id:Nat} (hid:id∈b.ids):∃b,look h id=some b:=by
 cases b with
 | box cs =>
  obtain ⟨_,vs,_,_,_,k⟩:=hr
  obtain ⟨c,hc,hi⟩:=List.mem_flatMap.1 hid
  obtain ⟨y,hy⟩:=k.of_mem c hc
  exact hy.alive hi
 | row _ _ _ _=>simp [Blk.ids] at hid
 | iter _ _=>simp [Blk.ids] at hid
end
section
variable {P:Program} {s:ASt} {d:Option Nat} {ty t:TypeId} {pos:String} {af:Array Edge} {g:Option (Nat×Bool)}
theorem bound_ex:∀l:List Nat,∃m,∀x,x∈l→x<m
 | []=>⟨0,fun x hx=>by cases hx⟩
 | a::l=>by
  obtain ⟨m,hm⟩:=bound_ex l
  refine ⟨m+a+1,fun x hx=>?_⟩
  rcases List.mem_cons.1 hx with rfl|hx
  ·omega
  ·have:=hm x hx;omega
theorem look_not:∀(H:Heap) (k:Nat),(∀p,p∈H→p.1≠k)→look H k=none
 | [],_,_=>rfl
 | (i,b)::H,k,h=>by
  rw [look_cons,if_neg (h (i,b) (by simp)),look_not H k fun p hp=>h p (by simp [hp])]
theorem ev_frz {op:Op} {e sz n:Nat} {el:Nat→List CV} (L:List Nat) (hev:∀k,look s.heap k=none→memB L k=false→Ev P [] s ⟨d,op,ty,pos,af,g⟩ (· = (s.blk k (.row e sz n el)).put d (.one (.own k)))):Ev P [] s ⟨d,op,ty,pos,af,g⟩ (· = s.put d (.one (.slc n el))):=by
 obtain ⟨k,hkm⟩:=bound_ex (s.heap.map (·.1)++L)
 have hk:look s.heap k=none:=look_not _ _ fun p hp e=>by have:=hkm p.1 (by simp only [List.mem_append,List.mem_map];exact .inl ⟨p,hp,rfl⟩);omega
 have hLk:memB L k=false:=by
  rw [Bool.eq_false_iff]
  intro h
  obtain ⟨i,hi,he⟩:=List.any_eq_true.1 h
  have:=hkm i (by simp [hi])
  have:=Nat.eq_of_beq_eq_true he
  omega
 refine fun U T w0 a w hv ok K Q hK=>hev k hk hLk U T w0 a w hv ok K Q fun s' v w' hv' hs ok' hkeep=>?_
 subst hs
 refine hK _ v w' hv' rfl ?_ hkeep
 have hheap:∀(s:ASt) (d:Option Nat) (x:AV),(s.put d x).heap=s.heap:=fun s d x=>by cases d<;>rfl
 have hm:=ok'.m.hm
 rw [hheap] at hm
 have hb:look ((s.blk k (.row e sz n el)).heap) k=some (.row e sz n el):=by show look (_::_) k=_;rw [look_cons,if_pos rfl]
 have ho:∀{j:Nat} {b:Blk},look s.heap j=some b→k≠j∧look ((s.blk k (.row e sz n el)).heap) j=some b:=fun {j b} hj=>by
  have hne:k≠j:=fun e=>by rw [e,hj] at hk;cases hk
  refine ⟨hne,?_⟩
  show look (_::_) j=_
  rw [look_cons,if_neg hne]
  exact hj
 have hmine:∀b,mine s.heap hv' b→mine (s.blk k (.row e sz n el)).heap hv' b∧blockOf (hv' k)≠some b:=by
  rintro b ⟨i,x,h1,h2⟩
  exact ⟨⟨i,x,(ho h1).2,h2⟩,fun h4=>(ho h1).1 (hm.inj _ _ _ _ b hb (ho h1).2 h4 h2)⟩
 have hA:∀b,(U b∨mine s.heap hv' b)→(U b∨mine (s.blk k (.row e sz n el)).heap hv' b):=fun b hb=>hb.imp (fun x=>x) fun hb=>(hmine b hb).1
 have hrd:RepC (fun b=>U b∨mine s.heap hv' b) w' (.slc n el) (hv' k):=own_read hm hb (fun b h1 h2=>h2.elim (hm.avoid b ⟨k,_,hb,h1⟩) fun h2=>(hmine b h2).2 h1) hA
 have hpass:∀j,(∃b,look s.heap j=some b)→Pass (s.blk k (.row e sz n el)).heap hv' s.heap hv' j:=by
  rintro j ⟨b,hj⟩
  refine ⟨?_,?_,fun _=>rfl,?_⟩
  ·rintro ⟨e',sz',n',el',h⟩
   rw [(ho hj).2] at h
   exact ⟨e',sz',n',el',by rw [hj,h]⟩
  ·rintro ⟨cs,h⟩
   rw [(ho hj).2] at h
   exact ⟨cs,by rw [hj,h]⟩
  ·rintro ⟨s',p,h⟩
   rw [(ho hj).2] at h
   exact ⟨s',p,by rw [hj,h]⟩
 have hm':HM U s.heap w' hv':=by
  refine ⟨fun i b hib=>?_,fun i i' x y b h1 h2 h3 h4=>hm.inj _ _ _ _ b (ho h1).2 (ho h2).2 h3 h4,fun b hb=>hm.avoid b (hmine b hb).1,hm.ult,hm.tab.sub fun b hb=>(hmine b hb).1⟩
  exact (hm.blk i b (ho hib).2).keep (fun j hj=>hpass j ((ok.m.hm.blk i b hib).alive hj)) rfl (Fr.refl (fun _=>False) w') (fun _ e=>e.elim) (fun b _=>hA b) (fun _ _ e=>e)
 have kE:∀{t:Nat} {u:Value},RepV (s.blk k (.row e sz n el)).heap hv' (fun b=>U b∨mine (s.blk k (.row e sz n el)).heap hv' b) w' (get s.env t) u→RepV s.heap hv' (fun b=>U b∨mine s.heap hv' b) w' (get s.env t) u:=fun {t u} hr =>
  hr.keep (fun j hj=>hpass j ((ok.m.env t).alive hj)) (Fr.refl (fun _=>False) w') (fun _ e=>e.elim) fun b _=>hA b
 refine ⟨⟨?_,ok'.m.defers,fun t=>?_,by rw [hheap];exact hm'⟩,ok'.fr,fun b hb hlt=>?_,fun i hi=>?_⟩
 ·have:=ok'.m.nt
  cases d<;>exact this
 ·have h1:=ok'.m.env t
  rw [hheap] at h1 ⊢
  cases d with
  | none=>exact kE h1
  | some d =>
   change RepV _ _ _ _ (get (_::_) t) _ at h1
   change RepV _ _ _ _ (get (_::_) t) _
   rw [get_cons] at h1 ⊢
   by_cases hdt:d=t
   ·rw [if_pos hdt] at h1 ⊢
    obtain ⟨_,h2,_⟩:=h1
    rw [h2]
    exact hrd
   ·rw [if_neg hdt] at h1 ⊢
    exact kE h1
 ·rw [hheap] at hb
  refine ok'.own b ?_ hlt
  rw [hheap]
  exact (hmine b hb).1
 ·have h1:=ok'.box i (by cases d<;>exact hi)
  have h2:=ok.box i (by cases d<;>exact hi)
  obtain ⟨⟨cs,h3⟩,_⟩:=h2
  rw [hheap]
  exact ⟨⟨cs,h3⟩,h1.2⟩
theorem st_call_z {f:FuncId} [hF:IsFn P f] {args:List Operand} {tys:Array TypeId} {cargs xs:List AV} {e sz n:Nat} {el:Nat→List CV} (hfn:FnC P f cargs [] (Det (.one (.own 0)) [(0,some (.row e sz n el))])) (hxs:args.map s.ev=xs) (L:List Nat) (hargs:∀k,All2 (ArgV s.heap (gOf [k]) L) xs cargs)
  (hc:cargs.all (fun x=>x.ids.isEmpty)=true) (hL:L=[]∨∀i,i<n→(el i).all CV.scal=true) (hd:dOk s d=true) :
  Ev P [] s ⟨d,.call { callee:=.value (.func f),args:=args.toArray,argTypes:=tys },ty,pos,af,g⟩ (· = s.put d (.one (.slc n el))) :=
 ev_frz L fun k hk hLk=>st_call_r k hk hfn hxs L (hargs k) hc rfl hLk (hL.imp id fun h=>⟨rfl,h⟩) hd rfl
end
end Abs
end Go.Proofs.YtclffekkjfhpdaaGreat
namespace Go.Proofs.YtclffekkjfhpdaaGreat
open Go.ChangeShapes Go.WideShapes Go.RowKit
set_option linter.unusedVariables false
set_option linter.unusedSimpArgs false
namespace Abs
section
variable {h:Heap} {hv:Nat→Value} {A:Nat→Prop} {w w':World}
end
section
variable {P:Program} {s:ASt} {d:Option Nat} {ty t e sz n:Nat} {pos:String} {af:Array Edge} {g:Option (Nat×Bool)} {x:Operand} {id:Nat} {el:Nat→List CV}
end
end Abs
end Go.Proofs.YtclffekkjfhpdaaGreat
namespace Go.Proofs.YtclffekkjfhpdaaGreat
open Go.ChangeShapes Go.WideShapes Go.RowKit
set_option linter.unusedVariables false
set_option linter.unusedSimpArgs false
namespace Abs
section
variable {P:Program} {l:List Oper} {m:Nat} {al:List Add} {s:ASt} {Q:Exit→ASt→Prop}
end
end Abs
end Go.Proofs.YtclffekkjfhpdaaGreat
namespace Go.Proofs.YtclffekkjfhpdaaGreat
open Go.ChangeShapes Go.WideShapes Go.RowKit
set_option linter.unusedVariables false
set_option linter.unusedSimpArgs false
namespace Abs
abbrev NoA:Nat→Prop:=fun _=>False
section
variable {P:Program} {w:World}
theorem no_mine {hv:Nat→Value} {b:Nat} (h:mine [] hv b):False:=by
 obtain ⟨_,_,h1,_⟩:=h
 cases h1
abbrev InV (w:World) (x:AV) (v:Value):Prop:=RepV [] (fun _=>undef) (fun b=>NoA b∨mine [] (fun _=>undef) b) w x v
theorem in_c {c:CV} {v:Value} (h:RepC NoA w c v):InV w (.one c) v:=rep_of_c (h.keep (Fr.refl (fun _=>False) w) (fun _ e=>e.elim) fun _ _ e=>e.elim (fun x=>x) no_mine)
theorem in_v {v:Value} (h:v.oneCell'=true):InV w (.one (.val v)) v:=rep_of_c (.val v h)
theorem fnc_law {f:FuncId} {xs:List AV} {vs:Array Value} (hfn:FnC P f xs [] (Det (.one (.val (.bool true))) [])) (hargs:All2 (InV w) xs vs.toList) (ht:Tabs [] (fun _=>undef) w:=by exact tabs_none):Calls P f vs w fun e w'=>e=.returned (.bool true)∧Below w.heap.size w w':=by
 refine (hfn NoA NoA w vs (fun _=>undef) hargs ⟨fun id b hb=>(by cases hb),fun id id' x y b h1=>(by cases h1),fun b hb=>(no_mine hb).elim,fun b hb=>False.elim hb,ht⟩ fun b hb=>(no_mine hb).elim).mono ?_
 rintro e' w' ⟨r,h',hv',v,rfl,⟨rfl,rfl⟩,hr,_,hf,_,_⟩
 exact ⟨by rw [rep_val hr],hf.below⟩
end
end Abs
end Go.Proofs.YtclffekkjfhpdaaGreat

