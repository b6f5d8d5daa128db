import Derived.Test.YtclffekkjfhpdaaGreatQAbsB
namespace Go.Proofs.YtclffekkjfhpdaaGreat
open Go.ChangeShapes Go.WideShapes Go.RowKit
set_option linter.unusedVariables false
set_option linter.unusedSimpArgs false
namespace Abs
def upd (hv:Nat→Value) (id:Nat) (u:Value):Nat→Value:=fun i=>if i=id then u else hv i
theorem upd_same (hv:Nat→Value) (id:Nat) (u:Value):upd hv id u id=u:=if_pos rfl
theorem upd_other {hv:Nat→Value} {id i:Nat} {u:Value} (h:¬id=i):upd hv id u i=hv i:=if_neg fun e=>h e.symm
theorem upd_self (hv:Nat→Value) (id:Nat):upd hv id (hv id)=hv:=by
 funext i
 by_cases h:id=i
 ·subst h;exact upd_same _ _ _
 ·exact upd_other h
theorem Pass.refl (h:Heap) (hv:Nat→Value) (id:Nat):Pass h hv h hv id:=⟨fun x=>x,fun x=>x,fun _=>rfl,fun x=>x⟩
section
variable {U T:Nat→Prop} {w0:Base} {w w':World} {s:ASt} {a:Act} {hv hv':Nat→Value} {h h':Heap}
theorem HM.lt (hm:HM U h w hv) {b:Nat} (hb:mine h hv b):b<w.heap.size:=by
 obtain ⟨id,blk,h1,h2⟩:=hb
 have h3:=hm.blk id blk h1
 cases blk with
 | box cells =>
  obtain ⟨g,cs,T,h4,h5,_⟩:=h3
  rw [h4] at h2
  simp [blockOf] at h2
  subst h2
  exact (Array.getElem?_eq_some_iff.1 h5).1
 | row e sz n el =>
  obtain ⟨vs,h4,_⟩:=h3
  have:(hv id).ownBlock=some b:=by
   rcases h4.2 with ⟨h5,_⟩|⟨g,cap,cur,h5,_⟩
   ·rw [h5] at h2;simp [blockOf] at h2
   ·rw [h5] at h2 ⊢;simp [blockOf] at h2;subst h2;rfl
  exact (h4.lt b this).2
 | iter s pos =>
  obtain ⟨g,o,h4,h5,_⟩:=h3
  rw [h4,Thing.block] at h2
  simp only [Option.some.injEq] at h2
  subst h2
  exact (Array.getElem?_eq_some_iff.1 h5).1
theorem own_fr {T1:Nat→Prop} {e:TypeId} {sz n:Nat} {v:Value} {xs:List Value} (ho:w.ownsRow 0 e sz v n xs) (hf:Fr T1 w w') (hT:∀b,blockOf v=some b→¬T1 b):w'.ownsRow 0 e sz v n xs:=by
 refine ⟨ho.1,?_⟩
 rcases ho.2 with hn|⟨g,cap,cur,hv,hbg,hg,r⟩
 ·exact .inl hn
 ·exact .inr ⟨g,cap,cur,hv,hbg,by rw [hf.block g (Array.getElem?_eq_some_iff.1 hg).1 (hT g (by rw [hv];rfl))];exact hg,r⟩
def Blk.ids:Blk→List Nat
 | .box cs=>cs.flatMap CV.ids
 | .row _ _ _ _=>[]
 | .iter _ _=>[]
theorem BlkRep.keep {A A' T1:Nat→Prop} {id:Nat} {b:Blk} (hb:BlkRep h hv A w id b) (hp:∀id,id∈b.ids→Pass h hv h' hv' id) (hid:hv' id=hv id) (hf:Fr T1 w w') (hT:∀b,T1 b→A b) (hA:∀b,b<w.heap.size→A' b→A b) (hnot:∀g,blockOf (hv id)=some g→¬T1 g):BlkRep h' hv' A' w' id b:=by
 cases b with
 | box cells =>
  obtain ⟨g,cs,ty,h1,h2,h3⟩:=hb
  refine ⟨g,cs,ty,by rw [hid];exact h1,by rw [hf.block g (Array.getElem?_eq_some_iff.1 h2).1 (hnot g (by rw [h1];rfl))];exact h2,h3.impMem fun x y hx hr=>hr.keep (fun id hid=>hp id (List.mem_flatMap.2 ⟨x,hx,hid⟩)) hf hT hA⟩
 | row e sz n el =>
  obtain ⟨vs,h1,h2,h3⟩:=hb
  refine ⟨vs,by rw [hid];exact own_fr h1 hf hnot,h2,fun i j c hi hj=>?_⟩
  obtain ⟨v,h4,h5⟩:=h3 i j c hi hj
  exact ⟨v,h4,h5.keep hf hT hA⟩
 | iter s pos =>
  obtain ⟨g,o,h1,h2,h3⟩:=hb
  exact ⟨g,o,by rw [hid];exact h1,by rw [hf.block g (Array.getElem?_eq_some_iff.1 h2).1 (hnot g (by rw [h1,Thing.block]))];exact h2,h3⟩
theorem HM.keep (hm:HM U h w hv) (hf:Fr (fun _=>False) w w'):HM U h w' hv :=
 ⟨fun id b hb=>(hm.blk id b hb).keep (fun id _=>Pass.refl h hv id) rfl hf (fun _ e=>e.elim) (fun _ _ e=>e) (fun _ _ e=>e),hm.inj,hm.avoid,fun b hb=>Nat.lt_of_lt_of_le (hm.ult b hb) hf.size,hm.tab.fr hf (fun _ e=>e.elim) fun _ h _=>h⟩
theorem HM.put (hm:HM U h w hv) {T1:Nat→Prop} {id:Nat} {blk:Blk} {u:Value} (hf:Fr T1 w w') (hT:∀b,T1 b→(∃x,look h id=some x)∧blockOf (hv id)=some b)
  (hu:∀g,blockOf u=some g→(w.heap.size≤g)∨((∃x,look h id=some x)∧blockOf (hv id)=some g))
  (hp:∀i b,look h i=some b→i≠id→∀j,j∈b.ids→Pass h hv ((id,some blk)::h) (upd hv id u) j)
  (hb:BlkRep ((id,some blk)::h) (upd hv id u) (fun b=>U b∨mine ((id,some blk)::h) (upd hv id u) b) w' id blk) :
  HM U ((id,some blk)::h) w' (upd hv id u):=by
 have hTm:∀b,T1 b→mine h hv b:=fun b hb=>by obtain ⟨⟨x,h1⟩,h2⟩:=hT b hb;exact ⟨id,x,h1,h2⟩
 have hmine:∀b,mine ((id,some blk)::h) (upd hv id u) b→b<w.heap.size→mine h hv b:=by
  rintro b ⟨i,x,h1,h2⟩ hlt
  rw [look_cons] at h1
  by_cases hi:id=i
  ·subst hi
   rw [upd_same] at h2
   rcases hu b h2 with h3|⟨⟨y,h3⟩,h4⟩
   ·omega
   ·exact ⟨id,y,h3,h4⟩
  ·rw [if_neg hi] at h1
   rw [upd_other hi] at h2
   exact ⟨i,x,h1,h2⟩
 refine ⟨fun i b hib=>?_,fun i i' x y b h1 h2 h3 h4=>?_,fun b hb hU=>?_,fun b hb=>Nat.lt_of_lt_of_le (hm.ult b hb) hf.size,hm.tab.fr hf hTm hmine⟩
 ·rw [look_cons] at hib
  by_cases hi:id=i
  ·subst hi
   rw [if_pos rfl] at hib
   injection hib with hib
   subst hib
   exact hb
  ·rw [if_neg hi] at hib
   refine (hm.blk i b hib).keep (hp i b hib (fun e=>hi e.symm)) (if_neg fun e=>hi e.symm) hf (fun b hb=>.inr (hTm b hb)) (fun b hlt hb=>hb.imp (fun x=>x) fun hb=>hmine b hb hlt) fun g hg hTg=>?_
   obtain ⟨⟨x,h1⟩,h2⟩:=hT g hTg
   exact hi (hm.inj id i x b g h1 hib h2 hg)
 ·rw [look_cons] at h1 h2
  have key:∀i x,id≠i→look h i=some x→∀g,blockOf u=some g→blockOf (hv i)=some g→False:=by
   intro i x hi hl g hg hgi
   rcases hu g hg with h3|⟨⟨y,h5⟩,h6⟩
   ·have:=hm.lt ⟨i,x,hl,hgi⟩
    omega
   ·exact hi (hm.inj id i y x g h5 hl h6 hgi)
  by_cases hi:id=i
  ·by_cases hi':id=i'
   ·exact hi.symm.trans hi'
   ·subst hi
    rw [if_neg hi'] at h2
    rw [upd_same] at h3
    rw [upd_other hi'] at h4
    exact (key i' y hi' h2 b h3 h4).elim
  ·by_cases hi':id=i'
   ·subst hi'
    rw [if_neg hi] at h1
    rw [upd_same] at h4
    rw [upd_other hi] at h3
    exact (key i x hi h1 b h4 h3).elim
   ·rw [if_neg hi] at h1
    rw [if_neg hi'] at h2
    rw [upd_other hi] at h3
    rw [upd_other hi'] at h4
    exact hm.inj i i' x y b h1 h2 h3 h4
 ·have hlt:=hm.ult b hU
  exact hm.avoid b (hmine b hb hlt) hU
theorem mine_upd {id:Nat} {blk:Blk} {u:Value} (hu:∀g,blockOf u=some g→(w.heap.size≤g)∨((∃x,look h id=some x)∧blockOf (hv id)=some g)) :
  ∀b,mine ((id,some blk)::h) (upd hv id u) b→b<w.heap.size→mine h hv b:=by
 rintro b ⟨i,x,h1,h2⟩ hlt
 rw [look_cons] at h1
 by_cases hi:id=i
 ·subst hi
  rw [upd_same] at h2
  rcases hu b h2 with h3|⟨⟨y,h3⟩,h4⟩
  ·omega
  ·exact ⟨id,y,h3,h4⟩
 ·rw [if_neg hi] at h1
  rw [upd_other hi] at h2
  exact ⟨i,x,h1,h2⟩
def dOk (s:ASt):Option Nat→Bool
 | some t=>Nat.blt t s.nt
 | none=>true
theorem Ok.next (ok:Ok U T w0 s a w hv) {T1:Nat→Prop} (hf:Fr T1 w w') (hT:∀b,T1 b→mine s.heap hv b) (hp:∀t id,id∈(get s.env t).ids→Pass s.heap hv h' hv' id) (hk:∀id,id∈s.kp→Pass s.heap hv h' hv' id) (hm:HM U h' w' hv')
  (hmine:∀b,mine h' hv' b→b<w.heap.size→mine s.heap hv b) {d:Option Nat} {r:AV} {v:Value} (hr:RepV h' hv' (fun b=>U b∨mine h' hv' b) w' r v) (hd:dOk s d=true) :
  Ok U T w0 (ASt.put { s with heap:=h' } d r) (a.put d v) w' hv':=by
 have hT':∀b,T1 b→U b∨mine s.heap hv b:=fun b hb=>.inr (hT b hb)
 have hA:∀b,b<w.heap.size→(U b∨mine h' hv' b)→(U b∨mine s.heap hv b):=fun b hb h=>h.imp id fun h=>hmine b h hb
 have henv:∀t,RepV h' hv' (fun b=>U b∨mine h' hv' b) w' (get s.env t) (a.tmps.getD t undef):=fun t=>(ok.m.env t).keep (fun id hid=>hp t id hid) hf hT' hA
 refine ⟨⟨?_,?_,?_,?_⟩,ok.fr.trans hf fun x hx h=>ok.own x (hT x h) hx,?_,?_⟩
 ·cases d<;>simp [Act.put,ASt.put,ok.m.nt]
 ·cases d<;>simp [Act.put,ok.m.defers]
 ·intro t
  cases d with
  | none=>exact henv t
  | some d =>
   simp only [ASt.put,Act.put,get_cons]
   have hlt:d<a.tmps.size:=by rw [ok.m.nt];simpa [dOk,Nat.blt_eq] using hd
   by_cases hdt:d=t
   ·subst hdt
    rw [if_pos rfl]
    simpa [hlt] using hr
   ·rw [if_neg hdt]
    have:=henv t
    simpa [Array.getElem?_setIfInBounds_ne hdt] using this
 ·cases d<;>exact hm
 ·intro b hb hlt
  have hb':mine h' hv' b:=by cases d<;>exact hb
  exact ok.own b (hmine b hb' (Nat.lt_of_lt_of_le hlt ok.fr.size)) hlt
 ·intro id hid
  have hid':id∈s.kp:=by cases d<;>exact hid
  obtain ⟨⟨cs,h1⟩,h2⟩:=ok.box id hid'
  have hb:=(hk id hid').box ⟨cs,h1⟩
  refine ⟨by cases d<;>exact hb,?_⟩
  rw [(hk id hid').hv ⟨_,h1⟩]
  exact h2
theorem ev_of_run {P:Program} {o:Oper} {r:AV} (hd:dOk s o.dst=true)
  (h:∀(U:Nat→Prop) (a:Act) (w:World) (hv:Nat→Value),M U s a w hv→∃v w',(execOp a.eval o).run P w=.ok (.value v) w'∧Fr (fun _=>False) w w'∧RepV s.heap hv (fun b=>U b∨mine s.heap hv b) w' r v) :
  Ev P [] s o (· = s.put o.dst r):=fun U T w0 a w hv ok K Q hK=>by
 obtain ⟨v,w',hrun,hf,hr⟩:=h U a w hv ok.m
 unfold Oper.wp
 rw [hrun]
 exact hK _ v w' hv rfl (ok.next hf (fun _ e=>e.elim) (fun _ id _=>Pass.refl _ _ id) (fun id _=>Pass.refl _ _ id) (ok.m.hm.keep hf) (fun _ h _=>h) hr hd) (fun _ _ _=>rfl)
theorem ev_of_val {P:Program} {o:Oper} {u:Value} (hd:dOk s o.dst=true) (hu:u.oneCell'=true)
  (h:∀(U:Nat→Prop) (a:Act) (w:World) (hv:Nat→Value),M U s a w hv→(execOp a.eval o).run P w=.ok (.value u) w) :
  Ev P [] s o (· = s.put o.dst (.one (.val u))) :=
 ev_of_run hd fun U a w hv m=>⟨u,w,h U a w hv m,Fr.refl _ _,RepC.val u hu⟩
theorem M.val {U:Nat→Prop} {x:Operand} {u:Value} (m:M U s a w hv) (h:s.ev x=.one (.val u)):a.eval x=u:=by
 have:=m.ev x
 rw [h] at this
 exact rep_val this
end
section
variable {P:Program} {s:ASt} {d:Option Nat} {ty xT yT:TypeId} {pos:String} {af:Array Edge} {g:Option (Nat×Bool)} {x y c:Operand} {k:IntKind} {m n:Int}
theorem ev_move {r:AV} (hx:s.ev x=r) (hd:dOk s d=true):Ev P [] s ⟨d,.move x,ty,pos,af,g⟩ (· = s.put d r) :=
 ev_of_run hd fun U a w hv m=>⟨a.eval x,w,rfl,Fr.refl _ _,by rw [←hx];exact m.ev x⟩
theorem ev_assign {r:AV} (hx:s.ev x=r) (hd:dOk s d=true):Ev P [] s ⟨d,.assign x,ty,pos,af,g⟩ (· = s.put d r) :=
 ev_of_run hd fun U a w hv m=>⟨a.eval x,w,rfl,Fr.refl _ _,by rw [←hx];exact m.ev x⟩
theorem ev_add (hx:s.ev x=.one (.val (.int k m))) (hy:s.ev y=.one (.val (.int k n))) (hd:dOk s d=true) {q:Int} (hq:k.wrap (m+n)=q):Ev P [] s ⟨d,.binOp .add xT x y yT,ty,pos,af,g⟩ (· = s.put d (.one (.val (.int k q)))) :=
 ev_of_val hd rfl fun U a w hv M=>by simp [execOp,eqGuard,binOp,M.val hx,M.val hy,Op.intArith,hq]
theorem ev_sub (hx:s.ev x=.one (.val (.int k m))) (hy:s.ev y=.one (.val (.int k n))) (hd:dOk s d=true) {q:Int} (hq:k.wrap (m - n)=q):Ev P [] s ⟨d,.binOp .sub xT x y yT,ty,pos,af,g⟩ (· = s.put d (.one (.val (.int k q)))) :=
 ev_of_val hd rfl fun U a w hv M=>by simp [execOp,eqGuard,binOp,M.val hx,M.val hy,Op.intArith,hq]
theorem ev_mul (hx:s.ev x=.one (.val (.int k m))) (hy:s.ev y=.one (.val (.int k n))) (hd:dOk s d=true) {q:Int} (hq:k.wrap (m*n)=q):Ev P [] s ⟨d,.binOp .mul xT x y yT,ty,pos,af,g⟩ (· = s.put d (.one (.val (.int k q)))) :=
 ev_of_val hd rfl fun U a w hv M=>by simp [execOp,eqGuard,binOp,M.val hx,M.val hy,Op.intArith,hq]
def cmpB (op:BinOp) (m n:Int):Option Bool :=
 match op with
 | .eql=>some (m==n)
 | .neq=>some (m != n)
 | .lss=>some (decide (m<n))
 | .leq=>some (decide (m≤n))
 | .gtr=>some (decide (m>n))
 | .geq=>some (decide (m≥n))
 | _=>none
theorem ev_cmp {op:BinOp} {b:Bool} (hx:s.ev x=.one (.val (.int k m))) (hy:s.ev y=.one (.val (.int k n))) (hd:dOk s d=true) (ho:cmpB op m n=some b):Ev P [] s ⟨d,.binOp op xT x y yT,ty,pos,af,g⟩ (· = s.put d (.one (.val (.bool b)))) :=
 ev_of_val hd rfl fun U a w hv M=>by
  cases op<;>simp only [cmpB] at ho<;>first|(cases ho;done)|(injection ho with ho;subst ho;simp [execOp,eqGuard,binOp,M.val hx,M.val hy,Op.intCmp])
def bitsOf (op:BinOp) (k:IntKind) (m n:Int):Option Int :=
 match op with
 | .and=>some (k.wrap (BitVec.ofInt k.bits m &&& BitVec.ofInt k.bits n).toNat)
 | .or=>some (k.wrap (BitVec.ofInt k.bits m ||| BitVec.ofInt k.bits n).toNat)
 | .xor=>some (k.wrap (BitVec.ofInt k.bits m ^^^ BitVec.ofInt k.bits n).toNat)
 | .andNot=>some (k.wrap (BitVec.ofInt k.bits m &&& ~~~BitVec.ofInt k.bits n).toNat)
 | _=>none
theorem ev_bits {op:BinOp} {p q:Int} (hx:s.ev x=.one (.val (.int k m))) (hy:s.ev y=.one (.val (.int k n))) (hd:dOk s d=true) (ho:bitsOf op k m n=some p) (hq:p=q):Ev P [] s ⟨d,.binOp op xT x y yT,ty,pos,af,g⟩ (· = s.put d (.one (.val (.int k q)))) :=
 ev_of_val hd rfl fun U a w hv M=>by
  subst hq
  cases op<;>simp only [bitsOf] at ho<;>first|(cases ho;done)|(injection ho with ho;subst ho;simp [execOp,eqGuard,binOp,M.val hx,M.val hy,Op.intBits])
theorem ev_shl {k':IntKind} (hx:s.ev x=.one (.val (.int k m))) (hy:s.ev y=.one (.val (.int k' n))) (hd:dOk s d=true) (h0:0≤n) {q:Int} (hq:k.wrap (m*2^(min n.toNat k.bits))=q):Ev P [] s ⟨d,.binOp .shl xT x y yT,ty,pos,af,g⟩ (· = s.put d (.one (.val (.int k q)))) :=
 ev_of_val hd rfl fun U a w hv M=>by simp [execOp,eqGuard,binOp,M.val hx,M.val hy,Op.shift,hq,Int.not_lt.2 h0]
theorem ev_shr {k':IntKind} (hx:s.ev x=.one (.val (.int k m))) (hy:s.ev y=.one (.val (.int k' n))) (hd:dOk s d=true) (h0:0≤n) {q:Int} (hq:m.fdiv (2^(min n.toNat k.bits))=q):Ev P [] s ⟨d,.binOp .shr xT x y yT,ty,pos,af,g⟩ (· = s.put d (.one (.val (.int k q)))) :=
 ev_of_val hd rfl fun U a w hv M=>by simp [execOp,eqGuard,binOp,M.val hx,M.val hy,Op.shift,hq,Int.not_lt.2 h0]
theorem ev_not {b:Bool} (hx:s.ev x=.one (.val (.bool b))) (hd:dOk s d=true):Ev P [] s ⟨d,.unOp .not xT x,ty,pos,af,g⟩ (· = s.put d (.one (.val (.bool (!b))))) :=
 ev_of_val hd rfl fun U a w hv M=>by simp [execOp,Op.unary,M.val hx]
theorem ziv {b:Bool} {r:AV} (hc:s.ev c=.one (.val (.bool b))) (hb:b=true) (hx:s.ev x=r) (hd:dOk s d=true):Ev P [] s ⟨d,.pick c x y,ty,pos,af,g⟩ (· = s.put d r) :=
 ev_of_run hd fun U a w hv m=>⟨a.eval x,w,by simp [execOp,asBool,m.val hc,hb],Fr.refl _ _,by rw [←hx];exact m.ev x⟩
theorem ziJ {b:Bool} {r:AV} (hc:s.ev c=.one (.val (.bool b))) (hb:b=false) (hy:s.ev y=r) (hd:dOk s d=true):Ev P [] s ⟨d,.pick c x y,ty,pos,af,g⟩ (· = s.put d r) :=
 ev_of_run hd fun U a w hv m=>⟨a.eval y,w,by simp [execOp,asBool,m.val hc,hb],Fr.refl _ _,by rw [←hy];exact m.ev y⟩
end
end Abs
end Go.Proofs.YtclffekkjfhpdaaGreat
namespace Go.Proofs.YtclffekkjfhpdaaGreat
open Go.ChangeShapes Go.WideShapes Go.RowKit
set_option linter.unusedVariables false
set_option linter.unusedSimpArgs false
namespace Abs
def aggD:TypeDesc→Bool
 | .struct _=>true
 | .array _ _=>true
 | _=>false
def varOf (P:Program) (t:TypeId):Option (Bool×Nat) :=
 match P.underlying t,P.info? t with
 | some d,some i=>some (aggD d,i.size)
 | _,_=>none
class TVar (P:Program) (t:TypeId) (agg:outParam Bool) (n:outParam Nat):Prop where
 h:varOf P t=some (agg,n)
def fldOf (P:Program) (t:TypeId) (f:Nat):Option (Nat×Nat×Bool) :=
 match P.underlying t with
 | some (.struct fs) =>
  match fs[f]? with
  | some fd=>(varOf P fd.type).map fun (b,n)=>(fd.offset,n,b)
  | none=>none
 | _=>none
class TFld (P:Program) (t:TypeId) (f:Nat) (off n:outParam Nat) (agg:outParam Bool):Prop where
 h:fldOf P t f=some (off,n,agg)
def slOf (P:Program) (t:TypeId):Option (TypeId×Nat×Nat) :=
 match P.underlying t with
 | some (.slice e) =>
  match P.info? e with
  | some i =>
   match i.zero with
   | some z=>if z.cells.size=i.size∧0<i.size then some (e,i.size,i.bytes) else none
   | none=>none
  | none=>none
 | _=>none
class TSl (P:Program) (t:TypeId) (e sz bytes:outParam Nat):Prop where
 h:slOf P t=some (e,sz,bytes)
def arrOf (P:Program) (t:TypeId):Option (Nat×TypeId×Nat×Bool) :=
 match P.underlying t with
 | some (.array n e)=>(varOf P e).map fun (b,k)=>(n,e,k,b)
 | _=>none
class TArr (P:Program) (t:TypeId) (len e sz:outParam Nat) (agg:outParam Bool):Prop where
 h:arrOf P t=some (len,e,sz,agg)
class TStr (P:Program) (t:TypeId):Prop where
 h:P.underlying t=some .string
class TZero (P:Program) (t:TypeId) (z:outParam Value):Prop where
 h:(P.info? t).bind (·.zero)=some z
section
variable {P:Program} {t e:TypeId} {agg:Bool} {n sz len bytes off f:Nat}
theorem TVar.parts [k:TVar P t agg n]:∃d i,P.underlying t=some d∧aggD d=agg∧P.info? t=some i∧i.size=n:=by
 have h:=k.h
 unfold varOf at h
 split at h
 ·rename_i d i hd hi
  simp only [Option.some.injEq,Prod.mk.injEq] at h
  exact ⟨d,i,hd,h.1,hi,h.2⟩
 ·cases h
theorem run_isAgg [TVar P t agg n] (w:World):(isAgg t).run P w=.ok agg w:=by
 obtain ⟨d,i,h1,h2,_⟩:=TVar.parts (P:=P) (t:=t) (agg:=agg) (n:=n)
 subst h2
 cases d<;>simp [isAgg,run_underlying h1,aggD]
theorem run_size [TVar P t agg n] (w:World):(sizeOf t).run P w=.ok n w:=by
 obtain ⟨d,i,_,_,h1,h2⟩:=TVar.parts (P:=P) (t:=t) (agg:=agg) (n:=n)
 simp [sizeOf,typeInfo,h1,h2]
theorem TFld.parts [k:TFld P t f off n agg]:∃fs fd,P.underlying t=some (.struct fs)∧fs[f]?=some fd∧fd.offset=off∧TVar P fd.type agg n:=by
 have h:=k.h
 unfold fldOf at h
 split at h
 ·rename_i fs hs
  split at h
  ·rename_i fd hf
   cases hv:varOf P fd.type with
   | none=>rw [hv] at h;cases h
   | some p =>
    rw [hv] at h
    simp only [Option.map_some,Option.some.injEq,Prod.mk.injEq] at h
    obtain ⟨h1,h2,h3⟩:=h
    exact ⟨fs,fd,hs,hf,h1,⟨by rw [hv,←h2,←h3]⟩⟩
  ·cases h
 ·cases h
theorem TSl.elem [k:TSl P t e sz bytes]:Kit.Elem P t e sz bytes:=by
 have h:=k.h
 unfold slOf at h
 split at h
 ·rename_i e' hs
  split at h
  ·rename_i i hi
   split at h
   ·rename_i z hz
    split at h
    ·rename_i hc
     simp only [Option.some.injEq,Prod.mk.injEq] at h
     obtain ⟨rfl,rfl,rfl⟩:=h
     exact ⟨hs,⟨i,z,hi,hz,rfl,rfl,hc.1⟩,hc.2⟩
    ·cases h
   ·cases h
  ·cases h
 ·cases h
theorem TSl.run_size [TSl P t e sz bytes] (w:World):(sizeOf e).run P w=.ok sz w:=by
 obtain ⟨i,z,h1,_,h2,_⟩:=(TSl.elem (P:=P) (t:=t) (e:=e) (sz:=sz) (bytes:=bytes)).info
 simp [sizeOf,typeInfo,h1,h2]
theorem TArr.parts [k:TArr P t len e sz agg]:P.underlying t=some (.array len e)∧TVar P e agg sz:=by
 have h:=k.h
 unfold arrOf at h
 split at h
 ·rename_i n' e' hs
  cases hv:varOf P e' with
  | none=>rw [hv] at h;cases h
  | some p =>
   rw [hv] at h
   simp only [Option.map_some,Option.some.injEq,Prod.mk.injEq] at h
   obtain ⟨rfl,rfl,h2,h3⟩:=h
   exact ⟨hs,⟨by rw [hv,←h2,←h3]⟩⟩
 ·cases h
theorem TZero.run {z:Value} [k:TZero P t z] (w:World):(zeroValue t).run P w=.ok z w:=by
 have h:=k.h
 cases hi:P.info? t with
 | none=>rw [hi] at h;cases h
 | some i =>
  rw [hi] at h
  have hz:i.zero=some z:=h
  simp [zeroValue,typeInfo,hi,hz]
end
def CV.solid:CV→Bool
 | .any=>false
 | _=>true
theorem RepT.one {h:Heap} {hv:Nat→Value} {A:Nat→Prop} {w:World} {c:CV} {v:Value} (hr:RepT h hv A w c v) (hs:c.solid=true):v.oneCell'=true:=by
 cases c with
 | val u=>cases (show RepC A w (.val u) v from hr);assumption
 | slc n el=>cases (show RepC A w (.slc n el) v from hr)<;>rfl
 | own id=>obtain ⟨_,_,a,n,c,rfl⟩:=hr;rfl
 | ptr id off=>obtain ⟨_,b,_,rfl⟩:=hr;rfl
 | rptr id sz j o=>obtain ⟨_,b,n,c,_,rfl⟩:=hr;rfl
 | itp id=>obtain ⟨_,_,s,b,rfl⟩:=hr;cases s<;>rfl
 | cptr cs=>cases (show RepC A w (.cptr cs) v from hr);rfl
 | emp0=>cases (show RepC A w .emp0 v from hr);rfl
 | full n el=>cases (show RepC A w (.full n el) v from hr);rfl
 | ifc=>cases (show RepC A w .ifc v from hr);rfl
 | fn f caps=>obtain ⟨vs,rfl,_⟩:=hr;rfl
 | any=>cases hs
section
variable {U T:Nat→Prop} {w0:Base} {w w':World} {s:ASt} {a:Act} {hv hv':Nat→Value} {h h':Heap}
theorem Pass.new {id:Nat} {blk:Blk} {u:Value} (hid:look h id=none) (j:Nat):Pass h hv ((id,some blk)::h) (upd hv id u) j:=by
 by_cases hj:id=j
 ·subst hj
  refine ⟨?_,?_,?_,?_⟩
  ·rintro ⟨_,_,_,_,e⟩;rw [hid] at e;cases e
  ·rintro ⟨_,e⟩;rw [hid] at e;cases e
  ·rintro ⟨_,e⟩;rw [hid] at e;cases e
  ·rintro ⟨_,_,e⟩;rw [hid] at e;cases e
 ·exact ⟨fun x=>by rw [zcQ _ _ hj];exact x,fun x=>by rw [zcQ _ _ hj];exact x,fun _=>upd_other hj,fun x=>by rw [zcQ _ _ hj];exact x⟩
theorem Ok.new (ok:Ok U T w0 s a w hv) {id:Nat} {blk:Blk} {u:Value} (hid:look s.heap id=none) (hf:Fr (fun _=>False) w w') (hu:∀g,blockOf u=some g→w.heap.size≤g)
  (hb:BlkRep ((id,some blk)::s.heap) (upd hv id u) (fun b=>U b∨mine ((id,some blk)::s.heap) (upd hv id u) b) w' id blk) {d:Option Nat} {r:AV} {v:Value}
  (hr:RepV ((id,some blk)::s.heap) (upd hv id u) (fun b=>U b∨mine ((id,some blk)::s.heap) (upd hv id u) b) w' r v) (hd:dOk s d=true) :
  Ok U T w0 (ASt.put { s with heap:=(id,some blk)::s.heap } d r) (a.put d v) w' (upd hv id u):=by
 have hp:=fun j=>Pass.new (h:=s.heap) (hv:=hv) (blk:=blk) (u:=u) hid j
 have hu':∀g,blockOf u=some g→(w.heap.size≤g)∨((∃x,look s.heap id=some x)∧blockOf (hv id)=some g):=fun g hg=>.inl (hu g hg)
 exact ok.next hf (fun _ e=>e.elim) (fun _ j _=>hp j) (fun j _=>hp j) (ok.m.hm.put hf (fun _ e=>e.elim) hu' (fun _ _ _ _ j _=>hp j) hb) (mine_upd hu') hr hd
theorem RepT.new {A A':Nat→Prop} {id:Nat} {blk:Blk} {u:Value} {c:CV} {v:Value} (hr:RepT h hv A w c v) (hid:look h id=none) (hf:Fr (fun _=>False) w w') (hA:∀b,b<w.heap.size→A' b→A b) :
  RepT ((id,some blk)::h) (upd hv id u) A' w' c v :=
 hr.keep (fun j _=>Pass.new hid j) hf (fun _ e=>e.elim) hA
theorem Ok.newBox (ok:Ok U T w0 s a w hv) {id:Nat} {cs:List CV} {vs:List Value} {t:TypeId} (hid:look s.heap id=none) (hr:All2 (RepT s.heap hv (fun b=>U b∨mine s.heap hv b) w) cs vs) {d:Option Nat} (hd:dOk s d=true) :
  Ok U T w0 (ASt.put { s with heap:=(id,some (.box cs))::s.heap } d (.one (.ptr id 0))) (a.put d (.pointer (some ⟨w.heap.size,0,none⟩))) (w.alloc (.cells vs.toArray t)) (upd hv id (.pointer (some ⟨w.heap.size,0,none⟩))):=by
 have hu:∀g,blockOf (.pointer (some ⟨w.heap.size,0,none⟩))=some g→w.heap.size≤g:=fun g hg=>by simp [blockOf] at hg;omega
 refine ok.new (blk:=.box cs) hid (Fr.alloc _ _ _) hu ?_ ⟨⟨cs,look_same _ _ _⟩,w.heap.size,upd_same _ _ _,rfl⟩ hd
 refine ⟨w.heap.size,vs.toArray,t,upd_same _ _ _,heap_alloc_new w _,?_⟩
 exact hr.imp fun x y hxy=>hxy.new hid (Fr.alloc _ _ _) fun b hlt hb=>hb.imp (fun x=>x) fun hb=>mine_upd (fun g hg=>.inl (hu g hg)) b hb hlt
end
def AV.cells:AV→Option (List CV)
 | .one c=>if c.solid then some [c] else none
 | .agg cs=>some cs
 | .tup _=>none
theorem cells_rep {h:Heap} {hv:Nat→Value} {A:Nat→Prop} {w:World} {x:AV} {v:Value} {cs:List CV} (hr:RepV h hv A w x v) (hc:x.cells=some cs):∃vs:List Value,v.cells=vs.toArray∧All2 (RepT h hv A w) cs vs:=by
 cases x with
 | one c =>
  simp only [AV.cells] at hc
  split at hc
  ·rename_i hs
   injection hc with hc
   subst hc
   have ho:=RepT.one (show RepT h hv A w c v from hr) hs
   refine ⟨[v],?_,.cons hr .nil⟩
   cases v<;>first|rfl|(simp [Value.oneCell'] at ho)
  ·cases hc
 | agg ds =>
  injection hc with hc
  subst hc
  obtain ⟨vs,rfl,h2⟩:=hr
  exact ⟨vs,rfl,h2⟩
 | tup _=>cases hc
section
variable {P:Program} {s:ASt} {d:Option Nat} {ty t:TypeId} {pos:String} {af:Array Edge} {g:Option (Nat×Bool)} {x y c:Operand} {id off n:Nat} {cs:List CV}
theorem ev_box (id:Nat) (hid:look s.heap id=none) {r:AV} (hx:s.ev x=r) (hc:r.cells=some cs) (hd:dOk s d=true):Ev P [] s ⟨d,.box t x,ty,pos,af,g⟩ (· = ASt.put { s with heap:=(id,some (.box cs))::s.heap } d (.one (.ptr id 0))) :=
 fun U T w0 a w hv ok K Q hK=>by
  have hr:=ok.m.ev x
  rw [hx] at hr
  obtain ⟨vs,hvs,h2⟩:=cells_rep hr hc
  unfold Oper.wp
  have hrun:(execOp a.eval ⟨d,.box t x,ty,pos,af,g⟩).run P w=.ok (.value (.pointer (some ⟨w.heap.size,0,none⟩))) (w.alloc (.cells vs.toArray t)):=by
   simp [execOp,Instr.box,newVar,newRow,hvs,newObj]
   rfl
  rw [hrun]
  exact hK _ _ _ _ rfl (ok.newBox hid h2 hd) fun j _ ⟨b,hb⟩=>upd_other fun e=>by subst e;rw [hid] at hb;cases hb
theorem zero_rep {h:Heap} {hv:Nat→Value} {A:Nat→Prop} {w:World}:∀(vs:List Value),(∀v∈vs,v.oneCell'=true)→All2 (RepT h hv A w) (vs.map CV.val) vs
 | [],_=>.nil
 | v::vs,hv'=>.cons (RepC.val v (hv' v (by simp))) (zero_rep vs fun u hu=>hv' u (by simp [hu]))
theorem ev_alloc (id:Nat) (hid:look s.heap id=none) {z:Value} [k:TZero P t z] {zs:List Value} (hz:z.cells=zs.toArray) (hone:zs.all (·.oneCell')=true) (hd:dOk s d=true) :
  Ev P [] s ⟨d,.alloc t,ty,pos,af,g⟩ (· = ASt.put { s with heap:=(id,some (.box (zs.map CV.val)))::s.heap } d (.one (.ptr id 0))) :=
 fun U T w0 a w hv ok K Q hK=>by
  unfold Oper.wp
  have hrun:(execOp a.eval ⟨d,.alloc t,ty,pos,af,g⟩).run P w=.ok (.value (.pointer (some ⟨w.heap.size,0,none⟩))) (w.alloc (.cells zs.toArray t)):=by
   simp [execOp,Instr.alloc,TZero.run,newVar,newRow,hz,newObj]
   rfl
  rw [hrun]
  exact hK _ _ _ _ rfl (ok.newBox hid (zero_rep zs fun v hv=>List.all_eq_true.1 hone v hv) hd) fun j _ ⟨b,hb⟩=>upd_other fun e=>by subst e;rw [hid] at hb;cases hb
def CellsAt (w:World) (v:Value) (vs:List Value):Prop:=∃b off,v=.pointer (some ⟨b,off,none⟩)∧∀j u,vs[j]?=some u→w.cell? ⟨b,off+j,none⟩=some u
theorem add_at (b off j:Nat):(⟨b,off,none⟩:Addr).add j=⟨b,off+j,none⟩:=by unfold Addr.add;split<;>simp_all
theorem zfh {w:World} {v:Value} {vs:List Value} {agg:Bool} [TVar P t agg n] (h:CellsAt w v vs) (hn:vs.length=n) (h1:agg=false→∃u,vs=[u]) :
  ∃u,(Instr.loadAt t v).run P w=.ok u w∧(agg=true→u=.agg vs.toArray)∧(agg=false→vs=[u]):=by
 obtain ⟨b,off,rfl,hc⟩:=h
 cases agg with
 | true =>
  subst hn
  refine ⟨.agg vs.toArray,?_,fun _=>rfl,fun e=>by cases e⟩
  have hl:=run_loadCells_list (P:=P) w ⟨b,off,none⟩ vs (fun j v hv=>by rw [add_at];exact hc j v hv)
  simp [Instr.loadAt,Instr.sureAddr,loadVar,run_isAgg (P:=P) (t:=t) (agg:=true) (n:=vs.length),run_size (P:=P) (t:=t) (agg:=true) (n:=vs.length),hl]
 | false =>
  obtain ⟨u,rfl⟩:=h1 rfl
  refine ⟨u,?_,fun e=>by (cases e),fun _=>rfl⟩
  have h0:=hc 0 u rfl
  simp only [Nat.add_zero] at h0
  simp [Instr.loadAt,Instr.sureAddr,loadVar,run_isAgg (P:=P) (t:=t) (agg:=false) (n:=n),h0]
theorem box_cells {U:Nat→Prop} {a:Act} {w:World} {hv:Nat→Value} (m:M U s a w hv) (hx:s.ev x=.one (.ptr id off)) (hb:look s.heap id=some (.box cs)) :
  ∃vs:List Value,CellsAt w (a.eval x) (vs.drop off)∧All2 (RepT s.heap hv (fun b=>U b∨mine s.heap hv b) w) cs vs:=by
 have hr:=m.ev x
 rw [hx] at hr
 obtain ⟨_,b,h1,h2⟩:=hr
 obtain ⟨b',vs,ty,h3,h4,h5⟩:=m.hm.blk id _ hb
 rw [h1] at h3
 simp only [Value.pointer.injEq,Option.some.injEq,Addr.mk.injEq,and_true] at h3
 subst h3
 refine ⟨vs.toList,⟨b,off,h2,fun j u hu=>?_⟩,h5⟩
 rw [cell_of_row _ b (off+j) vs ty (0,0) h4]
 simpa using hu
theorem CellsAt.take {w:World} {v:Value} {vs:List Value} (h:CellsAt w v vs) (k:Nat):CellsAt w v (vs.take k):=by
 obtain ⟨b,off,e,hc⟩:=h
 exact ⟨b,off,e,fun j u hu=>hc j u (by rw [List.getElem?_take] at hu;split at hu<;>simp_all)⟩
theorem ev_load (hx:s.ev x=.one (.ptr id off)) (hb:look s.heap id=some (.box cs)) [k:TVar P t false n] {c:CV} (hc:cs[off]?=some c) (hd:dOk s d=true):Ev P [] s ⟨d,.load t x,ty,pos,af,g⟩ (· = s.put d (.one c)) :=
 ev_of_run hd fun U a w hv m=>by
  obtain ⟨vs,h1,h2⟩:=box_cells m hx hb
  obtain ⟨u,hu,hr⟩:=h2.get hc
  obtain ⟨b,o,e,hcell⟩:=h1
  have h0:=hcell 0 u (by simpa using hu)
  simp only [Nat.add_zero] at h0
  refine ⟨u,w,?_,Fr.refl _ _,hr⟩
  simp [execOp,e,Instr.loadAt,Instr.sureAddr,loadVar,run_isAgg (P:=P) (t:=t) (agg:=false) (n:=n),h0]
theorem ev_loads (hx:s.ev x=.one (.ptr id off)) (hb:look s.heap id=some (.box cs)) [k:TVar P t true n] {ds:List CV} (hc:(cs.drop off).take n=ds) (hl:Nat.ble (off+n) cs.length=true) (hd:dOk s d=true):Ev P [] s ⟨d,.load t x,ty,pos,af,g⟩ (· = s.put d (.agg ds)) :=
 ev_of_run hd fun U a w hv m=>by
  obtain ⟨vs,h1,h2⟩:=box_cells m hx hb
  have h3:=(h2.drop off).take n
  have hlen:=h2.length
  have hl':=Nat.le_of_ble_eq_true hl
  obtain ⟨u,h4,h5,_⟩:=zfh (P:=P) (t:=t) (agg:=true) (n:=n) (h1.take n) (by simp;omega) (fun e=>by cases e)
  refine ⟨u,w,?_,Fr.refl _ _,?_⟩
  ·simp only [execOp,Sem.run_bind,h4,Result.andThen_ok,Sem.run_pure]
  ·rw [h5 rfl,←hc]
   exact ⟨_,rfl,h3⟩
end
end Abs
end Go.Proofs.YtclffekkjfhpdaaGreat

