import Derived.Test.YtclffekkjfhpdaaGreatQAbsH
namespace Go.Proofs.YtclffekkjfhpdaaGreat
open Go.ChangeShapes Go.WideShapes Go.RowKit
set_option linter.unusedVariables false
set_option linter.unusedSimpArgs false
namespace Abs
def capRen (g:Nat→Nat):CV→CV
 | .own i=>.own (g i)
 | .ptr i o=>.ptr (g i) o
 | .rptr i sz j o=>.rptr (g i) sz j o
 | .itp i=>.itp (g i)
 | c=>c
def CV.ren (g:Nat→Nat):CV→CV
 | .fn f caps=>.fn f (caps.map (capRen g))
 | .own i=>.own (g i)
 | .ptr i o=>.ptr (g i) o
 | .rptr i sz j o=>.rptr (g i) sz j o
 | .itp i=>.itp (g i)
 | c=>c
def AV.ren1 (g:Nat→Nat):AV→AV
 | .one c=>.one (c.ren g)
 | .agg cs=>.agg (cs.map (CV.ren g))
 | v=>v
def AV.ren (g:Nat→Nat):AV→AV
 | .tup vs=>.tup (vs.map (AV.ren1 g))
 | .one c=>.one (c.ren g)
 | .agg cs=>.agg (cs.map (CV.ren g))
def Blk.ren (g:Nat→Nat):Blk→Blk
 | .box cs=>.box (cs.map (CV.ren g))
 | b=>b
def IsRow (h:Heap) (id:Nat):Prop:=∃e sz n el,look h id=some (.row e sz n el)
def IsBox (h:Heap) (id:Nat):Prop:=∃cs,look h id=some (.box cs)
def IsIter (h:Heap) (id:Nat):Prop:=∃s p,look h id=some (.iter s p)
structure Link (h1:Heap) (hv1:Nat→Value) (h2:Heap) (hv2:Nat→Value) (g:Nat→Nat) (id:Nat):Prop where
 row:IsRow h1 id↔IsRow h2 (g id)
 box:IsBox h1 id↔IsBox h2 (g id)
 hv:hv2 (g id)=hv1 id
 it:IsIter h1 id↔IsIter h2 (g id)
theorem Link.of {h1 h2:Heap} {hv1 hv2:Nat→Value} {g:Nat→Nat} {id:Nat} {b:Blk} (hb:look h1 id=some b) (k:look h2 (g id)=some (b.ren g)) (hv:hv2 (g id)=hv1 id):Link h1 hv1 h2 hv2 g id:=by
 cases b with
 | box cs=>exact ⟨⟨fun ⟨_,_,_,_,e⟩=>by (rw [hb] at e;cases e),fun ⟨_,_,_,_,e⟩=>by (rw [k] at e;cases e)⟩,⟨fun _=>⟨_,k⟩,fun _=>⟨_,hb⟩⟩,hv,⟨fun ⟨_,_,e⟩=>by (rw [hb] at e;cases e),fun ⟨_,_,e⟩=>by (rw [k] at e;cases e)⟩⟩
 | row e sz n el=>exact ⟨⟨fun _=>⟨_,_,_,_,k⟩,fun _=>⟨_,_,_,_,hb⟩⟩,⟨fun ⟨_,e⟩=>by (rw [hb] at e;cases e),fun ⟨_,e⟩=>by (rw [k] at e;cases e)⟩,hv,⟨fun ⟨_,_,e⟩=>by (rw [hb] at e;cases e),fun ⟨_,_,e⟩=>by (rw [k] at e;cases e)⟩⟩
 | iter s pos=>exact ⟨⟨fun ⟨_,_,_,_,e⟩=>by (rw [hb] at e;cases e),fun ⟨_,_,_,_,e⟩=>by (rw [k] at e;cases e)⟩,⟨fun ⟨_,e⟩=>by (rw [hb] at e;cases e),fun ⟨_,e⟩=>by (rw [k] at e;cases e)⟩,hv,⟨fun _=>⟨_,_,k⟩,fun _=>⟨_,_,hb⟩⟩⟩
section
variable {h1 h2:Heap} {hv1 hv2:Nat→Value} {g:Nat→Nat} {A:Nat→Prop} {w:World}
theorem repP_ren {c:CV} {v:Value} (hl:∀id,id∈capIds c→Link h1 hv1 h2 hv2 g id):RepP h1 hv1 A w c v↔RepP h2 hv2 A w (capRen g c) v:=by
 cases c with
 | own i =>
  have l:=hl i (by simp [capIds])
  simp only [RepP,capRen]
  rw [l.hv]
  exact ⟨fun ⟨a,b⟩=>⟨l.row.1 a,b⟩,fun ⟨a,b⟩=>⟨l.row.2 a,b⟩⟩
 | ptr i o =>
  have l:=hl i (by simp [capIds])
  simp only [RepP,capRen]
  rw [l.hv]
  exact ⟨fun ⟨a,b⟩=>⟨l.box.1 a,b⟩,fun ⟨a,b⟩=>⟨l.box.2 a,b⟩⟩
 | rptr i sz j o =>
  have l:=hl i (by simp [capIds])
  simp only [RepP,capRen]
  rw [l.hv]
  exact ⟨fun ⟨a,b⟩=>⟨l.row.1 a,b⟩,fun ⟨a,b⟩=>⟨l.row.2 a,b⟩⟩
 | itp i =>
  have l:=hl i (by simp [capIds])
  simp only [RepP,capRen]
  rw [l.hv]
  exact ⟨fun ⟨a,b⟩=>⟨l.it.1 a,b⟩,fun ⟨a,b⟩=>⟨l.it.2 a,b⟩⟩
 | fn f caps=>exact Iff.rfl
 | val u=>exact Iff.rfl
 | slc n el=>exact Iff.rfl
 | cptr cs=>exact Iff.rfl
 | emp0=>exact Iff.rfl
 | full n el=>exact Iff.rfl
 | ifc=>exact Iff.rfl
 | any=>exact Iff.rfl
theorem all2_ren {α:Type} {R1 R2:α→Value→Prop} {f:α→α} {xs:List α} {vs:List Value} (h:∀x,x∈xs→∀v,R1 x v↔R2 (f x) v):All2 R1 xs vs↔All2 R2 (xs.map f) vs:=by
 induction xs generalizing vs with
 | nil=>constructor<;>(intro h;cases h;exact .nil)
 | cons x xs ih =>
  have ih':=fun vs=>ih (vs:=vs) fun y hy=>h y (by simp [hy])
  constructor
  ·intro k
   cases k with
   | cons a t=>exact .cons ((h x (by simp) _).1 a) ((ih' _).1 t)
  ·intro k
   cases k with
   | cons a t=>exact .cons ((h x (by simp) _).2 a) ((ih' _).2 t)
theorem repT_ren {c:CV} {v:Value} (hl:∀id,id∈c.ids→Link h1 hv1 h2 hv2 g id):RepT h1 hv1 A w c v↔RepT h2 hv2 A w (c.ren g) v:=by
 cases c with
 | fn f caps =>
  have key:∀vs:List Value,All2 (RepP h1 hv1 A w) caps vs↔All2 (RepP h2 hv2 A w) (caps.map (capRen g)) vs:=fun vs=>all2_ren fun x hx v=>repP_ren fun id hid=>hl id (List.mem_flatMap.2 ⟨x,hx,hid⟩)
  constructor
  ·rintro ⟨vs,e,k⟩;exact ⟨vs,e,(key vs).1 k⟩
  ·rintro ⟨vs,e,k⟩;exact ⟨vs,e,(key vs).2 k⟩
 | own i=>exact repP_ren (A:=A) (w:=w) (c:=.own i) hl
 | ptr i o=>exact repP_ren (A:=A) (w:=w) (c:=.ptr i o) hl
 | rptr i sz j o=>exact repP_ren (A:=A) (w:=w) (c:=.rptr i sz j o) hl
 | itp i=>exact repP_ren (A:=A) (w:=w) (c:=.itp i) hl
 | val u=>exact Iff.rfl
 | slc n el=>exact Iff.rfl
 | cptr cs=>exact Iff.rfl
 | emp0=>exact Iff.rfl
 | full n el=>exact Iff.rfl
 | ifc=>exact Iff.rfl
 | any=>exact Iff.rfl
theorem rep1_ren {x:AV} {v:Value} (hl:∀id,id∈x.ids1→Link h1 hv1 h2 hv2 g id):Rep1 h1 hv1 A w x v↔Rep1 h2 hv2 A w (x.ren1 g) v:=by
 cases x with
 | one c=>exact repT_ren hl
 | agg cs =>
  have key:∀vs:List Value,All2 (RepT h1 hv1 A w) cs vs↔All2 (RepT h2 hv2 A w) (cs.map (CV.ren g)) vs:=fun vs=>all2_ren fun x hx v=>repT_ren fun id hid=>hl id (List.mem_flatMap.2 ⟨x,hx,hid⟩)
  constructor
  ·rintro ⟨vs,e,k⟩;exact ⟨vs,e,(key vs).1 k⟩
  ·rintro ⟨vs,e,k⟩;exact ⟨vs,e,(key vs).2 k⟩
 | tup vs=>exact Iff.rfl
theorem repV_ren {x:AV} {v:Value} (hl:∀id,id∈x.ids→Link h1 hv1 h2 hv2 g id):RepV h1 hv1 A w x v↔RepV h2 hv2 A w (x.ren g) v:=by
 cases x with
 | tup xs =>
  have key:∀vs:List Value,All2 (Rep1 h1 hv1 A w) xs vs↔All2 (Rep1 h2 hv2 A w) (xs.map (AV.ren1 g)) vs:=fun vs=>all2_ren fun x hx v=>rep1_ren fun id hid=>hl id (List.mem_flatMap.2 ⟨x,hx,hid⟩)
  constructor
  ·rintro ⟨vs,e,k⟩;exact ⟨vs,e,(key vs).1 k⟩
  ·rintro ⟨vs,e,k⟩;exact ⟨vs,e,(key vs).2 k⟩
 | one c=>exact rep1_ren (A:=A) (w:=w) (x:=.one c) hl
 | agg cs=>exact rep1_ren (A:=A) (w:=w) (x:=.agg cs) hl
theorem blk_ren {id:Nat} {b:Blk} (hb:∀j,j∈b.ids→Link h1 hv1 h2 hv2 g j) (hv:hv2 (g id)=hv1 id):BlkRep h1 hv1 A w id b↔BlkRep h2 hv2 A w (g id) (b.ren g):=by
 cases b with
 | box cs =>
  have key:∀vs:List Value,All2 (RepT h1 hv1 A w) cs vs↔All2 (RepT h2 hv2 A w) (cs.map (CV.ren g)) vs:=fun vs=>all2_ren fun x hx v=>repT_ren fun id hid=>hb id (List.mem_flatMap.2 ⟨x,hx,hid⟩)
  simp only [BlkRep,Blk.ren]
  rw [hv]
  constructor
  ·rintro ⟨a,vs,t,e1,e2,k⟩;exact ⟨a,vs,t,e1,e2,(key _).1 k⟩
  ·rintro ⟨a,vs,t,e1,e2,k⟩;exact ⟨a,vs,t,e1,e2,(key _).2 k⟩
 | row e sz n el=>simp only [BlkRep,Blk.ren];rw [hv]
 | iter s pos=>simp only [BlkRep,Blk.ren];rw [hv]
end
def FnC (P:Program) (f:FuncId) (args:List AV) (h:Heap) (R:AV→Heap→Prop):Prop :=
 ∀(U T:Nat→Prop) (w:World) (vs:Array Value) (hv:Nat→Value),All2 (RepV h hv (fun b=>U b∨mine h hv b) w) args vs.toList→HM U h w hv→(∀b,mine h hv b→T b) →
  Calls P f vs w fun e w'=>∃r h' hv' v,e=.returned v∧R r h'∧RepV h' hv' (fun b=>U b∨mine h' hv' b) w' r v∧HM U h' w' hv'∧Fr T w w'∧(∀b,mine h' hv' b→b<w.heap.size→T b) ∧
   ∀id cs,look h id=some (.box cs)→IsBox h' id∧hv' id=hv id
def resVar (s:ASt) (P:Program):ResultVar→AV→Prop
 | .tmp t,x=>get s.env t=x
 | .cell a t,x=>∃id off cs n agg,get s.env a=.one (.ptr id off)∧look s.heap id=some (.box cs)∧varOf P t=some (agg,n)∧Nat.ble (off+n) cs.length=true ∧
   (if agg then x=.agg ((cs.drop off).take n) else ∃c,cs[off]?=some c∧x=.one c)
def Res (P:Program) (fn:Func) (s:ASt) (x:AV):Prop :=
 (∃rv,fn.results=#[rv]∧resVar s P rv x∧∀vs,x≠.tup vs)∨(fn.results.size≠1∧∃xs,x=.tup xs∧All2 (resVar s P) fn.results.toList xs∧∀y,y∈xs→∀vs,y≠.tup vs)
section
variable {P:Program} {fn:Func} {s:ASt} {x:AV} {U:Nat→Prop} {a:Act} {w:World} {hv:Nat→Value}
def resRun (tmps:Array Value):ResultVar→Sem Value
 | .tmp t=>pure (tmps.getD t undef)
 | .cell a t=>do loadVar t (←asAddr (tmps.getD a undef))
theorem zia {rv:ResultVar} (m:M U s a w hv) (h:resVar s P rv x):∃v,(resRun a.tmps rv).run P w=.ok v w∧RepV s.heap hv (fun b=>U b∨mine s.heap hv b) w x v:=by
 cases rv with
 | tmp t=>simp only [resVar] at h;subst h;exact ⟨_,rfl,m.env t⟩
 | cell ad t =>
  obtain ⟨id,off,cs,n,agg,h1,h2,h3,h40,h5⟩:=h
  have h4:=Nat.le_of_ble_eq_true h40
  have hT:TVar P t agg n:=⟨h3⟩
  obtain ⟨vs,h6,h7⟩:=box_cells (x:=.tmp ad) m h1 h2
  have hlen:=h7.length
  have he:a.eval (.tmp ad)=a.tmps.getD ad undef:=rfl
  cases agg with
  | true =>
   simp only [if_true] at h5
   subst h5
   obtain ⟨u,h8,h9,_⟩:=zfh (P:=P) (t:=t) (agg:=true) (n:=n) (h6.take n) (by simp;omega) (fun e=>by cases e)
   obtain ⟨b,o,e,hc⟩:=h6
   refine ⟨u,?_,by rw [h9 rfl];exact ⟨_,rfl,(h7.drop off).take n⟩⟩
   rw [he] at e
   simp only [resRun,e,asAddr,Sem.run_bind,Sem.run_pure,Result.andThen_ok]
   rw [he,e] at h8
   simpa [Instr.loadAt,Instr.sureAddr] using h8
  | false =>
   simp only [Bool.false_eq_true,if_false] at h5
   obtain ⟨c,h8,rfl⟩:=h5
   obtain ⟨u,h9,h10⟩:=h7.get h8
   obtain ⟨b,o,e,hc⟩:=h6
   rw [he] at e
   have h0:=hc 0 u (by simpa using h9)
   simp only [Nat.add_zero] at h0
   refine ⟨u,?_,h10⟩
   simp [resRun,e,asAddr,loadVar,run_isAgg (P:=P) (t:=t) (agg:=false) (n:=n),h0]
theorem zhL (m:M U s a w hv):∀{rvs:List ResultVar} {xs:List AV},All2 (resVar s P) rvs xs→∃vs:List Value,(rvs.mapM (resRun a.tmps)).run P w=.ok vs w∧All2 (RepV s.heap hv (fun b=>U b∨mine s.heap hv b) w) xs vs
 | _,_,.nil=>⟨[],rfl,.nil⟩
 | _,_,.cons h t=>by
  obtain ⟨v,h1,h2⟩:=zia m h
  obtain ⟨vs,h3,h4⟩:=zhL m t
  exact ⟨v::vs,by simp [List.mapM_cons,h1,h3],.cons h2 h4⟩
theorem res_run (m:M U s a w hv) (h:Res P fn s x):∃v,(results fn a.tmps).run P w=.ok v w∧RepV s.heap hv (fun b=>U b∨mine s.heap hv b) w x v:=by
 have hres:(results fn a.tmps)=(do let vs ←fn.results.mapM (resRun a.tmps);pure (if h:vs.size=1 then vs[0] else .tuple vs)):=by
  unfold results
  congr 1
 rw [hres]
 rcases h with ⟨rv,h1,h2,_⟩|⟨h1,xs,rfl,h2,h3⟩
 ·obtain ⟨v,h4,h5⟩:=zia m h2
  refine ⟨v,?_,h5⟩
  rw [h1]
  simp [h4]
 ·obtain ⟨vs,h4,h5⟩:=zhL m h2
  have hl:=h2.length
  have hl2:=h5.length
  refine ⟨.tuple vs.toArray,?_,vs,rfl,h5.impMem fun y v hy hr=>?_⟩
  ·rw [Array.mapM_eq_mapM_toList]
   have hne:¬vs.toArray.size=1:=by simp only [List.size_toArray];rw [Array.length_toList] at hl;omega
   simp [h4]
   exact fun h=>absurd h (by simpa using hne)
  ·cases y with
   | tup us=>exact absurd rfl (h3 _ hy us)
   | one c=>exact hr
   | agg cs=>exact hr
end
end Abs
end Go.Proofs.YtclffekkjfhpdaaGreat
namespace Go.Proofs.YtclffekkjfhpdaaGreat
open Go.ChangeShapes Go.WideShapes Go.RowKit
set_option linter.unusedVariables false
set_option linter.unusedSimpArgs false
namespace Abs
structure Back (H:Heap) (h':Heap) (g:Nat→Nat) (r:AV):Prop where
 al:∀id,id∈r.ids→(look h' id).isSome=true
 blk:∀id b,look h' id=some b→look H (g id)=some (b.ren g)∧∀j,j∈b.ids→(look h' j).isSome=true
 inj:∀i j,(look h' i).isSome=true→(look h' j).isSome=true→g i=g j→i=j
section
variable {H h':Heap} {g:Nat→Nat} {r:AV} {hv:Nat→Value} {U:Nat→Prop} {w:World}
theorem Back.link (k:Back H h' g r) {id:Nat} (hal:(look h' id).isSome=true):Link h' (fun i=>hv (g i)) H hv g id:=by
 obtain ⟨b,hb⟩:=Option.isSome_iff_exists.1 hal
 obtain ⟨h1,_⟩:=k.blk id b hb
 exact Link.of hb h1 rfl
theorem Back.mine (k:Back H h' g r) {b:Nat} (h:mine h' (fun i=>hv (g i)) b):mine H hv b:=by
 obtain ⟨id,x,h1,h2⟩:=h
 exact ⟨g id,_,(k.blk id x h1).1,h2⟩
theorem rep_weak {h:Heap} {A A':Nat→Prop} {x:AV} {v:Value} (hr:RepV h hv A w x v) (hA:∀b,A' b→A b):RepV h hv A' w x v:=hr.keep (fun id _=>Pass.refl h hv id) (Fr.refl (fun _=>False) w) (fun _ e=>e.elim) fun b _=>hA b
theorem blk_weak {h:Heap} {A A':Nat→Prop} {id:Nat} {b:Blk} (hr:BlkRep h hv A w id b) (hA:∀b,A' b→A b):BlkRep h hv A' w id b:=hr.keep (fun id _=>Pass.refl h hv id) rfl (Fr.refl (fun _=>False) w) (fun _ e=>e.elim) (fun b _=>hA b) (fun _ _ e=>e)
theorem Back.rep (k:Back H h' g r) {v:Value} (hr:RepV H hv (fun b=>U b∨Abs.mine H hv b) w (r.ren g) v):RepV h' (fun i=>hv (g i)) (fun b=>U b∨Abs.mine h' (fun i=>hv (g i)) b) w r v :=
 rep_weak ((repV_ren fun id hid=>k.link (k.al id hid)).2 hr) fun b hb=>hb.imp (fun x=>x) k.mine
theorem Back.hm (k:Back H h' g r) (hm:HM U H w hv):HM U h' w (fun i=>hv (g i)):=by
 refine ⟨fun id b hb=>?_,fun i j x y b h1 h2 h3 h4=>?_,fun b hb=>hm.avoid b (k.mine hb),hm.ult,hm.tab.sub fun b hb=>k.mine hb⟩
 ·obtain ⟨h1,h2⟩:=k.blk id b hb
  exact blk_weak ((blk_ren (fun j hj=>k.link (h2 j hj)) rfl).2 (hm.blk _ _ h1)) fun b hb=>hb.imp (fun x=>x) k.mine
 ·exact k.inj i j (by rw [h1];rfl) (by rw [h2];rfl) (hm.inj _ _ _ _ b (k.blk i x h1).1 (k.blk j y h2).1 h3 h4)
end
inductive CLe:CV→CV→Prop
 | refl (c:CV):CLe c c
 | any (c:CV):CLe c .any
 | nil (el:Nat→List CV):CLe (.val (.slice none 0 0)) (.slc 0 el)
 | emp (el:Nat→List CV):CLe .emp0 (.slc 0 el)
 | slc {n n':Nat} {el el':Nat→List CV} (hn:n=n') (h:∀i,i<n'→el i=el' i):CLe (.slc n el) (.slc n' el')
 | val {v v':Value} (h:v=v'):CLe (.val v) (.val v')
inductive VLe:AV→AV→Prop
 | refl (x:AV):VLe x x
 | any (x:AV):VLe x (.one .any)
 | one {c c':CV} (h:CLe c c'):VLe (.one c) (.one c')
 | agg {cs cs':List CV} (h:All2 CLe cs cs'):VLe (.agg cs) (.agg cs')
inductive BLe:Option Blk→Option Blk→Prop
 | none (b:Option Blk):BLe b none
 | refl (b:Option Blk):BLe b b
 | box {cs cs':List CV} (h:All2 CLe cs cs'):BLe (some (.box cs)) (some (.box cs'))
 | row {e sz n n':Nat} {el el':Nat→List CV} (hn:n=n') (h:∀i,i<n'→el i=el' i):BLe (some (.row e sz n el)) (some (.row e sz n' el'))
section
variable {h:Heap} {hv:Nat→Value} {A:Nat→Prop} {w:World}
theorem CLe.repC {c c':CV} {v:Value} (hc:CLe c c') (hr:RepC A w c v) (ha:c'≠.any):RepC A w c' v:=by
 cases hc with
 | refl=>exact hr
 | any=>exact absurd rfl ha
 | nil el=>cases hr;exact .nil el
 | emp el=>cases hr;exact RepC.empty (by unfold maxLen;decide) (fun _=>rfl)
 | slc hn hel =>
  subst hn
  cases hr with
  | nil=>exact .nil _
  | emp _ a cap hm=>exact .emp _ a cap hm
  | slc _ _ size b off cap vals hb hA hc hm hs hcell hrep =>
   exact .slc _ _ size b off cap vals hb hA hc hm (fun i hi=>by rw [←hel i hi];exact hs i hi) (fun i j c hi hj=>hcell i j c hi (by rw [hel i hi];exact hj)) (fun i j c hi hj=>hrep i j c hi (by rw [hel i hi];exact hj))
 | val h=>subst h;exact hr
theorem CLe.rep {c c':CV} {v:Value} (hc:CLe c c') (hr:RepT h hv A w c v):RepT h hv A w c' v:=by
 cases hc with
 | refl=>exact hr
 | any=>exact trivial
 | nil el=>exact CLe.repC (.nil el) hr (by simp)
 | emp el=>exact CLe.repC (.emp el) hr (by simp)
 | slc hn hel=>exact CLe.repC (.slc hn hel) hr (by simp)
 | val h=>exact CLe.repC (.val h) hr (by simp)
theorem VLe.rep {x x':AV} {v:Value} (hx:VLe x x') (hr:RepV h hv A w x v):RepV h hv A w x' v:=by
 cases hx with
 | refl=>exact hr
 | any=>exact trivial
 | one h=>exact h.rep hr
 | agg h =>
  obtain ⟨vs,e,h2⟩:=hr
  refine ⟨vs,e,?_⟩
  clear e
  induction h generalizing vs with
  | nil=>exact h2
  | cons a t ih=>cases h2 with|cons b u=>exact .cons (a.rep b) (ih _ u)
theorem BLe.rep {id:Nat} {b b':Blk} (hb:BLe (some b) (some b')) (hr:BlkRep h hv A w id b):BlkRep h hv A w id b':=by
 cases hb with
 | refl=>exact hr
 | box hc =>
  obtain ⟨g,vs,t,e1,e2,h2⟩:=hr
  refine ⟨g,vs,t,e1,e2,?_⟩
  clear e2
  generalize vs.toList=us at h2
  induction hc generalizing us with
  | nil=>exact h2
  | cons a t ih=>cases h2 with|cons b u=>exact .cons (a.rep b) (ih _ u)
 | row hn hel =>
  subst hn
  obtain ⟨vs,e1,e2,e3⟩:=hr
  exact ⟨vs,e1,fun i hi=>by rw [←hel i hi];exact e2 i hi,fun i j c hi hj=>e3 i j c hi (by rw [hel i hi];exact hj)⟩
end
inductive TLe:AV→AV→Prop
 | refl (x:AV):TLe x x
 | v {x y:AV} (h:VLe x y):TLe x y
 | tup {xs ys:List AV} (h:All2 VLe xs ys):TLe (.tup xs) (.tup ys)
theorem VLe.rep1 {h:Heap} {hv:Nat→Value} {A:Nat→Prop} {w:World} {x x':AV} {v:Value} (hx:VLe x x') (hr:Rep1 h hv A w x v):Rep1 h hv A w x' v:=by
 cases hx with
 | refl=>exact hr
 | any=>exact trivial
 | one hc=>exact hc.rep hr
 | agg hc=>exact VLe.rep (.agg hc) (show RepV h hv A w (.agg _) v from hr)
theorem TLe.rep {h:Heap} {hv:Nat→Value} {A:Nat→Prop} {w:World} {x x':AV} {v:Value} (hx:TLe x x') (hr:RepV h hv A w x v):RepV h hv A w x' v:=by
 cases hx with
 | refl=>exact hr
 | v hv=>exact hv.rep hr
 | tup ht =>
  obtain ⟨vs,e,h2⟩:=hr
  refine ⟨vs,e,?_⟩
  clear e
  induction ht generalizing vs with
  | nil=>exact h2
  | cons a t ih=>cases h2 with|cons b u=>exact .cons (a.rep1 b) (ih _ u)
def isBoxB:Option Blk→Bool
 | some (.box _)=>true
 | _=>false
def boxesOf (h:Heap):List Nat:=(h.map (·.1)).filter fun id=>isBoxB (look h id)
theorem look_mem:∀{h:Heap} {id:Nat} {b:Blk},look h id=some b→id∈h.map (·.1)
 | [],_,_,h=>by cases h
 | (k,x)::r,id,b,h=>by
  rw [look_cons] at h
  by_cases hk:k=id
  ·subst hk;simp
  ·rw [if_neg hk] at h;exact List.mem_cons_of_mem _ (look_mem h)
theorem mem_boxes {h:Heap} {id:Nat}:id∈boxesOf h↔IsBox h id:=by
 unfold boxesOf
 rw [List.mem_filter]
 constructor
 ·rintro ⟨_,h2⟩
  cases hl:look h id with
  | none=>rw [hl] at h2;cases h2
  | some b =>
   rw [hl] at h2
   cases b with
   | box cs=>exact ⟨cs,hl⟩
   | row e sz n el=>cases h2
   | iter s pos=>cases h2
 ·rintro ⟨cs,hl⟩
  exact ⟨look_mem hl,by rw [hl];rfl⟩
def enumEnv:Nat→List AV→List (Nat×AV)
 | _,[]=>[]
 | k,x::xs=>(k,x)::enumEnv (k+1) xs
theorem get_enum:∀(xs:List AV) (k t:Nat),get (enumEnv k xs) t=if k≤t then xs.getD (t - k) (.one .any) else .one .any
 | [],k,t=>by simp [enumEnv,get]
 | x::xs,k,t=>by
  simp only [enumEnv]
  rw [get_cons,get_enum xs (k+1) t]
  by_cases h1:k=t
  ·subst h1;simp
  ·rw [if_neg h1]
   by_cases h2:k≤t
   ·rw [if_pos h2,if_pos (by omega),show t - k=(t - (k+1))+1 by omega];simp
   ·rw [if_neg h2,if_neg (by omega)]
def start (nt:Nat) (args:List AV) (h:Heap):ASt:=⟨nt,boxesOf h,enumEnv 0 args,h⟩
def RetOk (P:Program) (fn:Func) (R:AV→Heap→Prop) (s:ASt):Prop :=
 ∃r h' g r0,Res P fn s r0∧TLe r0 (r.ren g)∧R r h'∧Back s.heap h' g r∧∀id,id∈s.kp→g id=id∧IsBox h' id
def EndR (P:Program) (fn:Func) (kp:List Nat) (R:AV→Heap→Prop):Exit→ASt→Prop
 | .normal,s=>s.kp=kp∧RetOk P fn R s
 | .ret,s=>s.kp=kp∧RetOk P fn R s
 | _,_=>False
theorem fn_intro {P:Program} {f:FuncId} {fn:Func} {c:Code} {args:List AV} {h:Heap} {R:AV→Heap→Prop} (hf:P.funcs[f]?=some fn) (hb:fn.body=some c) (hn:Nat.ble args.length fn.ntmps=true)
  (haw:AW P c (start fn.ntmps args h) (EndR P fn (boxesOf h) R)):FnC P f args h R:=by
 intro U T w vs hv hargs hm hT
 have hl:=hargs.length
 simp only [Array.length_toList] at hl
 have hn':=Nat.le_of_ble_eq_true hn
 refine callsIn_wide.1 (callsIn_of_wp_marks (F:=Fence.wide) (n:=0) hf hb trivial ?_)
 have hok:Ok U T ⟨w,hv⟩ (start fn.ntmps args h) { tmps:=vs++Array.replicate (fn.ntmps - vs.size) undef,defers:=[] } w hv:=by
  refine ⟨⟨?_,rfl,fun t=>?_,hm⟩,Fr.refl _ _,fun b hb _=>hT b hb,fun id hid=>⟨mem_boxes.1 hid,rfl⟩⟩
  ·simp [start];omega
  ·simp only [start]
   rw [get_enum]
   simp only [Nat.zero_le,if_true,Nat.sub_zero]
   by_cases ht:t<args.length
   ·obtain ⟨v,h1,h2⟩:=hargs.get (List.getElem?_eq_getElem ht)
    have h3:vs[t]?=some v:=by simpa using h1
    have h4:t<vs.size:=by omega
    have h5:(vs++Array.replicate (fn.ntmps - vs.size) undef).getD t undef=v:=by
     simp [Array.getElem?_append,h4]
     rw [Array.getElem?_eq_getElem h4] at h3
     injection h3
    simp only [List.getD,List.getElem?_eq_getElem ht,Option.getD_some,h5]
    exact h2
   ·rw [List.getD_eq_getElem?_getD,List.getElem?_eq_none (by omega)]
    exact trivial
 have hmk:Marks w.heap.size none ([]:List Deferred) w:=⟨fun d hd=>(by cases hd),.nil,Nat.le_refl _,fun l hl=>by cases hl⟩
 refine wpIn_mono (show c.wpIn (FR none) 0 P _ _ _ from haw w.heap.size none U T ⟨w,hv⟩ _ w hv hok hmk) ?_
 rintro e a' w' ⟨⟨hc,s',hv',hq,ok'⟩,mk'⟩
 have key:s'.kp=boxesOf h→RetOk P fn R s'→LeavesInM Fence.wide 0 P fn a'.tmps (fun e w'=>∃r h' hv' v',e=.returned v'∧R r h'∧RepV h' hv' (fun b=>U b∨mine h' hv' b) w' r v'∧HM U h' w' hv'∧Fr T w w'∧(∀b,mine h' hv' b→b<w.heap.size→T b) ∧
   ∀id cs,look h id=some (.box cs)→IsBox h' id∧hv' id=hv id) a'.defers .returning w':=by
  rintro hkp ⟨r,h',g,r0,hres,hle,hR,hback,hgk⟩
  have ult0:∀b,U b→b<w.heap.size:=hm.ult
  have main:∀(ds:List Deferred) (w':World),Ok U T ⟨w,hv⟩ s' (bare a') w' hv'→Marks w.heap.size none ds w'→LeavesInM Fence.wide 0 P fn a'.tmps (fun e w'=>∃r h' hv' v',e=.returned v'∧R r h'∧RepV h' hv' (fun b=>U b∨mine h' hv' b) w' r v'∧HM U h' w' hv'∧Fr T w w'∧(∀b,mine h' hv' b→b<w.heap.size→T b) ∧
    ∀id cs,look h id=some (.box cs)→IsBox h' id∧hv' id=hv id) ds .returning w':=by
   intro ds
   induction ds with
   | nil =>
    intro w' ok' _
    obtain ⟨v,h1,h20⟩:=res_run ok'.m hres
    have h2:=hle.rep h20
    refine ⟨v,h1,r,h',fun i=>hv' (g i),v,rfl,hR,hback.rep h2,hback.hm ok'.m.hm,ok'.fr,fun b hb hlt=>ok'.own b (hback.mine hb) hlt,fun id cs hid=>?_⟩
    have hmem:id∈s'.kp:=by rw [hkp];exact mem_boxes.2 ⟨cs,hid⟩
    obtain ⟨e1,e2⟩:=hgk id hmem
    exact ⟨e2,by show hv' (g id)=hv id;rw [e1];exact (ok'.box id hmem).2⟩
   | cons d ds ih =>
    intro w' ok' mk'
    obtain ⟨D,e1,e2,e3⟩:=mk'.1 d (by simp)
    refine ⟨by simp,.inl ⟨D,_,e1,run_takeDeferred e3,?_⟩⟩
    have hw:=List.pairwise_cons.1 mk'.2.1
    refine ih _ (ok'.turn (Cel.putObj e3 rfl) fun b h1 _=>World.putObj_heap_other fun e=>?_) ⟨fun d' hd'=>?_,hw.2,by have:=mk'.2.2.1;simpa using this,fun l hl=>by cases hl⟩
    ·have h1:b<w.heap.size:=h1
     omega
    ·obtain ⟨D',f1,f2,f3⟩:=mk'.1 d' (by simp [hd'])
     refine ⟨D',f1,f2,?_⟩
     rw [World.putObj_heap_other (fun e=>hw.1 d' hd' (by rw [e1,f1,e]))]
     exact f3
  exact main a'.defers w' ok' mk'
 cases e with
 | normal=>exact key hq.1 hq.2
 | ret=>exact key hq.1 hq.2
 | _=>exact hq.elim
theorem ret_pure {P:Program} {fn:Func} {R:AV→Heap→Prop} {s:ASt} {r r0:AV} (hk:s.kp=[]) (hi:r.ids=[]) (hr:r.ren (fun i=>i)=r) (hres:Res P fn s r0) (hle:TLe r0 r) (hR:R r []):RetOk P fn R s :=
 ⟨r,[],fun i=>i,r0,hres,by rw [hr];exact hle,hR,⟨fun id hid=>by (rw [hi] at hid;cases hid),fun id b hb=>by (cases hb),fun i j hi=>by (cases hi)⟩,fun id hid=>by rw [hk] at hid;cases hid⟩
theorem ret_row {P:Program} {fn:Func} {R:AV→Heap→Prop} {s:ASt} {r r0:AV} (k:Nat) {e sz n:Nat} {el:Nat→List CV} (hk:s.kp=[]) (hi:r.ids.all (fun i=>Nat.beq i 0)=true) (hb:look s.heap k=some (.row e sz n el)) (hres:Res P fn s r0) (hle:TLe r0 (r.ren fun _=>k)) (hR:R r [(0,some (.row e sz n el))]):RetOk P fn R s:=by
 have h0:∀i,(look [(0,some (.row e sz n el))] i).isSome=true→i=0:=fun i hi=>by
  rw [look_cons] at hi
  by_cases h:0=i
  ·exact h.symm
  ·rw [if_neg h] at hi;cases hi
 refine ⟨r,_,fun _=>k,r0,hres,hle,hR,⟨fun id hid=>?_,fun id b hb2=>?_,fun i j hi hj _=>(h0 i hi).trans (h0 j hj).symm⟩,fun id hid=>by rw [hk] at hid;cases hid⟩
 ·have:=List.all_eq_true.1 hi id hid
  have h1:=Nat.eq_of_beq_eq_true this
  subst h1
  rfl
 ·have h1:=h0 id (by rw [hb2];rfl)
  subst h1
  rw [look_same] at hb2
  injection hb2 with hb2
  subst hb2
  exact ⟨hb,fun j hj=>by simp [Blk.ids] at hj⟩
def envIds (env:List (Nat×AV)):List Nat:=env.flatMap fun p=>p.2.ids
def heapIds (h:Heap):List Nat:=h.flatMap fun p=>match p.2 with|some b=>b.ids|none=>[]
theorem get_ids:∀{env:List (Nat×AV)} {t j:Nat},j∈(get env t).ids→j∈envIds env
 | [],t,j,h=>by simp [get,AV.ids,AV.ids1,CV.ids] at h
 | (k,v)::r,t,j,h=>by
  rw [get_cons] at h
  unfold envIds
  rw [List.flatMap_cons,List.mem_append]
  by_cases hk:k=t
  ·rw [if_pos hk] at h;exact .inl h
  ·rw [if_neg hk] at h;exact .inr (get_ids h)
theorem look_ids:∀{h:Heap} {id j:Nat} {b:Blk},look h id=some b→j∈b.ids→j∈heapIds h
 | [],_,_,_,h,_=>by cases h
 | (k,x)::r,id,j,b,h,hj=>by
  rw [look_cons] at h
  unfold heapIds
  rw [List.flatMap_cons,List.mem_append]
  by_cases hk:k=id
  ·rw [if_pos hk] at h;subst h;exact .inl hj
  ·rw [if_neg hk] at h;exact .inr (look_ids h hj)
structure Weak (s s':ASt):Prop where
 nt:s'.nt=s.nt
 kp:s'.kp=s.kp
 env:∀p,p∈s'.env→VLe (get s.env p.1) p.2
 heap:∀p,p∈s'.heap→BLe (look s.heap p.1) p.2
 ids:∀j,j∈s'.kp++envIds s'.env++heapIds s'.heap→(look s'.heap j).isSome=true
theorem get_mem:∀{env:List (Nat×AV)} {t:Nat},get env t=.one .any∨(t,get env t)∈env
 | [],t=>.inl rfl
 | (k,v)::r,t=>by
  rw [get_cons]
  by_cases hk:k=t
  ·rw [if_pos hk,←hk];exact .inr (by simp)
  ·rw [if_neg hk];exact get_mem.imp id fun h=>List.mem_cons_of_mem _ h
theorem look_pair:∀{h:Heap} {id:Nat} {b:Blk},look h id=some b→(id,some b)∈h
 | [],_,_,h=>by cases h
 | (k,x)::r,id,b,h=>by
  rw [look_cons] at h
  by_cases hk:k=id
  ·rw [if_pos hk] at h;subst hk;subst h;simp
  ·rw [if_neg hk] at h;exact List.mem_cons_of_mem _ (look_pair h)
theorem Weak.kind {s s':ASt} (k:Weak s s') {id:Nat} {b:Blk} (hb:look s'.heap id=some b):∃b0,look s.heap id=some b0∧BLe (some b0) (some b):=by
 have h:=k.heap _ (look_pair hb)
 cases hl:look s.heap id with
 | none=>rw [hl] at h;cases h
 | some b0=>rw [hl] at h;exact ⟨b0,rfl,h⟩
theorem Weak.ok {s s':ASt} (k:Weak s s') {U T:Nat→Prop} {w0:Base} {a:Act} {w:World} {hv:Nat→Value} (ok:Ok U T w0 s a w hv):Ok U T w0 s' a w hv:=by
 have hmine:∀b,mine s'.heap hv b→mine s.heap hv b:=by
  rintro b ⟨id,x,h1,h2⟩
  obtain ⟨b0,h3,_⟩:=k.kind h1
  exact ⟨id,b0,h3,h2⟩
 have hA:∀b,(U b∨mine s'.heap hv b)→(U b∨mine s.heap hv b):=fun b hb=>hb.imp (fun x=>x) (hmine b)
 have hpass:∀id,(look s'.heap id).isSome=true→Pass s.heap hv s'.heap hv id:=fun id hal=>by
  obtain ⟨b,hb⟩:=Option.isSome_iff_exists.1 hal
  obtain ⟨b0,h3,h4⟩:=k.kind hb
  refine ⟨?_,?_,fun _=>rfl,?_⟩
  ·rintro ⟨e,sz,n,el,h5⟩
   rw [h3] at h5
   injection h5 with h5
   subst h5
   cases h4 with
   | refl=>exact ⟨_,_,_,_,hb⟩
   | row=>exact ⟨_,_,_,_,hb⟩
  ·rintro ⟨cs,h5⟩
   rw [h3] at h5
   injection h5 with h5
   subst h5
   cases h4 with
   | refl=>exact ⟨_,hb⟩
   | box=>exact ⟨_,hb⟩
  ·rintro ⟨s0,p0,h5⟩
   rw [h3] at h5
   injection h5 with h5
   subst h5
   cases h4 with
   | refl=>exact ⟨_,_,hb⟩
 have hal:∀{t j:Nat},j∈(get s'.env t).ids→(look s'.heap j).isSome=true:=fun {t j} hj=>k.ids j (by simp [get_ids hj])
 refine ⟨⟨by rw [k.nt];exact ok.m.nt,ok.m.defers,fun t=>?_,?_⟩,ok.fr,fun b hb hlt=>ok.own b (hmine b hb) hlt,fun id hid=>?_⟩
 ·rcases get_mem (env:=s'.env) (t:=t) with h|h
  ·rw [h];exact trivial
  ·have h1:=(k.env _ h).rep (ok.m.env t)
   exact h1.keep (fun id hid=>hpass id (hal hid)) (Fr.refl (fun _=>False) w) (fun _ e=>e.elim) fun b _=>hA b
 ·refine ⟨fun id b hb=>?_,fun i j x y b h1 h2 h3 h4=>?_,fun b hb=>ok.m.hm.avoid b (hmine b hb),ok.m.hm.ult,ok.m.hm.tab.sub hmine⟩
  ·obtain ⟨b0,h1,h2⟩:=k.kind hb
   exact (h2.rep (ok.m.hm.blk id b0 h1)).keep (fun j hj=>hpass j (k.ids j (by simp [look_ids hb hj]))) rfl (Fr.refl (fun _=>False) w) (fun _ e=>e.elim) (fun b _=>hA b) (fun _ _ e=>e)
  ·obtain ⟨x0,h5,_⟩:=k.kind h1
   obtain ⟨y0,h6,_⟩:=k.kind h2
   exact ok.m.hm.inj i j x0 y0 b h5 h6 h3 h4
 ·rw [k.kp] at hid
  obtain ⟨hb,h2⟩:=ok.box id hid
  exact ⟨(hpass id (k.ids id (by rw [k.kp];simp [hid]))).box hb,h2⟩
section
variable {P:Program} {s s':ASt} {Q:Exit→ASt→Prop}
theorem aw_weak {c:Code} (k:Weak s s') (h:AW P c s' Q):AW P c s Q:=fun n r U T w0 a w hv ok mk=>h n r U T w0 a w hv (k.ok ok) mk
theorem aops_weak {ops:Array Oper} {l:List Oper} (k:Weak s s') (h:AOps P ops l s' Q):AOps P ops l s Q:=fun U T w0 a w hv ok=>h U T w0 a w hv (k.ok ok)
theorem ziF {ι:Type} {F:Fence} {n:Nat} {c:Code} {Q:Exit→Act→World→Prop} {a:Act} {w:World} (I:ι→Act→World→Prop) (μ:ι→Nat) (i0:ι) (h0:I i0 a w)
  (round:∀i a w,I i a w→c.wpIn F n P (Exit.then (fun a' w'=>∃j,μ j<μ i∧I j a' w') Q) a w):(Code.loop c).wpIn F n P Q a w:=by
 intro b k cs hro hb hr
 have key:∀m i a w,μ i=m→I i a w→∃e a' w',Q e a' w'∧ArrivesIn (Machine.fenced P F) P (lone (b.atR a (.code c::.inLoop c::k)) cs w) b k cs e a' w':=by
  intro m
  induction m using Nat.strongRecOn with
  | _ m ih =>
   intro i a w hn hI
   obtain ⟨e,a₁,w₁,hq,harr⟩:=round i a w hI b (.inLoop c::k) cs hro hb hr
   cases e with
   | normal =>
    obtain ⟨j,hlt,hI₁⟩:=hq
    obtain ⟨e₂,a₂,w₂,hq₂,harr₂⟩:=ih (μ j) (hn▸hlt) j a₁ w₁ rfl hI₁
    exact ⟨e₂,a₂,w₂,hq₂,.of_steps (StepsIn.trans harr (.one (fenced_calm hb hr rfl) stepR_inLoop)) harr₂⟩
   | exit id=>exact ⟨_,a₁,w₁,hq,.pass (x:=.inLoop c) rfl (fun _ _=>.inl (by simp)) harr⟩
   | goto l=>exact ⟨_,a₁,w₁,hq,.pass (x:=.inLoop c) rfl (fun _ _=>.inl (by simp)) harr⟩
   | ret=>exact ⟨_,a₁,w₁,hq,.pass (x:=.inLoop c) rfl (fun _ _=>.inl (by simp)) harr⟩
   | panic ch=>exact ⟨_,a₁,w₁,hq,.pass (x:=.inLoop c) rfl (fun _ _=>.inl (by simp)) harr⟩
   | outgrown=>exact ⟨_,a₁,w₁,hq,.pass (x:=.inLoop c) rfl (fun _ _=>.inl (by simp)) harr⟩
 obtain ⟨e,a',w',hq,harr⟩:=key _ i0 a w rfl h0
 exact ⟨e,a',w',hq,.of_steps (.one (fenced_calm hb hr rfl) stepR_loop) harr⟩
abbrev Again {ι:Type} (inv:ι→ASt) (μ:ι→Nat) (i:ι) (Q:Exit→ASt→Prop):Exit→ASt→Prop:=fun e s=>match e with
 | .normal=>∃j,μ j<μ i∧Weak s (inv j)
 | e=>Q e s
theorem aw_loop {ι:Type} {c:Code} (inv:ι→ASt) (μ:ι→Nat) (i0:ι) (h0:Weak s (inv i0)) (round:∀i,AW P c (inv i) (Again inv μ i Q)):AW P (.loop c) s Q:=fun n r U T w0 a w hv ok mk =>
 ziF (fun i a w=>(∃hv,Ok U T w0 (inv i) (bare a) w hv)∧Marks n r a.defers w) μ i0 ⟨⟨hv,h0.ok ok⟩,mk⟩ fun i a w ⟨⟨hv,ok⟩,mk⟩=>wpIn_mono (round i n r U T w0 a w hv ok mk) fun e a w ⟨⟨hc,s',hv',hq,ok'⟩,mk'⟩=>by
  cases e with
  | normal=>obtain ⟨j,h1,h2⟩:=hq;exact ⟨j,h1,⟨hv',h2.ok ok'⟩,mk'⟩
  | outgrown=>cases hc
  | _=>exact ⟨⟨rfl,s',hv',hq,ok'⟩,mk'⟩
end
end Abs
end Go.Proofs.YtclffekkjfhpdaaGreat

