import Derived.Test.YtclffekkjfhpdaaGreatQAbsJ
import Derived.Orders
namespace Go.Proofs.YtclffekkjfhpdaaGreat
open Go.ChangeShapes Go.WideShapes Go.RowKit
set_option linter.unusedVariables false
set_option linter.unusedSimpArgs false
namespace Abs
class IsFn (P:Program) (f:FuncId):Prop where
 h:∀(args:Array Value) (w:World),(callFunc f args).run P w=.ok (.enter f args) w
theorem isFn_of {P : Program} {f : FuncId} {fn : Func} (hf : P.funcs[f]? = some fn) (hn : (fn.name == "runtime.NumGoroutine") = false) (hb : fn.body.isNone = false) : IsFn P f :=
 ⟨fun args w=>by
  have hn' : ¬ fn.name = "runtime.NumGoroutine" := by simpa using hn
  have hb':¬fn.body=none:=fun e=>by rw [e] at hb;cases hb
  simp [callFunc,hf,hn',hb']⟩
def gOf (ρ:List Nat) (i:Nat):Nat:=ρ.getD i 0
theorem gOf_idx {ρ:List Nat} {j:Nat} (h:j∈ρ):ρ.idxOf j<ρ.length∧gOf ρ (ρ.idxOf j)=j:=by
 have hlt:=List.idxOf_lt_length_of_mem h
 refine ⟨hlt,?_⟩
 simp [gOf,List.getD,List.getElem?_eq_getElem hlt]
theorem idx_gOf {ρ:List Nat} (hn:ρ.Nodup) {i:Nat} (h:i<ρ.length):gOf ρ i∈ρ∧ρ.idxOf (gOf ρ i)=i:=by
 have e:gOf ρ i=ρ[i]:=by simp [gOf,List.getD,List.getElem?_eq_getElem h]
 rw [e]
 exact ⟨List.getElem_mem h,hn.idxOf_getElem i h⟩
def backHeap (ρ:List Nat) (h':Heap):Heap:=(List.range ρ.length).map fun i=>(gOf ρ i,(look h' i).map (Blk.ren (gOf ρ)))
theorem zhU {ρ:List Nat} (hn:ρ.Nodup) (F:Nat→Option Blk) (H:Heap) (j:Nat):∀(l:List Nat),l.Nodup→(∀i∈l,i<ρ.length) →
  look (l.map (fun i=>(gOf ρ i,F i))++H) j=if j∈ρ∧ρ.idxOf j∈l then F (ρ.idxOf j) else look H j
 | [],_,_=>by simp
 | i::l,hl,hlt=>by
  rw [List.map_cons,List.cons_append,look_cons,zhU hn F H j l (List.nodup_cons.1 hl).2 fun k hk=>hlt k (by simp [hk])]
  obtain ⟨h1,h2⟩:=idx_gOf hn (hlt i (by simp))
  by_cases hj:gOf ρ i=j
  ·subst hj
   rw [if_pos rfl,if_pos ⟨h1,by rw [h2];simp⟩,h2]
  ·rw [if_neg hj]
   have hne:¬(j∈ρ∧ρ.idxOf j=i):=fun ⟨h3,h4⟩=>hj (by rw [←h4];exact (gOf_idx h3).2)
   by_cases hc:j∈ρ∧ρ.idxOf j∈l
   ·rw [if_pos hc,if_pos ⟨hc.1,List.mem_cons_of_mem _ hc.2⟩]
   ·rw [if_neg hc,if_neg]
    rintro ⟨h3,h4⟩
    rcases List.mem_cons.1 h4 with h5|h5
    ·exact hne ⟨h3,h5⟩
    ·exact hc ⟨h3,h5⟩
theorem look_back {ρ:List Nat} (hn:ρ.Nodup) (h' H:Heap) (j:Nat):look (backHeap ρ h'++H) j=if j∈ρ then (look h' (ρ.idxOf j)).map (Blk.ren (gOf ρ)) else look H j:=by
 unfold backHeap
 rw [zhU hn (fun i=>(look h' i).map (Blk.ren (gOf ρ))) H j (List.range ρ.length) List.nodup_range fun i hi=>List.mem_range.1 hi]
 by_cases hj:j∈ρ
 ·rw [if_pos hj,if_pos ⟨hj,List.mem_range.2 (gOf_idx hj).1⟩]
 ·rw [if_neg hj,if_neg fun h=>hj h.1]
def killL (l:List Nat) (s:ASt):ASt:=l.foldl ASt.kill s
section
variable {U T:Nat→Prop} {w0:Base} {w w':World} {a:Act} {hv:Nat→Value}
theorem Ok.killL:∀(l:List Nat) {s:ASt},Ok U T w0 s a w hv→Ok U T w0 (killL l s) a w hv
 | [],_,ok=>ok
 | id::l,_,ok=>Ok.killL l (ok.kill id)
theorem zhs:∀(l:List Nat) (s:ASt) (j:Nat),Pass s.heap hv (killL l s).heap hv j
 | [],s,j=>Pass.refl _ _ j
 | id::l,s,j=>by
  have h1:=kill_pass (hv:=hv) (id:=id) s j
  have h2:=zhs l (s.kill id) j
  exact ⟨fun x=>h2.row (h1.row x),fun x=>h2.box (h1.box x),fun _=>rfl,fun x=>h2.it (h1.it x)⟩
theorem zfm:∀(l:List Nat) (s:ASt) (i:Nat),(look (killL l s).heap i).isSome=(look s.heap i).isSome
 | [],_,_=>rfl
 | id::l,s,i=>by
  show (look (Abs.killL l (s.kill id)).heap i).isSome=_
  rw [zfm l (s.kill id) i,look_kill]
  cases look s.heap i with
  | none=>rfl
  | some b=>cases b<;>rfl
theorem killL_nt:∀(l:List Nat) (s:ASt),(killL l s).nt=s.nt
 | [],_=>rfl
 | id::l,s=>killL_nt l (s.kill id)
theorem killC_sub {id j:Nat} {c:CV} (h:j∈(killC id c).ids):j∈c.ids:=by
 cases c with
 | own i=>simp only [killC] at h;cases hb:Nat.beq i id<;>rw [hb] at h<;>first|exact h|simp [CV.ids] at h
 | ptr i o=>simp only [killC] at h;cases hb:Nat.beq i id<;>rw [hb] at h<;>first|exact h|simp [CV.ids] at h
 | rptr i sz j o=>simp only [killC] at h;cases hb:Nat.beq i id<;>rw [hb] at h<;>first|exact h|simp [CV.ids] at h
 | itp i=>simp only [killC] at h;cases hb:Nat.beq i id<;>rw [hb] at h<;>first|exact h|simp [CV.ids] at h
 | fn f caps=>simp only [killC] at h;cases hb:(caps.flatMap capIds).any (fun i=>Nat.beq i id)<;>rw [hb] at h<;>first|exact h|simp [CV.ids] at h
 | val v=>exact h
 | slc n el=>exact h
 | cptr cs=>exact h
 | emp0=>exact h
 | full n el=>exact h
 | ifc=>exact h
 | any=>exact h
theorem zhE {id j:Nat} {x:AV} (h:j∈(killV1 id x).ids1):j∈x.ids1:=by
 cases x with
 | one c=>exact killC_sub h
 | agg cs =>
  obtain ⟨c,hc,hj⟩:=List.mem_flatMap.1 h
  obtain ⟨c',hc',rfl⟩:=List.mem_map.1 hc
  exact List.mem_flatMap.2 ⟨c',hc',killC_sub hj⟩
 | tup vs=>exact h
theorem killV_sub {id j:Nat} {x:AV} (h:j∈(killV id x).ids):j∈x.ids:=by
 cases x with
 | tup vs =>
  obtain ⟨c,hc,hj⟩:=List.mem_flatMap.1 h
  obtain ⟨c',hc',rfl⟩:=List.mem_map.1 hc
  exact List.mem_flatMap.2 ⟨c',hc',zhE hj⟩
 | one c=>exact zhE (x:=.one c) h
 | agg cs=>exact zhE (x:=.agg cs) h
theorem killL_env:∀(l:List Nat) (s:ASt) (t j:Nat),j∈(get (killL l s).env t).ids→j∈(get s.env t).ids∧j∉l
 | [],_,_,_,h=>⟨h,by simp⟩
 | id::l,s,t,j,h=>by
  obtain ⟨h1,h2⟩:=killL_env l (s.kill id) t j h
  have h3:=kill_env s t j h1
  rw [get_kill] at h1
  exact ⟨killV_sub h1,by simp [h3,h2]⟩
theorem killL_blk:∀(l:List Nat) (s:ASt) {i:Nat} {b:Blk},look (killL l s).heap i=some b→∀j,j∈b.ids→j∉l
 | [],_,_,_,_,_,_=>by simp
 | id::l,s,i,b,h,j,hj=>by
  have h2:=killL_blk l (s.kill id) h j hj
  have key:∀(l:List Nat) (s:ASt),look (Abs.killL l s).heap i=some b→∃b0,look s.heap i=some b0∧∀j,j∈b.ids→j∈b0.ids:=by
   intro l
   induction l with
   | nil=>exact fun s h=>⟨b,h,fun j hj=>hj⟩
   | cons k l ih =>
    intro s h
    obtain ⟨b1,h3,h4⟩:=ih (s.kill k) h
    rw [look_kill] at h3
    cases hl:look s.heap i with
    | none=>rw [hl] at h3;cases h3
    | some y =>
     rw [hl] at h3
     refine ⟨y,rfl,fun j hj=>?_⟩
     have h5:=h4 j hj
     cases y with
     | box cs =>
      simp only [killB,Option.some.injEq] at h3
      subst h3
      obtain ⟨c,hc,hj⟩:=List.mem_flatMap.1 h5
      obtain ⟨c',hc',rfl⟩:=List.mem_map.1 hc
      exact List.mem_flatMap.2 ⟨c',hc',killC_sub hj⟩
     | row e sz n el =>
      simp only [killB,Option.some.injEq] at h3
      subst h3
      exact h5
     | iter s' pos =>
      simp only [killB,Option.some.injEq] at h3
      subst h3
      exact h5
  obtain ⟨b0,h3,h4⟩:=key l (s.kill id) h
  have h5:=kill_blk s h3 j (h4 j hj)
  simp [h5,h2]
end
inductive ArgC (H:Heap) (g:Nat→Nat) (L:List Nat):CV→CV→Prop
 | ren (c:CV):ArgC H g L (c.ren g) c
 | lend {id e sz n:Nat} {el:Nat→List CV} (h:look H id=some (.row e sz n el)) (hL:id∈L):ArgC H g L (.own id) (.slc n el)
 | le {c c':CV} (h:CLe c c') (hc:c'.ids=[]):ArgC H g L c c'
inductive ArgV (H:Heap) (g:Nat→Nat) (L:List Nat):AV→AV→Prop
 | one {c c':CV} (h:ArgC H g L c c'):ArgV H g L (.one c) (.one c')
 | agg {cs cs':List CV} (h:All2 (ArgC H g L) cs cs'):ArgV H g L (.agg cs) (.agg cs')
theorem own_read {U:Nat→Prop} {h:Heap} {w:World} {hv:Nat→Value} (hm:HM U h w hv) {id e sz n:Nat} {el:Nat→List CV} (hb:look h id=some (.row e sz n el)) {A':Nat→Prop} (hA:∀b,blockOf (hv id)=some b→¬A' b) (hA2:∀b,A' b→(U b∨mine h hv b)):RepC A' w (.slc n el) (hv id):=by
 obtain ⟨vs,h1,h2,h3⟩:=hm.blk id _ hb
 have hget:∀(i j:Nat) (c:CV),i<n→(el i)[j]?=some c→vs[i*sz+j]?=some (vs.getD (i*sz+j) undef):=fun i j c hi hj=>by
  obtain ⟨u,h4,_⟩:=h3 i j c hi hj
  rw [List.getD,h4]
  rfl
 rcases h1.2 with ⟨h4,h5⟩|⟨g,cap,cur,h4,h5,h6,h7,h8,h9,h10⟩
 ·rw [h4,h5];exact RepC.nil _
 ·rw [h4]
  refine RepC.slc n el sz g 0 cap (fun i j=>vs.getD (i*sz+j) undef) (Array.getElem?_eq_some_iff.1 h6).1 (hA g (by rw [h4];rfl)) h7 h8 h2 (fun i j c hi hj=>?_) (fun i j c hi hj=>?_)
  ·rw [Nat.zero_add]
   have h11:=h1.cells (g:=g) (by rw [h4];rfl) _ _ (hget i j c hi hj)
   rw [add_at,Nat.zero_add] at h11
   exact h11
  ·obtain ⟨u,h11,h12⟩:=h3 i j c hi hj
   rw [hget i j c hi hj] at h11
   injection h11 with h11
   simp only [h11]
   exact h12.keep (Fr.refl (fun _=>False) w) (fun _ e=>e.elim) fun b _=>hA2 b
def CV.scal:CV→Bool
 | .slc _ _=>false
 | .full _ _=>false
 | .cptr _=>false
 | .fn _ _=>false
 | _=>true
def AV.scal1:AV→Bool
 | .one c=>c.scal
 | .agg cs=>cs.all CV.scal
 | .tup _=>true
def AV.scal:AV→Bool
 | .tup vs=>vs.all AV.scal1
 | .one c=>c.scal
 | .agg cs=>cs.all CV.scal
def Blk.scal:Blk→Prop
 | .box cs=>cs.all CV.scal=true
 | .row _ _ n el=>∀i,i<n→(el i).all CV.scal=true
 | .iter _ _=>True
section
variable {h:Heap} {hv:Nat→Value} {A A':Nat→Prop} {w:World}
theorem scal_c {c:CV} {v:Value} (hs:c.scal=true) (hr:RepC A w c v):RepC A' w c v:=by
 cases hr with
 | val v h=>exact .val v h
 | nil el=>exact .nil el
 | emp=>cases hs
 | emp0 Ad=>exact .emp0 Ad
 | full=>cases hs
 | ifc t p=>exact .ifc t p
 | fnc=>cases hs
 | slc=>cases hs
 | cptr=>cases hs
theorem scal_t {c:CV} {v:Value} (hs:c.scal=true) (hr:RepT h hv A w c v):RepT h hv A' w c v:=by
 cases c with
 | own i=>exact hr
 | ptr i o=>exact hr
 | rptr i sz j o=>exact hr
 | itp i=>exact hr
 | val v=>exact scal_c hs hr
 | emp0=>exact scal_c hs hr
 | full n el=>exact scal_c hs hr
 | ifc=>exact scal_c hs hr
 | any=>exact hr
 | slc n el=>cases hs
 | cptr cs=>cases hs
 | fn f caps=>cases hs
theorem scal_1 {x:AV} {v:Value} (hs:x.scal1=true) (hr:Rep1 h hv A w x v):Rep1 h hv A' w x v:=by
 cases x with
 | one c=>exact scal_t hs hr
 | agg cs=>obtain ⟨vs,e,k⟩:=hr;exact ⟨vs,e,k.impMem fun c v hc hr=>scal_t (List.all_eq_true.1 hs c hc) hr⟩
 | tup vs=>exact hr
theorem scal_v {x:AV} {v:Value} (hs:x.scal=true) (hr:RepV h hv A w x v):RepV h hv A' w x v:=by
 cases x with
 | tup xs=>obtain ⟨vs,e,k⟩:=hr;exact ⟨vs,e,k.impMem fun c v hc hr=>scal_1 (List.all_eq_true.1 hs c hc) hr⟩
 | one c=>exact scal_1 (x:=.one c) hs hr
 | agg cs=>exact scal_1 (x:=.agg cs) hs hr
theorem scal_b {id:Nat} {b:Blk} (hs:b.scal) (hr:BlkRep h hv A w id b):BlkRep h hv A' w id b:=by
 cases b with
 | box cs=>obtain ⟨g,vs,t,e1,e2,k⟩:=hr;exact ⟨g,vs,t,e1,e2,k.impMem fun c v hc hr=>scal_t (List.all_eq_true.1 hs c hc) hr⟩
 | row e sz n el =>
  obtain ⟨vs,e1,e2,e3⟩:=hr
  refine ⟨vs,e1,e2,fun i j c hi hj=>?_⟩
  obtain ⟨u,h4,h5⟩:=e3 i j c hi hj
  exact ⟨u,h4,scal_c (List.all_eq_true.1 (hs i hi) c (List.mem_of_getElem? hj)) h5⟩
 | iter s pos=>exact hr
end
structure CallOk (s:ASt) (ρ L X:List Nat) (xs cargs:List AV) (ch:Heap) (R:AV→Heap→Prop):Prop where
 nodup:ρ.Nodup
 args:All2 (ArgV s.heap (gOf ρ) L) xs cargs
 al:∀x,x∈cargs→∀id,id∈x.ids→(look ch id).isSome=true
 hand:∀id b,look ch id=some b→id<ρ.length∧look s.heap (gOf ρ id)=some (b.ren (gOf ρ))∧(∀j,j∈b.ids→(look ch j).isSome=true)∧(IsRow ch id→gOf ρ id∈X)∧¬IsIter ch id
 fresh:∀i,i<ρ.length→look ch i=none→look s.heap (gOf ρ i)=none
 lent:∀id,id∈L→id∉ρ
 x:∀id,id∈X→∃i,i<ρ.length∧gOf ρ i=id∧IsRow ch i
 res:∀r h',R r h'→(∀id,(look h' id).isSome=true→id<ρ.length)∧(∀id,id∈r.ids→(look h' id).isSome=true)∧(∀id b,look h' id=some b→∀j,j∈b.ids→(look h' j).isSome=true) ∧
  (L=[]∨(r.scal=true∧∀id b,look h' id=some b→b.scal))
def callEnd (s:ASt) (ρ X:List Nat) (d:Option Nat) (r:AV) (h':Heap):ASt:=ASt.put { killL X s with heap:=backHeap ρ h'++(killL X s).heap } d (r.ren (gOf ρ))
section
variable {P:Program} {s:ASt} {d:Option Nat} {ty:TypeId} {pos:String} {af:Array Edge} {g:Option (Nat×Bool)}
theorem evals_rep {U:Nat→Prop} {a:Act} {w:World} {hv:Nat→Value} (m:M U s a w hv):∀(xs:List Operand),All2 (RepV s.heap hv (fun b=>U b∨mine s.heap hv b) w) (xs.map s.ev) (xs.map a.eval)
 | []=>.nil
 | x::xs=>.cons (m.ev x) (evals_rep m xs)
theorem ev_call_g {f:FuncId} {op:Op} {xs:List AV} (hop0:∀(U:Nat→Prop) (a:Act) (w:World) (hv:Nat→Value),M U s a w hv→∃vs:List Value,(execOp a.eval ⟨d,op,ty,pos,af,g⟩).run P w=.ok (.enter f vs.toArray) w∧All2 (RepV s.heap hv (fun b=>U b∨mine s.heap hv b) w) xs vs) (ρ L X:List Nat) {cargs:List AV} {ch:Heap} {R:AV→Heap→Prop} (hfn:FnC P f cargs ch R)
  (k:CallOk s ρ L X xs cargs ch R) (hd:dOk s d=true) :
  Ev P X s ⟨d,op,ty,pos,af,g⟩ (fun s'=>∃r h',R r h'∧s'=callEnd s ρ X d r h') :=
 fun U T w0 a w hv ok K Q hK=>by
  obtain ⟨avs,hop,h0⟩:=hop0 U a w hv ok.m
  have hm:=ok.m.hm

  let Uc:Nat→Prop:=fun b=>b<w.heap.size∧(U b∨∃j x,look s.heap j=some x∧blockOf (hv j)=some b∧j∉ρ∧j∉L)
  have hUc:∀b,Uc b→(U b∨mine s.heap hv b):=fun b hb=>hb.2.imp (fun x=>x) fun ⟨j,x,h1,h2,_⟩=>⟨j,x,h1,h2⟩
  have hchm:∀b,mine ch (fun i=>hv (gOf ρ i)) b→mine s.heap hv b:=by
   rintro b ⟨i,x,h1,h2⟩
   exact ⟨_,_,(k.hand i x h1).2.1,h2⟩
  have hAc:∀b,(Uc b∨mine ch (fun i=>hv (gOf ρ i)) b)→(U b∨mine s.heap hv b):=fun b hb=>hb.elim (hUc b) fun hb=>.inr (hchm b hb)
  have hlink:∀id,(look ch id).isSome=true→Link ch (fun i=>hv (gOf ρ i)) s.heap hv (gOf ρ) id:=fun id hal=>by
   obtain ⟨b,hb⟩:=Option.isSome_iff_exists.1 hal
   obtain ⟨_,h1,_⟩:=k.hand id b hb
   exact Link.of hb h1 rfl
  have hginj:∀i j,i<ρ.length→j<ρ.length→gOf ρ i=gOf ρ j→i=j:=fun i j hi hj e=>by
   rw [←(idx_gOf k.nodup hi).2,e,(idx_gOf k.nodup hj).2]
  have hmc:HM Uc ch w (fun i=>hv (gOf ρ i)):=by
   refine ⟨fun id b hb=>?_,fun i j x y b h1 h2 h3 h4=>?_,fun b hb hu=>?_,fun b hb=>hb.1,hm.tab.sub hchm⟩
   ·obtain ⟨_,h1,h2,_⟩:=k.hand id b hb
    exact blk_weak ((blk_ren (fun j hj=>hlink j (h2 j hj)) rfl).2 (hm.blk _ _ h1)) hAc
   ·obtain ⟨l1,e1,_⟩:=k.hand i x h1
    obtain ⟨l2,e2,_⟩:=k.hand j y h2
    exact hginj i j l1 l2 (hm.inj _ _ _ _ b e1 e2 h3 h4)
   ·rcases hu.2 with hu|⟨j,x,h1,h2,h3,_⟩
    ·exact hm.avoid b (hchm b hb) hu
    ·obtain ⟨i,y,h4,h5⟩:=hb
     obtain ⟨l1,e1,_⟩:=k.hand i y h4
     have:=hm.inj _ _ _ _ b h1 e1 h2 h5
     rw [this] at h3
     exact h3 (idx_gOf k.nodup l1).1
  have hargs:All2 (RepV ch (fun i=>hv (gOf ρ i)) (fun b=>Uc b∨mine ch (fun i=>hv (gOf ρ i)) b) w) cargs avs:=by
   have key:∀{xs cs:List AV} {vs:List Value},All2 (ArgV s.heap (gOf ρ) L) xs cs→(∀x,x∈cs→∀id,id∈x.ids→(look ch id).isSome=true)→All2 (RepV s.heap hv (fun b=>U b∨mine s.heap hv b) w) xs vs→All2 (RepV ch (fun i=>hv (gOf ρ i)) (fun b=>Uc b∨mine ch (fun i=>hv (gOf ρ i)) b) w) cs vs:=by
    have kc:∀{c c':CV} {v:Value},ArgC s.heap (gOf ρ) L c c'→(∀id,id∈c'.ids→(look ch id).isSome=true)→RepT s.heap hv (fun b=>U b∨mine s.heap hv b) w c v→RepT ch (fun i=>hv (gOf ρ i)) (fun b=>Uc b∨mine ch (fun i=>hv (gOf ρ i)) b) w c' v:=by
     intro c c' v hc hal hr
     have weak:∀{c:CV} {v:Value},RepT ch (fun i=>hv (gOf ρ i)) (fun b=>U b∨mine s.heap hv b) w c v→RepT ch (fun i=>hv (gOf ρ i)) (fun b=>Uc b∨mine ch (fun i=>hv (gOf ρ i)) b) w c v:=fun hr=>hr.keep (fun id _=>Pass.refl _ _ id) (Fr.refl (fun _=>False) w) (fun _ e=>e.elim) fun b _=>hAc b
     cases hc with
     | ren _=>exact weak ((repT_ren fun id hid=>hlink id (hal id hid)).2 hr)
     | lend hl hL =>
      rename_i id e sz n el
      obtain ⟨_,hv2,_⟩:=hr
      rw [hv2]
      refine (own_read hm hl (A':=fun b=>Uc b∨mine ch (fun i=>hv (gOf ρ i)) b) (fun b hb hA=>?_) hAc:RepC _ w (.slc n el) (hv id))
      rcases hA with ⟨_,hu|⟨j,x,h1,h2,_,h4⟩⟩|⟨i,x,h1,h2⟩
      ·exact hm.avoid b ⟨id,_,hl,hb⟩ hu
      ·exact h4 (by rw [hm.inj _ _ _ _ b h1 hl h2 hb];exact hL)
      ·obtain ⟨l1,e1,_⟩:=k.hand i x h1
       have:=hm.inj _ _ _ _ b e1 hl h2 hb
       exact k.lent id hL (by rw [←this];exact (idx_gOf k.nodup l1).1)
     | le hle hc =>
      have h1:RepT s.heap hv (fun b=>U b∨mine s.heap hv b) w c' v:=hle.rep hr
      refine weak (h1.keep (fun id hid=>?_) (Fr.refl (fun _=>False) w) (fun _ e=>e.elim) fun b _ e=>e)
      rw [hc] at hid;cases hid
    have kcs:∀{cs cs':List CV},All2 (ArgC s.heap (gOf ρ) L) cs cs'→∀{us:List Value},(∀c,c∈cs'→∀id,id∈c.ids→(look ch id).isSome=true)→All2 (RepT s.heap hv (fun b=>U b∨mine s.heap hv b) w) cs us →
      All2 (RepT ch (fun i=>hv (gOf ρ i)) (fun b=>Uc b∨mine ch (fun i=>hv (gOf ρ i)) b) w) cs' us:=by
     intro cs cs' h1
     induction h1 with
     | nil=>intro us _ h;cases h;exact .nil
     | cons hx t ih =>
      intro us hal h
      cases h with
      | cons b u=>exact .cons (kc hx (hal _ (by simp)) b) (ih (fun c hc=>hal c (by simp [hc])) u)
    intro xs cs vs h1
    induction h1 generalizing vs with
    | nil=>intro _ h;cases h;exact .nil
    | @cons x c xs cs hx t ih =>
     intro hal h
     cases h with
     | cons b u =>
      refine .cons ?_ (ih (fun y hy=>hal y (by simp [hy])) u)
      have halx:=hal c (by simp)
      cases hx with
      | one hc=>exact kc hc halx b
      | agg hcs =>
       obtain ⟨us,e,h2⟩:=b
       exact ⟨us,e,kcs hcs (fun c hc id hid=>halx id (List.mem_flatMap.2 ⟨c,hc,hid⟩)) h2⟩
   exact key k.args k.al h0
  have hcall:=hfn Uc (mine ch (fun i=>hv (gOf ρ i))) w avs.toArray (fun i=>hv (gOf ρ i)) (by simpa using hargs) hmc fun b hb=>hb
  unfold Oper.wp
  rw [hop,Oper.upon_enter]
  refine hcall.mono fun e w' hpost=>?_
  obtain ⟨r,h',hv',v,rfl,hR,hrep,hm',hfr,hown,hbox⟩:=hpost
  obtain ⟨hlt',hral,hbal,hscal⟩:=k.res r h' hR
  have ok1:=ok.killL X
  let hv2:Nat→Value:=fun j=>if j∈ρ then hv' (ρ.idxOf j) else hv j
  let H2:Heap:=backHeap ρ h'++(killL X s).heap
  have inL:∀j,j∈ρ→look H2 j=(look h' (ρ.idxOf j)).map (Blk.ren (gOf ρ)):=fun j hj=>by
   show look (backHeap ρ h'++(killL X s).heap) j=_
   rw [look_back k.nodup,if_pos hj]
  have inV:∀j,j∈ρ→hv2 j=hv' (ρ.idxOf j):=fun j hj=>if_pos hj
  have outL:∀j,j∉ρ→look H2 j=look (killL X s).heap j:=fun j hj=>by
   show look (backHeap ρ h'++(killL X s).heap) j=_
   rw [look_back k.nodup,if_neg hj]
  have outV:∀j,j∉ρ→hv2 j=hv j:=fun j hj=>if_neg hj
  have gL:∀i,i<ρ.length→look H2 (gOf ρ i)=(look h' i).map (Blk.ren (gOf ρ)):=fun i hi=>by
   obtain ⟨h1,h2⟩:=idx_gOf k.nodup hi
   rw [inL _ h1,h2]
  have gV:∀i,i<ρ.length→hv2 (gOf ρ i)=hv' i:=fun i hi=>by
   obtain ⟨h1,h2⟩:=idx_gOf k.nodup hi
   rw [inV _ h1,h2]
  have up1:∀b,mine s.heap hv b→mine (killL X s).heap hv b:=by
   rintro b ⟨j,x,h1,h2⟩
   have h3:=zfm X s j
   rw [h1] at h3
   obtain ⟨y,hy⟩:=Option.isSome_iff_exists.1 h3
   exact ⟨j,y,hy,h2⟩
  have mapSome:∀{i:Nat} {x:Blk},(look h' i).map (Blk.ren (gOf ρ))=some x→∃y,look h' i=some y∧y.ren (gOf ρ)=x:=fun {i x} h=>by
   cases hl:look h' i with
   | none=>rw [hl] at h;cases h
   | some y=>rw [hl] at h;injection h with h;exact ⟨y,rfl,h⟩
  have mine2:∀b,mine H2 hv2 b→(∃i y,i<ρ.length∧look h' i=some y∧blockOf (hv' i)=some b)∨(∃j x,j∉ρ∧look s.heap j=some x∧blockOf (hv j)=some b):=by
   rintro b ⟨j,x,h1,h2⟩
   by_cases hj:j∈ρ
   ·rw [inL j hj] at h1
    rw [inV j hj] at h2
    obtain ⟨y,h3,_⟩:=mapSome h1
    exact .inl ⟨_,y,(gOf_idx hj).1,h3,h2⟩
   ·rw [outL j hj] at h1
    rw [outV j hj] at h2
    have h3:=zfm X s j
    rw [h1] at h3
    obtain ⟨y,hy⟩:=Option.isSome_iff_exists.1 h3.symm
    exact .inr ⟨j,y,hj,hy,h2⟩
  have hmine2:∀b,mine H2 hv2 b→b<w.heap.size→mine s.heap hv b:=by
   intro b hb hlt
   rcases mine2 b hb with ⟨i,y,_,h1,h2⟩|⟨j,x,_,h1,h2⟩
   ·exact hchm b (hown b ⟨i,y,h1,h2⟩ hlt)
   ·exact ⟨j,x,h1,h2⟩
  have hA2:∀b,b<w.heap.size→(U b∨mine H2 hv2 b)→(U b∨mine (killL X s).heap hv b):=fun b hlt hb=>hb.imp (fun x=>x) fun hb=>up1 b (hmine2 b hb hlt)
  have hAr:L=[]→∀b,(U b∨mine H2 hv2 b)→(Uc b∨mine h' hv' b):=fun hL b hb=>by
   rcases hb with hb|hb
   ·exact .inl ⟨hm.ult b hb,.inl hb⟩
   ·rcases mine2 b hb with ⟨i,y,_,h1,h2⟩|⟨j,x,hj,h1,h2⟩
    ·exact .inr ⟨i,y,h1,h2⟩
    ·exact .inl ⟨hm.lt ⟨j,x,h1,h2⟩,.inr ⟨j,x,h1,h2,hj,by rw [hL];simp⟩⟩
  have hpass:∀j,j∉X→Pass (killL X s).heap hv H2 hv2 j:=fun j hjX=>by
   by_cases hj:j∈ρ
   ·obtain ⟨hi,hg⟩:=gOf_idx hj
    have hal:(∃b,look (killL X s).heap j=some b)→IsBox H2 j∧hv2 j=hv j∧∃cs,look s.heap j=some (.box cs):=by
     rintro ⟨b,hb⟩
     have h3:=zfm X s j
     rw [hb] at h3
     obtain ⟨y,hy⟩:=Option.isSome_iff_exists.1 h3.symm
     cases hc:look ch (ρ.idxOf j) with
     | none=>have:=k.fresh _ hi hc;rw [hg,hy] at this;cases this
     | some x =>
      obtain ⟨_,h4,_,h5,h5'⟩:=k.hand _ x hc
      cases x with
      | row e sz n el=>rw [hg] at h5;exact absurd (h5 ⟨_,_,_,_,hc⟩) hjX
      | iter s' pos=>exact absurd ⟨_,_,hc⟩ h5'
      | box cs =>
       obtain ⟨⟨cs',h6⟩,h7⟩:=hbox _ cs hc
       rw [hg] at h4 h7
       exact ⟨⟨_,by rw [inL j hj,h6];rfl⟩,by rw [inV j hj,h7],_,h4⟩
    refine ⟨fun ⟨e,sz,n,el,hr⟩=>?_,fun ⟨cs,hr⟩=>(hal ⟨_,hr⟩).1,fun he=>(hal he).2.1,fun ⟨s',p,hr⟩=>?_⟩
    all_goals
     obtain ⟨_,_,cs,h8⟩:=hal ⟨_,hr⟩
     obtain ⟨cs',h9⟩:=(zhs (hv:=hv) X s j).box ⟨cs,h8⟩
     rw [hr] at h9;cases h9
   ·exact ⟨fun x=>by rw [outL j hj];exact x,fun x=>by rw [outL j hj];exact x,fun _=>outV j hj,fun x=>by rw [outL j hj];exact x⟩
  have link2:∀i,(look h' i).isSome=true→Link h' hv' H2 hv2 (gOf ρ) i:=fun i hal=>by
   have hi:=hlt' i hal
   obtain ⟨b,hb⟩:=Option.isSome_iff_exists.1 hal
   have h1:=gL i hi
   rw [hb] at h1
   exact Link.of hb h1 (gV i hi)
  have hTm:∀b,mine ch (fun i=>hv (gOf ρ i)) b→(U b∨mine (killL X s).heap hv b):=fun b hb=>.inr (up1 b (hchm b hb))
  have hm2:HM U H2 w' hv2:=by
   refine ⟨fun j b hb=>?_,fun j j' x y b h1 h2 h3 h4=>?_,fun b hb hu=>?_,fun b hb=>Nat.lt_of_lt_of_le (hm.ult b hb) hfr.size,fun b cs e=>⟨(hm'.tab b cs e).1,fun m=>(mine2 b m).elim (fun ⟨i,y,_,h1,h2⟩=>(hm'.tab b cs e).2 ⟨i,y,h1,h2⟩) fun ⟨j,x,_,h1,h2⟩=>(hm.tab b cs e).2 ⟨j,x,h1,h2⟩⟩⟩
   ·by_cases hj:j∈ρ
    ·obtain ⟨hi,hg⟩:=gOf_idx hj
     rw [inL j hj] at hb
     obtain ⟨y,h1,rfl⟩:=mapSome hb
     have h2:=hm'.blk _ y h1
     have h3:BlkRep h' hv' (fun b=>U b∨mine H2 hv2 b) w' (ρ.idxOf j) y:=by
      rcases hscal with hL|⟨_,hs⟩
      ·exact blk_weak h2 (hAr hL)
      ·exact scal_b (hs _ _ h1) h2
     have h4:=(blk_ren (g:=gOf ρ) (h2:=H2) (hv2:=hv2) (fun i hi2=>link2 i (hbal _ y h1 i hi2)) (gV _ hi)).1 h3
     rw [hg] at h4
     exact h4
    ·rw [outL j hj] at hb
     refine (ok1.m.hm.blk j b hb).keep (fun i hi=>hpass i (killL_blk X s hb i hi)) (outV j hj) hfr hTm hA2 fun q hq hT=>?_
     obtain ⟨i,x,h1,h2⟩:=hT
     obtain ⟨l1,e1,_⟩:=k.hand i x h1
     have h3:=zfm X s j
     rw [hb] at h3
     obtain ⟨y,hy⟩:=Option.isSome_iff_exists.1 h3.symm
     have:=hm.inj _ _ _ _ q e1 hy h2 hq
     exact hj (by rw [←this];exact (idx_gOf k.nodup l1).1)
   ·have mix:∀i j,i∈ρ→j∉ρ→∀x y,look H2 i=some x→look H2 j=some y→blockOf (hv2 i)=some b→blockOf (hv2 j)=some b→False:=by
     intro i j hi hj x y h1 h2 h3 h4
     rw [inL i hi] at h1
     rw [inV i hi] at h3
     rw [outL j hj] at h2
     rw [outV j hj] at h4
     obtain ⟨y1,h5,_⟩:=mapSome h1
     have h6:=zfm X s j
     rw [h2] at h6
     obtain ⟨y2,hy⟩:=Option.isSome_iff_exists.1 h6.symm
     obtain ⟨q,z,h7,h8⟩:=hown b ⟨_,y1,h5,h3⟩ (hm.lt ⟨j,y2,hy,h4⟩)
     obtain ⟨l1,e1,_⟩:=k.hand q z h7
     have:=hm.inj _ _ _ _ b e1 hy h8 h4
     exact hj (by rw [←this];exact (idx_gOf k.nodup l1).1)
    by_cases hj:j∈ρ
    ·by_cases hj':j'∈ρ
     ·rw [inL j hj] at h1
      rw [inL j' hj'] at h2
      rw [inV j hj] at h3
      rw [inV j' hj'] at h4
      obtain ⟨y1,h5,_⟩:=mapSome h1
      obtain ⟨y2,h6,_⟩:=mapSome h2
      have:=hm'.inj _ _ _ _ b h5 h6 h3 h4
      rw [←(gOf_idx hj).2,this,(gOf_idx hj').2]
     ·exact (mix j j' hj hj' x y h1 h2 h3 h4).elim
    ·by_cases hj':j'∈ρ
     ·exact (mix j' j hj' hj y x h2 h1 h4 h3).elim
     ·rw [outL j hj] at h1
      rw [outL j' hj'] at h2
      rw [outV j hj] at h3
      rw [outV j' hj'] at h4
      exact ok1.m.hm.inj _ _ _ _ b h1 h2 h3 h4
   ·rcases mine2 b hb with ⟨i,y,_,h1,h2⟩|⟨j,x,_,h1,h2⟩
    ·exact hm'.avoid b ⟨i,y,h1,h2⟩ ⟨hm.ult b hu,.inl hu⟩
    ·exact hm.avoid b ⟨j,x,h1,h2⟩ hu
  have hrep2:RepV H2 hv2 (fun b=>U b∨mine H2 hv2 b) w' (r.ren (gOf ρ)) v:=by
   refine (repV_ren fun id hid=>link2 id (hral id hid)).1 ?_
   rcases hscal with hL|⟨hs,_⟩
   ·exact rep_weak hrep (hAr hL)
   ·exact scal_v hs hrep
  have hXnew:∀id,id∈(killL X s).kp→id∉X:=fun id hid hX=>by
   obtain ⟨⟨cs,h1⟩,_⟩:=ok1.box id hid
   obtain ⟨i,hi,hg,hrow⟩:=k.x id hX
   obtain ⟨e,sz,n,el,h2⟩:=hrow
   obtain ⟨_,h3,_⟩:=k.hand i _ h2
   rw [hg] at h3
   obtain ⟨_,_,_,_,h4⟩:=(zhs (hv:=hv) X s id).row ⟨_,_,_,_,h3⟩
   rw [h1] at h4;cases h4
  have hd1:dOk (killL X s) d=true:=by
   cases d with
   | none=>rfl
   | some t=>simp only [dOk,killL_nt];exact hd
  refine hK _ v w' hv2 ⟨r,h',hR,rfl⟩ (ok1.next hfr (fun b hb=>up1 b (hchm b hb)) (fun t j hj=>hpass j (killL_env X s t j hj).2) (fun j hj=>hpass j (hXnew j hj)) hm2 (fun b hb hlt=>up1 b (hmine2 b hb hlt)) hrep2 hd1) fun id hid hal=>?_
  obtain ⟨b,hb⟩:=hal
  have h3:=zfm X s id
  rw [hb] at h3
  obtain ⟨y,hy⟩:=Option.isSome_iff_exists.1 h3
  exact (hpass id hid).hv ⟨y,hy⟩
theorem ev_call {f:FuncId} [hF:IsFn P f] {args:List Operand} {tys:Array TypeId} (ρ L X:List Nat) {cargs:List AV} {ch:Heap} {R:AV→Heap→Prop} (hfn:FnC P f cargs ch R)
  (k:CallOk s ρ L X (args.map s.ev) cargs ch R) (hd:dOk s d=true) :
  Ev P X s ⟨d,.call { callee:=.value (.func f),args:=args.toArray,argTypes:=tys },ty,pos,af,g⟩ (fun s'=>∃r h',R r h'∧s'=callEnd s ρ X d r h') :=
 ev_call_g (fun U a w hv m=>⟨args.map a.eval,by
  simp only [execOp,resolve,Sem.run_bind,Sem.run_pure,Result.andThen_ok]
  have:(Deferred.ofValue (a.eval (.func f)) (Array.map a.eval args.toArray)).run P w=.ok { target:=.fn (.func f) #[],args:=(args.map a.eval).toArray } w:=by
   simp [Act.eval,Deferred.ofValue]
  rw [this]
  simp only [Result.andThen_ok,invoke,Array.append_empty]
  exact hF.h _ w,evals_rep m args⟩) ρ L X hfn k hd
theorem ziD {f:FuncId} [hF:IsFn P f] {x:Operand} {caps:List CV} {args:List Operand} {tys:Array TypeId} (hx:s.ev x=.one (.fn f caps)) (hcf:∀c∈caps,∀f' l,c≠.fn f' l) (ρ L X:List Nat) {cargs:List AV} {ch:Heap} {R:AV→Heap→Prop} (hfn:FnC P f cargs ch R)
  (k:CallOk s ρ L X (args.map s.ev++caps.map .one) cargs ch R) (hd:dOk s d=true) :
  Ev P X s ⟨d,.call { callee:=.value x,args:=args.toArray,argTypes:=tys },ty,pos,af,g⟩ (fun s'=>∃r h',R r h'∧s'=callEnd s ρ X d r h') :=
 ev_call_g (fun U a w hv m=>by
  have hr:=m.ev x
  rw [hx] at hr
  obtain ⟨vs,h1,h2⟩:=(show ∃vs:List Value,a.eval x=.func (.func f) #[] vs.toArray∧All2 (RepP s.heap hv (fun b=>U b∨mine s.heap hv b) w) caps vs from hr)
  refine ⟨args.map a.eval++vs,?_,?_⟩
  ·simp only [execOp,resolve,Sem.run_bind,Sem.run_pure,Result.andThen_ok]
   have:(Deferred.ofValue (a.eval x) (Array.map a.eval args.toArray)).run P w=.ok { target:=.fn (.func f) vs.toArray,args:=(args.map a.eval).toArray } w:=by
    simp [h1,Deferred.ofValue]
   rw [this]
   simp only [Result.andThen_ok,invoke]
   have e:(args.map a.eval).toArray++vs.toArray=(args.map a.eval++vs).toArray:=by simp
   rw [e]
   exact hF.h _ w
  ·have hc:All2 (RepV s.heap hv (fun b=>U b∨mine s.heap hv b) w) (caps.map .one) vs:=by
    clear hx h1 k hr
    induction h2 with
    | nil=>exact .nil
    | @cons c v cs us hcv t ih =>
     refine .cons ?_ (ih (fun c hc=>hcf c (by simp [hc])))
     show RepT s.heap hv _ w c v
     cases c with
     | fn f' l=>exact absurd rfl (hcf _ (by simp) f' l)
     | _=>exact hcv
   have app:∀{xs ys:List AV} {us ws:List Value},All2 (RepV s.heap hv (fun b=>U b∨mine s.heap hv b) w) xs us→All2 (RepV s.heap hv (fun b=>U b∨mine s.heap hv b) w) ys ws→All2 (RepV s.heap hv (fun b=>U b∨mine s.heap hv b) w) (xs++ys) (us++ws):=fun h1 h2=>by
    induction h1 with
    | nil=>exact h2
    | cons h t ih=>exact .cons h ih
   exact app (evals_rep m args) hc) ρ L X hfn k hd
end
end Abs
end Go.Proofs.YtclffekkjfhpdaaGreat
namespace Go.Proofs.YtclffekkjfhpdaaGreat
open Go.ChangeShapes Go.WideShapes Go.RowKit
set_option linter.unusedVariables false
set_option linter.unusedSimpArgs false
namespace Abs
def frzC (id n:Nat) (el:Nat→List CV):CV→CV
 | .own i=>bif Nat.beq i id then .slc n el else .own i
 | c=>killC id c
def frzV1 (id n:Nat) (el:Nat→List CV):AV→AV
 | .one c=>.one (frzC id n el c)
 | .agg cs=>.agg (cs.map (frzC id n el))
 | v=>v
def frzV (id n:Nat) (el:Nat→List CV):AV→AV
 | .tup vs=>.tup (vs.map (frzV1 id n el))
 | .one c=>.one (frzC id n el c)
 | .agg cs=>.agg (cs.map (frzC id n el))
def frzB (id n:Nat) (el:Nat→List CV):Option Blk→Option Blk
 | some (.box cs)=>some (.box (cs.map (frzC id n el)))
 | b=>b
def ASt.freeze (s:ASt) (id n:Nat) (el:Nat→List CV):ASt:={ s with env:=s.env.map fun p=>(p.1,frzV id n el p.2),heap:=(id,none)::s.heap.map fun p=>(p.1,frzB id n el p.2) }
section
variable {U T:Nat→Prop} {w0:Base} {w:World} {s:ASt} {a:Act} {hv:Nat→Value} {id n e sz:Nat} {el:Nat→List CV}
theorem look_frz (s:ASt) (i:Nat):look (s.freeze id n el).heap i=if id=i then none else frzB id n el (look s.heap i):=by
 unfold ASt.freeze
 rw [look_cons,look_map _ rfl]
theorem frzC_ids {j:Nat} {c:CV} (h:j∈(frzC id n el c).ids):j∈c.ids∧j≠id:=by
 cases c with
 | own i =>
  simp only [frzC] at h
  cases hb:Nat.beq i id<;>rw [hb] at h
  ·simp [CV.ids] at h;subst h;exact ⟨by simp [CV.ids],beq_ne hb⟩
  ·simp [CV.ids] at h
 | ptr i o=>exact ⟨killC_sub h,killC_ids (.ptr i o) j h⟩
 | rptr i sz j' o=>exact ⟨killC_sub h,killC_ids (.rptr i sz j' o) j h⟩
 | itp i=>exact ⟨killC_sub h,killC_ids (.itp i) j h⟩
 | fn f caps=>exact ⟨killC_sub h,killC_ids (.fn f caps) j h⟩
 | val v=>simp [frzC,killC,CV.ids] at h
 | slc n el=>simp [frzC,killC,CV.ids] at h
 | cptr cs=>simp [frzC,killC,CV.ids] at h
 | emp0=>simp [frzC,killC,CV.ids] at h
 | full n el=>simp [frzC,killC,CV.ids] at h
 | ifc=>simp [frzC,killC,CV.ids] at h
 | any=>simp [frzC,killC,CV.ids] at h
theorem Ok.freeze (ok:Ok U T w0 s a w hv) (hb:look s.heap id=some (.row e sz n el)):Ok U T w0 (s.freeze id n el) a w hv:=by
 have hm:=ok.m.hm
 have hsome:∀{i:Nat} {b:Blk},look (s.freeze id n el).heap i=some b→id≠i∧∃b0,look s.heap i=some b0∧frzB id n el (some b0)=some b:=by
  intro i b h
  rw [look_frz] at h
  by_cases hi:id=i
  ·rw [if_pos hi] at h;cases h
  ·rw [if_neg hi] at h
   cases hl:look s.heap i with
   | none=>rw [hl] at h;cases h
   | some b0=>rw [hl] at h;exact ⟨hi,b0,rfl,h⟩
 have hmine:∀b,mine (s.freeze id n el).heap hv b→mine s.heap hv b∧blockOf (hv id)≠some b:=by
  rintro b ⟨i,x,h1,h2⟩
  obtain ⟨hi,b0,h3,_⟩:=hsome h1
  exact ⟨⟨i,b0,h3,h2⟩,fun h4=>hi (hm.inj _ _ _ _ b hb h3 h4 h2)⟩
 have hA:∀b,(U b∨mine (s.freeze id n el).heap hv b)→(U b∨mine s.heap hv b):=fun b hb=>hb.imp (fun x=>x) fun hb=>(hmine b hb).1
 have hrd:RepC (fun b=>U b∨mine (s.freeze id n el).heap hv b) w (.slc n el) (hv id):=own_read hm hb (fun b h1 h2=>h2.elim (hm.avoid b ⟨id,_,hb,h1⟩) fun h2=>(hmine b h2).2 h1) hA
 have hpass:∀j,j≠id→Pass s.heap hv (s.freeze id n el).heap hv j:=fun j hj=>by
  refine ⟨?_,?_,fun _=>rfl,?_⟩
  ·rintro ⟨e,sz,m,el',h⟩;exact ⟨e,sz,m,el',by rw [look_frz,if_neg (Ne.symm hj),h];rfl⟩
  ·rintro ⟨cs,h⟩;exact ⟨cs.map (frzC id n el),by rw [look_frz,if_neg (Ne.symm hj),h];rfl⟩
  ·rintro ⟨s',p,h⟩;exact ⟨s',p,by rw [look_frz,if_neg (Ne.symm hj),h];rfl⟩
 have kT:∀{c:CV} {v:Value},RepT s.heap hv (fun b=>U b∨mine s.heap hv b) w c v→RepT (s.freeze id n el).heap hv (fun b=>U b∨mine (s.freeze id n el).heap hv b) w (frzC id n el c) v:=by
  intro c v hr
  have other:RepT s.heap hv (fun b=>U b∨mine s.heap hv b) w (frzC id n el c) v→RepT (s.freeze id n el).heap hv (fun b=>U b∨mine (s.freeze id n el).heap hv b) w (frzC id n el c) v :=
   fun h=>h.keep (fun j hj=>hpass j (frzC_ids hj).2) (Fr.refl (fun _=>False) w) (fun _ e=>e.elim) fun b _=>hA b
  cases c with
  | own i =>
   simp only [frzC] at other ⊢
   cases hbq:Nat.beq i id with
   | false=>rw [hbq] at other;exact other hr
   | true =>
    have hi:=Nat.eq_of_beq_eq_true hbq
    subst hi
    obtain ⟨_,hv2,_⟩:=hr
    rw [hv2]
    exact hrd
  | ptr i o=>exact other (killC_rep hr)
  | rptr i sz j o=>exact other (killC_rep hr)
  | itp i=>exact other (killC_rep hr)
  | fn f caps=>exact other (killC_rep hr)
  | val v=>exact other hr
  | slc n el=>exact other hr
  | cptr cs=>exact other hr
  | emp0=>exact other hr
  | full n el=>exact other hr
  | ifc=>exact other hr
  | any=>exact trivial
 have k1:∀{x:AV} {v:Value},Rep1 s.heap hv (fun b=>U b∨mine s.heap hv b) w x v→Rep1 (s.freeze id n el).heap hv (fun b=>U b∨mine (s.freeze id n el).heap hv b) w (frzV1 id n el x) v:=by
  intro x v hr
  cases x with
  | one c=>exact kT hr
  | agg cs=>obtain ⟨vs,e,h2⟩:=hr;exact ⟨vs,e,h2.mapL _ fun x y hxy=>kT hxy⟩
  | tup vs=>exact hr
 refine ⟨⟨ok.m.nt,ok.m.defers,fun t=>?_,?_⟩,ok.fr,fun b hb hlt=>ok.own b (hmine b hb).1 hlt,fun i hi=>?_⟩
 ·have hg:get (s.freeze id n el).env t=frzV id n el (get s.env t):=get_map _ rfl _ _
  rw [hg]
  have hr:=ok.m.env t
  cases hx:get s.env t with
  | tup vs=>rw [hx] at hr;obtain ⟨us,e,h2⟩:=hr;exact ⟨us,e,h2.mapL _ fun x y hxy=>k1 hxy⟩
  | one c=>rw [hx] at hr;exact k1 (x:=.one c) hr
  | agg cs=>rw [hx] at hr;exact k1 (x:=.agg cs) hr
 ·refine ⟨fun i b hib=>?_,fun i j x y b h1 h2 h3 h4=>?_,fun b hb=>hm.avoid b (hmine b hb).1,hm.ult,hm.tab.sub fun b hb=>(hmine b hb).1⟩
  ·obtain ⟨hi,b0,h1,h2⟩:=hsome hib
   have h3:=hm.blk i b0 h1
   cases b0 with
   | box cs =>
    simp only [frzB,Option.some.injEq] at h2
    subst h2
    obtain ⟨g,vs,ty,e1,e2,e3⟩:=h3
    exact ⟨g,vs,ty,e1,e2,e3.mapL _ fun x y hxy=>kT hxy⟩
   | row e sz m el' =>
    simp only [frzB,Option.some.injEq] at h2
    subst h2
    obtain ⟨vs,e1,e2,e3⟩:=h3
    refine ⟨vs,e1,e2,fun i j c hi hj=>?_⟩
    obtain ⟨u,h4,h5⟩:=e3 i j c hi hj
    exact ⟨u,h4,h5.keep (Fr.refl (fun _=>False) w) (fun _ e=>e.elim) fun b _=>hA b⟩
   | iter s' pos =>
    simp only [frzB,Option.some.injEq] at h2
    subst h2
    exact h3
  ·obtain ⟨_,x0,h5,_⟩:=hsome h1
   obtain ⟨_,y0,h6,_⟩:=hsome h2
   exact hm.inj i j x0 y0 b h5 h6 h3 h4
 ·obtain ⟨⟨cs,h1⟩,h2⟩:=ok.box i hi
  have hne:i≠id:=fun e=>by subst e;rw [hb] at h1;cases h1
  exact ⟨(hpass i hne).box ⟨cs,h1⟩,h2⟩
end
section
variable {P:Program} {s:ASt} {Q:Exit→ASt→Prop} {id n e sz:Nat} {el:Nat→List CV}
theorem aw_freeze (id:Nat) {c:Code} (hb:look s.heap id=some (.row e sz n el)) (h:AW P c (s.freeze id n el) Q):AW P c s Q:=fun n r U T w0 a w hv ok mk=>h n r U T w0 a w hv (ok.freeze hb) mk
theorem zae (id:Nat) {ops:Array Oper} {l:List Oper} (hb:look s.heap id=some (.row e sz n el)) (h:AOps P ops l (s.freeze id n el) Q):AOps P ops l s Q:=fun U T w0 a w hv ok=>h U T w0 a w hv (ok.freeze hb)
end
end Abs
end Go.Proofs.YtclffekkjfhpdaaGreat

