import Derived.Test.YtclffekkjfhpdaaGreatQAbsE
import Derived.Laws.MakeOwn
import Derived.Laws.BytesArg
import Derived.Lib.AppendStr
namespace Go.Proofs.YtclffekkjfhpdaaGreat
open Go.ChangeShapes Go.WideShapes Go.RowKit
set_option linter.unusedVariables false
set_option linter.unusedSimpArgs false
namespace Abs
theorem RepC.one {A:Nat→Prop} {w:World} {c:CV} {v:Value} (h:RepC A w c v):v.oneCell'=true:=by
 cases h with
 | val v h=>exact h
 | _=>rfl
def CV.read:CV→Bool
 | .val _=>true
 | .slc _ _=>true
 | .cptr _=>true
 | .emp0=>true
 | .full _ _=>true
 | _=>false
theorem RepT.read {h:Heap} {hv:Nat→Value} {A:Nat→Prop} {w:World} {c:CV} {v:Value} (hr:RepT h hv A w c v) (hc:c.read=true):RepC A w c v:=by
 cases c<;>first|exact hr|cases hc
def Src (A:Nat→Prop) (w:World) (v:Value) (n sz:Nat) (el:Nat→List CV):Prop :=
 ∃Ad cap news,v=.slice Ad n cap∧n≤cap∧cap≤maxLen∧Kit.Flat w w.heap.size Ad news∧news.length=n*sz∧(∀u∈news,u.oneCell'=true) ∧
  ∀(i j:Nat) (c:CV),i<n→(el i)[j]?=some c→∃u,news[i*sz+j]?=some u∧RepC A w c u
theorem src_slc {A:Nat→Prop} {w:World} {v:Value} {n sz:Nat} {el:Nat→List CV} (h:RepC A w (.slc n el) v) (hs:∀i,i<n→(el i).length=sz) (h0:0<sz):Src A w v n sz el:=by
 rcases RepC.slc_inv h with ⟨rfl,Ad,c0,rfl,hc0,_⟩|⟨size,b,off,cap,vals,rfl,hb,hA,hc,hm,hsz,hcell,hrep⟩
 ·exact ⟨Ad,c0,[],rfl,Nat.zero_le _,hc0,Kit.Flat.nil _ _ _,by simp,fun u hu=>absurd hu (by simp),fun i j c hi=>by omega⟩
 ·have hsize:∀i,i<n→size=sz:=fun i hi=>(hsz i hi).symm.trans (hs i hi)
  have hget:∀(i j:Nat),i<n→j<sz→((List.range (n*sz)).map fun q=>vals (q/sz) (q%sz))[i*sz+j]?=some (vals i j):=by
   intro i j hi hj
   have hlt:i*sz+j<n*sz:=by
    have:=Nat.mul_le_mul_right sz (Nat.succ_le_of_lt hi)
    rw [Nat.succ_mul] at this
    omega
   rw [List.getElem?_map,List.getElem?_range hlt,Option.map_some]
   congr 2
   ·rw [Nat.add_comm,Nat.add_mul_div_right _ _ h0,Nat.div_eq_of_lt hj,Nat.zero_add]
   ·rw [Nat.add_comm,Nat.add_mul_mod_self_right,Nat.mod_eq_of_lt hj]
  have hjl:∀{i j:Nat} {c:CV},i<n→(el i)[j]?=some c→j<sz:=fun {i j c} hi hj=>by rw [←hs i hi];exact (List.getElem?_eq_some_iff.1 hj).1
  have hback:∀(q:Nat) (u:Value),((List.range (n*sz)).map fun q=>vals (q/sz) (q%sz))[q]?=some u→∃i j,i<n∧j<sz∧q=i*sz+j∧u=vals i j:=by
   intro q u hq
   have hlt:q<n*sz:=by
    obtain ⟨h,_⟩:=List.getElem?_eq_some_iff.1 hq
    simpa using h
   rw [List.getElem?_map,List.getElem?_range hlt,Option.map_some] at hq
   injection hq with hq
   exact ⟨q/sz,q%sz,Nat.div_lt_of_lt_mul (by rw [Nat.mul_comm];exact hlt),Nat.mod_lt _ h0,by rw [Nat.mul_comm];exact (Nat.div_add_mod q sz).symm,hq.symm⟩
  have hcl:∀(i j:Nat),i<n→j<sz→∃c,(el i)[j]?=some c:=fun i j hi hj=>⟨_,List.getElem?_eq_getElem (by rw [hs i hi];exact hj)⟩
  refine ⟨some ⟨b,off,none⟩,cap,(List.range (n*sz)).map fun q=>vals (q/sz) (q%sz),rfl,hc,hm,fun _=>⟨b,off,rfl,hb,fun q u hq=>?_⟩,by simp,fun u hu=>?_,fun i j c hi hj=>⟨_,hget i j hi (hjl hi hj),hrep i j c hi hj⟩⟩
  ·obtain ⟨i,j,hi,hj,rfl,rfl⟩:=hback q u hq
   obtain ⟨c,hcj⟩:=hcl i j hi hj
   have h1:=hcell i j c hi hcj
   rwa [hsize i hi] at h1
  ·obtain ⟨q,hq⟩:=List.mem_iff_getElem?.1 hu
   obtain ⟨i,j,hi,hj,rfl,rfl⟩:=hback q u hq
   obtain ⟨c,hcj⟩:=hcl i j hi hj
   exact (hrep i j c hi hcj).one
theorem row_cells {A:Nat→Prop} {w:World} {n sz:Nat} {el:Nat→List CV} {vs:List Value} (hl:vs.length=n*sz) (hs:∀i,i<n→(el i).length=sz) (hr:∀(i j:Nat) (c:CV),i<n→(el i)[j]?=some c→∃u,vs[i*sz+j]?=some u∧RepC A w c u):∀u∈vs,u.oneCell'=true:=by
 intro u hu
 obtain ⟨q,hq⟩:=List.mem_iff_getElem?.1 hu
 have hlt:q<n*sz:=by rw [←hl];exact (List.getElem?_eq_some_iff.1 hq).1
 have h0:0<sz:=by
  rcases Nat.eq_zero_or_pos sz with h|h
  ·rw [h] at hlt;omega
  ·exact h
 have hi:q/sz<n:=Nat.div_lt_of_lt_mul (by rw [Nat.mul_comm];exact hlt)
 have hj:q%sz<sz:=Nat.mod_lt _ h0
 have hc:(el (q/sz))[q%sz]?=some _:=List.getElem?_eq_getElem (by rw [hs _ hi];exact hj)
 obtain ⟨u',h1,h2⟩:=hr _ _ _ hi hc
 rw [Nat.mul_comm,Nat.div_add_mod,hq] at h1
 injection h1 with h1
 subst h1
 exact h2.one
theorem src_own {U:Nat→Prop} {s:ASt} {a:Act} {w:World} {hv:Nat→Value} {e sz n id:Nat} {el:Nat→List CV} (m:M U s a w hv) (hb:look s.heap id=some (.row e sz n el)):Src (fun b=>U b∨mine s.heap hv b) w (hv id) n sz el:=by
 obtain ⟨vs,h1,h2,h3⟩:=m.hm.blk id _ hb
 obtain ⟨A,c,h4,h5,h6,h7⟩:=Kit.own_slice h1
 exact ⟨A,c,vs,h4,h5,h6,h7,h1.1,row_cells h1.1 h2 h3,h3⟩
def killC (id:Nat):CV→CV
 | .own i=>bif Nat.beq i id then .any else .own i
 | .rptr i sz j o=>bif Nat.beq i id then .any else .rptr i sz j o
 | .ptr i o=>bif Nat.beq i id then .any else .ptr i o
 | .itp i=>bif Nat.beq i id then .any else .itp i
 | .fn f caps=>bif (caps.flatMap capIds).any (fun i=>Nat.beq i id) then .any else .fn f caps
 | c=>c
def killV1 (id:Nat):AV→AV
 | .one c=>.one (killC id c)
 | .agg cs=>.agg (cs.map (killC id))
 | v=>v
def killV (id:Nat):AV→AV
 | .tup vs=>.tup (vs.map (killV1 id))
 | v=>killV1 id v
def killB (id:Nat):Option Blk→Option Blk
 | some (.box cs)=>some (.box (cs.map (killC id)))
 | b=>b
def ASt.kill (s:ASt) (id:Nat):ASt:={ s with env:=s.env.map fun p=>(p.1,killV id p.2),heap:=s.heap.map fun p=>(p.1,killB id p.2) }
theorem get_map (f:AV→AV) (hf:f (.one .any)=.one .any):∀(env:List (Nat×AV)) (t:Nat),get (env.map fun p=>(p.1,f p.2)) t=f (get env t)
 | [],t=>hf.symm
 | (k,v)::r,t=>by
  rw [List.map_cons,get_cons,get_cons,get_map f hf r t]
  split<;>rfl
theorem look_map (f:Option Blk→Option Blk) (hf:f none=none):∀(h:Heap) (id:Nat),look (h.map fun p=>(p.1,f p.2)) id=f (look h id)
 | [],id=>hf.symm
 | (k,b)::r,id=>by
  rw [List.map_cons,look_cons,look_cons,look_map f hf r id]
  split<;>rfl
section
variable {h:Heap} {hv:Nat→Value} {A:Nat→Prop} {w:World} {id:Nat}
theorem beq_ne {i id:Nat} (h:Nat.beq i id=false):i≠id:=Nat.ne_of_beq_eq_false h
theorem killC_ids (c:CV):∀j,j∈(killC id c).ids→j≠id:=by
 intro j hj
 cases c with
 | own i =>
  simp only [killC] at hj
  cases hb:Nat.beq i id<;>rw [hb] at hj
  ·simp [CV.ids] at hj;subst hj;exact beq_ne hb
  ·simp [CV.ids] at hj
 | ptr i o =>
  simp only [killC] at hj
  cases hb:Nat.beq i id<;>rw [hb] at hj
  ·simp [CV.ids] at hj;subst hj;exact beq_ne hb
  ·simp [CV.ids] at hj
 | rptr i sz j' o =>
  simp only [killC] at hj
  cases hb:Nat.beq i id<;>rw [hb] at hj
  ·simp [CV.ids] at hj;subst hj;exact beq_ne hb
  ·simp [CV.ids] at hj
 | itp i =>
  simp only [killC] at hj
  cases hb:Nat.beq i id<;>rw [hb] at hj
  ·simp [CV.ids] at hj;subst hj;exact beq_ne hb
  ·simp [CV.ids] at hj
 | fn f caps =>
  simp only [killC] at hj
  cases hb:(caps.flatMap capIds).any (fun i=>Nat.beq i id) with
  | true=>rw [hb] at hj;simp [CV.ids] at hj
  | false =>
   rw [hb] at hj
   have h1:=List.any_eq_false.1 hb j hj
   exact fun e=>h1 (by rw [e];exact Nat.beq_refl id)
 | val v=>simp [killC,CV.ids] at hj
 | slc n el=>simp [killC,CV.ids] at hj
 | cptr cs=>simp [killC,CV.ids] at hj
 | emp0=>simp [killC,CV.ids] at hj
 | full n el=>simp [killC,CV.ids] at hj
 | ifc=>simp [killC,CV.ids] at hj
 | any=>simp [killC,CV.ids] at hj
theorem killC_rep {c:CV} {v:Value} (hr:RepT h hv A w c v):RepT h hv A w (killC id c) v:=by
 cases c with
 | own i=>simp only [killC];cases hb:Nat.beq i id<;>simp only [cond_true,cond_false]<;>first|exact hr|exact trivial
 | ptr i o=>simp only [killC];cases hb:Nat.beq i id<;>simp only [cond_true,cond_false]<;>first|exact hr|exact trivial
 | rptr i sz j o=>simp only [killC];cases hb:Nat.beq i id<;>simp only [cond_true,cond_false]<;>first|exact hr|exact trivial
 | itp i=>simp only [killC];cases hb:Nat.beq i id<;>simp only [cond_true,cond_false]<;>first|exact hr|exact trivial
 | fn f caps =>
  simp only [killC]
  cases hb:(caps.flatMap capIds).any (fun i=>Nat.beq i id)<;>simp only [cond_true,cond_false]<;>first|exact hr|exact trivial
 | val v=>exact hr
 | slc n el=>exact hr
 | cptr cs=>exact hr
 | emp0=>exact hr
 | full n el=>exact hr
 | ifc=>exact hr
 | any=>exact hr
theorem zhB {x:AV} {v:Value} (hr:Rep1 h hv A w x v):Rep1 h hv A w (killV1 id x) v:=by
 cases x with
 | one c=>exact killC_rep hr
 | agg cs=>obtain ⟨vs,e,h2⟩:=hr;exact ⟨vs,e,h2.mapL _ fun x y hxy=>killC_rep hxy⟩
 | tup _=>exact hr
theorem killV_rep {x:AV} {v:Value} (hr:RepV h hv A w x v):RepV h hv A w (killV id x) v:=by
 cases x with
 | tup xs=>obtain ⟨vs,e,h2⟩:=hr;exact ⟨vs,e,h2.mapL _ fun x y hxy=>zhB hxy⟩
 | one c=>exact zhB (x:=.one c) hr
 | agg cs=>exact zhB (x:=.agg cs) hr
theorem look_kill (s:ASt) (i:Nat):look (s.kill id).heap i=killB id (look s.heap i):=look_map _ rfl _ _
theorem get_kill (s:ASt) (t:Nat):get (s.kill id).env t=killV id (get s.env t):=get_map _ rfl _ _
end
section
variable {U T:Nat→Prop} {w0:Base} {w w':World} {s:ASt} {a:Act} {hv:Nat→Value} {id:Nat}
theorem kill_pass (s:ASt) (j:Nat):Pass s.heap hv (s.kill id).heap hv j:=by
 refine ⟨?_,?_,fun _=>rfl,?_⟩
 ·rintro ⟨e,sz,n,el,h⟩;exact ⟨e,sz,n,el,by rw [look_kill,h];rfl⟩
 ·rintro ⟨cs,h⟩;exact ⟨cs.map (killC id),by rw [look_kill,h];rfl⟩
 ·rintro ⟨s',p,h⟩;exact ⟨s',p,by rw [look_kill,h];rfl⟩
theorem kill_mine (s:ASt) (b:Nat):mine (s.kill id).heap hv b→mine s.heap hv b:=by
 rintro ⟨i,x,h1,h2⟩
 rw [look_kill] at h1
 cases hl:look s.heap i with
 | none=>rw [hl] at h1;cases h1
 | some y=>exact ⟨i,y,hl,h2⟩
theorem HM.kill (hm:HM U s.heap w hv):HM U (s.kill id).heap w hv:=by
 have hA:∀b,b<w.heap.size→(U b∨mine (s.kill id).heap hv b)→(U b∨mine s.heap hv b):=fun b _ hb=>hb.imp (fun x=>x) (kill_mine s b)
 refine ⟨fun i b hib=>?_,fun i i' x y b h1 h2 h3 h4=>?_,fun b hb=>hm.avoid b (kill_mine s b hb),hm.ult,hm.tab.sub (kill_mine s)⟩
 ·rw [look_kill] at hib
  cases hl:look s.heap i with
  | none=>rw [hl] at hib;cases hib
  | some y =>
   rw [hl] at hib
   have h1:=hm.blk i y hl
   have h2:=h1.keep (fun j _=>kill_pass (hv:=hv) (id:=id) s j) rfl (Fr.refl (fun _=>False) w) (fun _ e=>e.elim) hA (fun _ _ e=>e)
   cases y with
   | box cs =>
    simp only [killB,Option.some.injEq] at hib
    subst hib
    obtain ⟨g,vs,ty,e1,e2,e3⟩:=h2
    exact ⟨g,vs,ty,e1,e2,e3.mapL _ fun x y hxy=>killC_rep hxy⟩
   | row e sz n el =>
    simp only [killB,Option.some.injEq] at hib
    subst hib
    exact h2
   | iter s pos =>
    simp only [killB,Option.some.injEq] at hib
    subst hib
    exact h2
 ·rw [look_kill] at h1 h2
  cases hl:look s.heap i with
  | none=>rw [hl] at h1;cases h1
  | some x' =>
   cases hl':look s.heap i' with
   | none=>rw [hl'] at h2;cases h2
   | some y'=>exact hm.inj i i' x' y' b hl hl' h3 h4
theorem Ok.kill (ok:Ok U T w0 s a w hv) (id:Nat):Ok U T w0 (s.kill id) a w hv:=by
 have hA:∀b,b<w.heap.size→(U b∨mine (s.kill id).heap hv b)→(U b∨mine s.heap hv b):=fun b _ hb=>hb.imp (fun x=>x) (kill_mine s b)
 refine ⟨⟨ok.m.nt,ok.m.defers,fun t=>?_,ok.m.hm.kill⟩,ok.fr,fun b hb hlt=>ok.own b (kill_mine s b hb) hlt,fun i hi=>?_⟩
 ·rw [get_kill]
  exact killV_rep ((ok.m.env t).keep (fun j _=>kill_pass s j) (Fr.refl (fun _=>False) w) (fun _ e=>e.elim) hA)
 ·obtain ⟨h1,h2⟩:=ok.box i hi
  exact ⟨(kill_pass (hv:=hv) (id:=id) s i).box h1,h2⟩
theorem kill_env (s:ASt) (t j:Nat) (hj:j∈(get (s.kill id).env t).ids):j≠id:=by
 rw [get_kill] at hj
 have k1:∀(x:AV),j∈(killV1 id x).ids1→j≠id:=fun x hx=>by
  cases x with
  | one c=>exact killC_ids c j hx
  | agg cs =>
   obtain ⟨c,hc,hjc⟩:=List.mem_flatMap.1 hx
   obtain ⟨c',_,rfl⟩:=List.mem_map.1 hc
   exact killC_ids c' j hjc
  | tup vs=>exact absurd hx (by simp [killV1,AV.ids1])
 cases hx:get s.env t with
 | tup vs =>
  rw [hx] at hj
  obtain ⟨c,hc,hjc⟩:=List.mem_flatMap.1 hj
  obtain ⟨c',_,rfl⟩:=List.mem_map.1 hc
  exact k1 c' hjc
 | one c=>rw [hx] at hj;exact k1 (.one c) hj
 | agg cs=>rw [hx] at hj;exact k1 (.agg cs) hj
theorem kill_blk (s:ASt) {i:Nat} {b:Blk} (hb:look (s.kill id).heap i=some b) (j:Nat) (hj:j∈b.ids):j≠id:=by
 rw [look_kill] at hb
 cases hl:look s.heap i with
 | none=>rw [hl] at hb;cases hb
 | some y =>
  rw [hl] at hb
  cases y with
  | box cs =>
   simp only [killB,Option.some.injEq] at hb
   subst hb
   obtain ⟨c,hc,hjc⟩:=List.mem_flatMap.1 hj
   obtain ⟨c',_,rfl⟩:=List.mem_map.1 hc
   exact killC_ids c' j hjc
  | row e sz n el =>
   simp only [killB,Option.some.injEq] at hb
   subst hb
   exact absurd hj (by simp [Blk.ids])
  | iter s pos =>
   simp only [killB,Option.some.injEq] at hb
   subst hb
   exact absurd hj (by simp [Blk.ids])
theorem Pass.other {h:Heap} {id:Nat} {b:Option Blk} {u:Value} {j:Nat} (hj:j≠id):Pass h hv ((id,b)::h) (upd hv id u) j :=
 ⟨fun x=>by rw [zcQ _ _ (Ne.symm hj)];exact x,fun x=>by rw [zcQ _ _ (Ne.symm hj)];exact x,fun _=>upd_other (Ne.symm hj),fun x=>by rw [zcQ _ _ (Ne.symm hj)];exact x⟩
theorem Ok.regrow (ok:Ok U T w0 s a w hv) {e sz n n':Nat} {el el':Nat→List CV} {v':Value} {vs':List Value} (hb:look s.heap id=some (.row e sz n el))
  (hg:w.grownBy w' (hv id).ownBlock) (hv':v'.ownBlock=(hv id).ownBlock∨v'.ownBlock=some w.heap.size) (ho:w'.ownsRow 0 e sz v' n' vs') (hl:∀i,i<n'→(el' i).length=sz)
  (hr:∀(A':Nat→Prop) (i j:Nat) (c:CV),(∀b,b<w.heap.size→A' b→(U b∨mine s.heap hv b))→i<n'→(el' i)[j]?=some c→∃u,vs'[i*sz+j]?=some u∧RepC A' w' c u) {d:Option Nat} (hd:dOk s d=true) :
  Ok U T w0 (ASt.put { s.kill id with heap:=(id,some (.row e sz n' el'))::(s.kill id).heap } d (.one (.own id))) (a.put d v') w' (upd hv id v'):=by
 have ok':=ok.kill id
 have hb':look (s.kill id).heap id=some (.row e sz n el):=by rw [look_kill,hb];rfl
 have hsl:∃A n c,v'=.slice A n c:=by
  obtain ⟨A,c,h1,_⟩:=Kit.own_slice ho
  exact ⟨A,_,c,h1⟩
 have hbo:∀(v:Value),(∃A n c,v=.slice A n c)→blockOf v=v.ownBlock:=by
  rintro v ⟨A,n,c,rfl⟩
  cases A<;>rfl
 have hsv:∃A n c,hv id=.slice A n c:=by
  obtain ⟨vs,h1,_⟩:=ok.m.hm.blk id _ hb
  obtain ⟨A,c,h2,_⟩:=Kit.own_slice h1
  exact ⟨A,_,c,h2⟩
 have hf:Fr (fun b=>some b=(hv id).ownBlock) w w':=Fr.grown hg fun k hk=>hk.symm
 have hT:∀b,some b=(hv id).ownBlock→(∃x,look (s.kill id).heap id=some x)∧blockOf (hv id)=some b:=fun b hb2=>⟨⟨_,hb'⟩,by rw [hbo _ hsv];exact hb2.symm⟩
 have hu:∀g,blockOf v'=some g→(w.heap.size≤g)∨((∃x,look (s.kill id).heap id=some x)∧blockOf (hv id)=some g):=fun g hg2=>by
  rw [hbo _ hsl] at hg2
  rcases hv' with h1|h1
  ·exact .inr ⟨⟨_,hb'⟩,by rw [hbo _ hsv,←h1];exact hg2⟩
  ·rw [h1] at hg2;injection hg2 with hg2;exact .inl (by omega)
 have hmine:=mine_upd (w:=w) (blk:=.row e sz n' el') (h:=(s.kill id).heap) (hv:=hv) hu
 have hblk:BlkRep ((id,some (.row e sz n' el'))::(s.kill id).heap) (upd hv id v') (fun b=>U b∨mine ((id,some (.row e sz n' el'))::(s.kill id).heap) (upd hv id v') b) w' id (.row e sz n' el') :=
  ⟨vs',by rw [upd_same];exact ho,hl,fun i j c hi hj=>hr _ i j c (fun b hlt h=>h.imp (fun x=>x) fun h=>kill_mine s b (hmine b h hlt)) hi hj⟩
 have hm:=ok'.m.hm.put hf hT hu (fun i b hib hne j hj=>Pass.other (kill_blk s hib j hj)) hblk
 exact ok'.next hf (fun b hb2=>by obtain ⟨⟨x,h1⟩,h2⟩:=hT b hb2;exact ⟨id,x,h1,h2⟩) (fun t j hj=>Pass.other (kill_env s t j hj)) (fun j hj=>Pass.other fun e=>by subst e;obtain ⟨⟨cs,h1⟩,_⟩:=ok'.box j hj;rw [hb'] at h1;cases h1) hm hmine ⟨⟨e,sz,n',el',look_same _ _ _⟩,(upd_same _ _ _).symm,hsl⟩ hd
end
end Abs
end Go.Proofs.YtclffekkjfhpdaaGreat
namespace Go.Proofs.YtclffekkjfhpdaaGreat
open Go.ChangeShapes Go.WideShapes Go.RowKit
set_option linter.unusedVariables false
set_option linter.unusedSimpArgs false
namespace Abs
def lsEl {α:Type} [Inhabited α] (f:α→List CV) (l:List α):Nat→List CV:=fun i=>f (l.getD i default)
theorem zgy {α:Type} [Inhabited α] (f:α→List CV) (l k:List α) (i:Nat):lsEl f (l++k) i=if i<l.length then lsEl f l i else lsEl f k (i - l.length):=by
 unfold lsEl
 by_cases h:i<l.length
 ·rw [if_pos h];simp [List.getElem?_append_left h]
 ·rw [if_neg h];simp [List.getElem?_append_right (Nat.le_of_not_lt h)]
abbrev CV.ls {α:Type} [Inhabited α] (f:α→List CV) (l:List α):CV:=.slc l.length (lsEl f l)
def byC (b:UInt8):List CV:=[.val (.int .u8 (b.toNat:Int))]
abbrev CV.by (l:List UInt8):CV:=CV.ls byC l
theorem M.src {U:Nat→Prop} {w:World} {s:ASt} {a:Act} {hv:Nat→Value} (m:M U s a w hv) {x:Operand} {n sz:Nat} {el:Nat→List CV}
  (h:s.ev x=.one (.slc n el)∨∃id e,s.ev x=.one (.own id)∧look s.heap id=some (.row e sz n el)) (hs:∀i,i<n→(el i).length=sz) (h0:0<sz):Src (fun b=>U b∨mine s.heap hv b) w (a.eval x) n sz el:=by
 have hr:=m.ev x
 rcases h with h|⟨id,e,h,hb⟩
 ·rw [h] at hr;exact src_slc hr hs h0
 ·rw [h] at hr;rw [hr.2.1];exact src_own m hb
section
variable {P:Program} {s:ASt} {d:Option Nat} {ty t u xT yT:TypeId} {pos:String} {af:Array Edge} {g:Option (Nat×Bool)} {x y c:Operand} {id off n m f o sz len bytes e:Nat} {agg:Bool} {cs:List CV} {k:IntKind} {el el' el2:Nat→List CV}
theorem zeX {a:Act} {w w':World} {v v':Value} (hrun:(Builtin.append_ #[t,u] ty #[a.eval x,a.eval y]).run P w=.ok v' w') :
  (execOp a.eval ⟨d,.call { callee:=.builtin .append,args:=#[x,y],argTypes:=#[t,u] },ty,pos,af,g⟩).run P w=.ok (.value v') w':=by
 simp only [execOp,resolve,invoke,builtin,Sem.run_bind,Sem.run_pure,Result.andThen_ok,List.map_toArray,List.map_cons,List.map_nil,hrun]
theorem ev_append (hx:s.ev x=.one (.own id)) (hb:look s.heap id=some (.row e sz n el)) (hy:s.ev y=.one (.slc m el2)∨∃i2 e2,s.ev y=.one (.own i2)∧look s.heap i2=some (.row e2 sz m el2)) (hs:∀i,i<m→(el2 i).length=sz)
  [TSl P t e sz bytes] {n':Nat} (hn:n+m=n') (hel:∀i,i<n'→el' i=if i<n then el i else el2 (i - n)) (hfit:n'*bytes≤140737488355328) (hmax:n'≤maxLen) (hd:dOk s d=true) :
  Ev P [id] s ⟨d,.call { callee:=.builtin .append,args:=#[x,y],argTypes:=#[t,t] },ty,pos,af,g⟩ (· = ASt.put { s.kill id with heap:=(id,some (.row e sz n' el'))::(s.kill id).heap } d (.one (.own id))) :=
 fun U T w0 a w hv ok K Q hK=>by
  subst hn
  have E:=TSl.elem (P:=P) (t:=t) (e:=e) (sz:=sz) (bytes:=bytes)
  obtain ⟨vs,h1,h2,h3⟩:=ok.m.hm.blk id _ hb
  obtain ⟨Ad,cap,news,hv2,_,_,hfl,hlen,hone,hrep⟩:=ok.m.src hy hs E.pos
  have hx':=ok.m.ev x
  rw [hx] at hx'
  obtain ⟨_,hxv,_⟩:=hx'
  obtain ⟨v',w',hrun,ho,hg,hv'⟩:=Kit.run_app E w ty 0 (hv id) n vs h1 Ad m cap w.heap.size news hfl hlen hone hmax hfit (Nat.zero_le _)
  rw [←hv2,←hxv] at hrun
  unfold Oper.wp
  rw [zeX (v:=undef) hrun]
  have hT:∀b,some b=(hv id).ownBlock→(U b∨mine s.heap hv b):=fun b hb2=>.inr ⟨id,_,hb,by
   obtain ⟨A,c,h4,_⟩:=Kit.own_slice h1
   rw [h4] at hb2 ⊢
   cases A with
   | none=>cases hb2
   | some a=>exact hb2.symm⟩
  refine hK _ _ _ _ rfl (ok.regrow hb hg hv' ho (fun i hi=>?_) (fun A' i j c hA' hi hj=>?_) hd) fun j hj hal=>upd_other fun e=>hj (by simp [e])
  ·rw [hel i hi]
   split
   ·rename_i hlt;exact h2 i hlt
   ·exact hs _ (by omega)
  ·rw [hel i hi] at hj
   have hf:Fr (fun b=>some b=(hv id).ownBlock) w w':=Fr.grown hg fun k hk=>hk.symm
   split at hj
   ·rename_i hlt
    obtain ⟨u,hu1,hu2⟩:=h3 i j c hlt hj
    exact ⟨u,by rw [List.getElem?_append_left (List.getElem?_eq_some_iff.1 hu1).1];exact hu1,hu2.keep hf hT hA'⟩
   ·rename_i hlt
    obtain ⟨u,hu1,hu2⟩:=hrep (i - n) j c (by omega) hj
    refine ⟨u,?_,hu2.keep hf hT hA'⟩
    have:i*sz+j=vs.length+((i - n)*sz+j):=by
     have h5:i=n+(i - n):=by omega
     rw [h1.1]
     conv=>lhs;rw [h5]
     rw [Nat.add_mul];omega
    rw [this,List.getElem?_append_right (by omega)]
    rw [←hu1];congr 1;omega
def Bnd (s:ASt) (o:Option Operand) (dflt v:Nat):Prop :=
 match o with
 | none=>v=dflt
 | some x=>∃(k:IntKind) (i:Int),s.ev x=.one (.val (.int k i))∧i=(v:Int)
def BndV (o:Option Value) (dflt v:Nat):Prop :=
 match o with
 | none=>v=dflt
 | some x=>∃(k:IntKind),x=.int k (v:Int)
theorem Bnd.v {U:Nat→Prop} {a:Act} {w:World} {hv:Nat→Value} (m:M U s a w hv) {o:Option Operand} {dflt v:Nat} (h:Bnd s o dflt v):BndV (o.map a.eval) dflt v:=by
 cases o with
 | none=>exact h
 | some x=>obtain ⟨k,i,h1,rfl⟩:=h;exact ⟨k,m.val h1⟩
theorem ziI {isS:Bool} {w:World} {lo hi:Option Value} {len cap l h:Nat} (hl:BndV lo 0 l) (hh:BndV hi len h) (h1:l≤h) (h2:h≤cap):(Instr.sliceBounds isS len cap lo hi none).run P w=.ok (l,h,cap) w:=by
 unfold Instr.sliceBounds
 cases lo with
 | none =>
  cases hi with
  | none=>simp only [BndV] at hl hh;subst hl hh;simp
  | some y=>obtain ⟨k,rfl⟩:=hh;simp only [BndV] at hl;subst hl;simp [Instr.sliceBound,asIntOf,h2]
 | some x =>
  obtain ⟨k,rfl⟩:=hl
  cases hi with
  | none=>simp only [BndV] at hh;subst hh;simp [Instr.sliceBound,asIntOf,h1]
  | some y=>obtain ⟨k',rfl⟩:=hh;simp [Instr.sliceBound,asIntOf,h1,h2]
theorem run_cut {w:World} {lo hi:Option Value} {l h cap:Nat} {A:Option Addr} [TSl P t e sz bytes] (hl:BndV lo 0 l) (hh:BndV hi n h) (h1:l≤h) (h2:h≤cap) :
  (Instr.sliceAt t (.slice A n cap) lo hi none).run P w=.ok (.slice (if cap=l then A else A.map (·.add (l*sz))) (h - l) (cap - l)) w:=by
 have E:=TSl.elem (P:=P) (t:=t) (e:=e) (sz:=sz) (bytes:=bytes)
 have hb:=ziI (P:=P) (isS:=true) (w:=w) hl hh h1 h2
 simp only [Instr.sliceAt,Sem.run_bind,run_underlying E.slice,Result.andThen_ok,Instr.slice,hb,TSl.run_size (P:=P) (t:=t) (e:=e) (sz:=sz) (bytes:=bytes),Sem.run_pure]
theorem ev_slice {lo hi:Option Operand} {l h:Nat} {n':Nat} (hx:s.ev x=.one (.slc n el)) (hl:Bnd s lo 0 l) (hh:Bnd s hi n h) (h1:l≤h) (h2:h≤n) [TSl P t e sz bytes] (hs:∀i,i<n→(el i).length=sz) (hn:h - l=n') (hel:∀i,i<n'→el' i=el (l+i)) (hd:dOk s d=true) :
  Ev P [] s ⟨d,.slice t x lo hi none,ty,pos,af,g⟩ (· = s.put d (.one (.slc n' el'))) :=
 ev_of_run hd fun U a w hv m=>by
  subst hn
  have hr:=m.ev x
  rw [hx] at hr
  rcases RepC.slc_inv hr with ⟨h0,Ad,c0,hv',hc0,hn0⟩|⟨size,b,off,cap,vals,hv',hb,hA,hc,hm,hsz,hcell,hrep⟩
  ·have hl0:l=0:=by omega
   have hh0:h=0:=by omega
   refine ⟨.slice (if c0=0 then Ad else Ad.map (·.add (0*sz))) 0 c0,w,?_,Fr.refl _ _,?_⟩
   ·have:=run_cut (P:=P) (t:=t) (e:=e) (sz:=sz) (bytes:=bytes) (w:=w) (A:=Ad) (cap:=c0) (n:=n) (hl.v m) (hh.v m) h1 (by omega)
    simp only [execOp,hv',Sem.run_bind,Sem.run_pure,Option.map_none]
    rw [h0] at this
    rw [this]
    simp [hl0,hh0]
   ·rw [show h - l=0 by omega]
    refine RepC.empty hc0 fun e=>?_
    split at e
    ·assumption
    ·cases Ad with
     | none=>exact hn0 rfl
     | some a=>cases e
  ·have hrun:=run_cut (P:=P) (t:=t) (e:=e) (sz:=sz) (bytes:=bytes) (w:=w) (A:=some ⟨b,off,none⟩) (cap:=cap) (n:=n) (hl.v m) (hh.v m) h1 (by omega)
   refine ⟨.slice (if cap=l then some ⟨b,off,none⟩ else (some ⟨b,off,none⟩:Option Addr).map (·.add (l*sz))) (h - l) (cap - l),w,?_,Fr.refl _ _,?_⟩
   ·simp only [execOp,hv',Sem.run_bind,Sem.run_pure,Option.map_none]
    rw [hrun]
    rfl
   ·by_cases hcl:cap=l
    ·rw [if_pos hcl]
     refine RepC.slc _ _ sz b off _ vals hb hA (by omega) (by omega) (fun i hi=>by omega) (fun i j c hi=>by omega) (fun i j c hi=>by omega)
    ·rw [if_neg hcl]
     simp only [Option.map_some,add_at]
     have hsize:∀i,i<n→size=sz:=fun i hi=>(hsz i hi).symm.trans (hs i hi)
     refine RepC.slc _ _ sz b (off+l*sz) _ (fun i j=>vals (l+i) j) hb hA (by omega) (by omega) (fun i hi=>by rw [hel i hi];exact hs _ (by omega)) (fun i j c hi hj=>?_) (fun i j c hi hj=>?_)
     ·rw [hel i hi] at hj
      have h5:=hcell (l+i) j c (by omega) hj
      rw [hsize (l+i) (by omega)] at h5
      rw [←h5]
      congr 2
      rw [Nat.add_mul];omega
     ·rw [hel i hi] at hj
      exact hrep (l+i) j c (by omega) hj
theorem ev_shrink {hi:Option Operand} {h:Nat} {el':Nat→List CV} (hx:s.ev x=.one (.own id)) (hb:look s.heap id=some (.row e sz n el)) (hh:Bnd s hi n h) (h2:h≤n) (hel:∀i,i<h→el' i=el i) [TSl P t e sz bytes] (hd:dOk s d=true) :
  Ev P [id] s ⟨d,.slice t x none hi none,ty,pos,af,g⟩ (· = ASt.put { s.kill id with heap:=(id,some (.row e sz h el'))::(s.kill id).heap } d (.one (.own id))) :=
 fun U T w0 a w hv ok K Q hK=>by
  obtain ⟨vs,h1,h3,h4⟩:=ok.m.hm.blk id _ hb
  obtain ⟨A,c,hxv,hid,hnc,hcm⟩:=own_len ok.m hx hb
  have hrun:=run_cut (P:=P) (t:=t) (e:=e) (sz:=sz) (bytes:=bytes) (w:=w) (A:=A) (cap:=c) (n:=n) (lo:=none) (l:=0) rfl (hh.v ok.m) (Nat.zero_le _) (by omega)
  have hA:(if c=0 then A else A.map (·.add (0*sz)))=A:=by
   split
   ·rfl
   ·cases A with
    | none=>rfl
    | some a=>simp [Addr.add]
  simp only [hA,Nat.sub_zero] at hrun
  have hop:(execOp a.eval ⟨d,.slice t x none hi none,ty,pos,af,g⟩).run P w=.ok (.value (.slice A h c)) w:=by
   simp only [execOp,hxv,Sem.run_bind,Sem.run_pure,Option.map_none]
   rw [hrun]
   rfl
  unfold Oper.wp
  rw [hop]
  have hlen:vs.length=n*sz:=h1.1
  have hmul:h*sz≤n*sz:=Nat.mul_le_mul_right _ h2
  have hbk:Value.ownBlock (.slice A h c)=(hv id).ownBlock:=by rw [hid];cases A<;>rfl
  refine hK _ _ _ _ rfl (ok.regrow (w':=w) (v':=.slice A h c) (vs':=vs.take (h*sz)) hb ⟨rfl,rfl,rfl,Nat.le_refl _,fun _ _ _=>rfl⟩ (.inl hbk) ?_ (fun i hi=>by rw [hel i hi];exact h3 i (by omega)) (fun A' i j c' hA' hi hj=>?_) hd) fun j hj _=>upd_other fun e=>hj (by simp [e])
  ·refine ⟨by rw [List.length_take];omega,?_⟩
   rcases h1.2 with ⟨h5,h6⟩|⟨q,cap,cur,h5,h6,h7,h8,h9,h10,h11⟩
   ·rw [hid] at h5
    injection h5 with e1 e2 e3
    subst e1 e3
    exact .inl ⟨by congr 1;omega,by omega⟩
   ·rw [hid] at h5
    injection h5 with e1 e2 e3
    subst e1 e3
    refine .inr ⟨q,c,cur,rfl,h6,h7,by omega,h9,h10,?_⟩
    rw [←h11,List.take_take,Nat.min_eq_left hmul]
  ·rw [hel i hi] at hj
   obtain ⟨u,h5,h6⟩:=h4 i j c' (by omega) hj
   refine ⟨u,?_,h6.keep (Fr.refl (fun _=>False) w) (fun _ e=>e.elim) hA'⟩
   rw [List.getElem?_take,if_pos,h5]
   have hj':j<sz:=by rw [←h3 i (by omega)];exact (List.getElem?_eq_some_iff.1 hj).1
   have:=Nat.mul_le_mul_right sz (Nat.succ_le_of_lt hi)
   rw [Nat.succ_mul] at this
   omega
theorem src_bytes {A:Nat→Prop} {w:World} {v:Value} {l:List UInt8} (h:Src A w v l.length 1 (lsEl byC l)):∃Ad cap,v=.slice Ad l.length cap∧Kit.Flat w w.heap.size Ad (l.map fun b=>Value.int .u8 (b.toNat:Int)):=by
 obtain ⟨Ad,cap,news,hv,_,_,hfl,hlen,_,hrep⟩:=h
 refine ⟨Ad,cap,hv,?_⟩
 have:news=l.map fun b=>Value.int .u8 (b.toNat:Int):=by
  apply List.ext_getElem?
  intro i
  by_cases hi:i<l.length
  ·obtain ⟨u,h1,h2⟩:=hrep i 0 (.val (.int .u8 ((l.getD i default).toNat:Int))) hi rfl
   cases h2
   simp only [Nat.mul_one,Nat.add_zero] at h1
   rw [h1]
   simp [hi,List.getD]
  ·rw [List.getElem?_eq_none (by omega),List.getElem?_eq_none (by simp;omega)]
 rw [←this]
 exact hfl
theorem zik {l:List UInt8} (hx:s.ev x=.one (.slc l.length (lsEl byC l))∨∃id e,s.ev x=.one (.own id)∧look s.heap id=some (.row e 1 l.length (lsEl byC l))) (hsr:P.underlying xT=some (.slice e)) (he:P.underlying e=some (.int .u8)) (hds:P.underlying yT=some .string) (hd:dOk s d=true) :
  Ev P [] s ⟨d,.convert xT yT x,ty,pos,af,g⟩ (· = s.put d (.one (.val (.string ⟨l.toArray⟩)))) :=
 ev_of_val hd rfl fun U a w hv m=>by
  obtain ⟨Ad,cap,h1,h2⟩:=src_bytes (m.src hx (fun i _=>rfl) (by decide))
  have hrun:(convert xT yT (a.eval x)).run P w=.ok (.string ⟨l.toArray⟩) w:=by
   rw [h1]
   cases Ad with
   | none =>
    have hl:l=[]:=by
     cases l with
     | nil=>rfl
     | cons b r=>obtain ⟨_,_,e,_⟩:=h2 (by simp);cases e
    subst hl
    exact run_convert_bytes_nil (P:=P) w xT e hsr he _ _ yT hds
   | some ad =>
    have hcells:(loadCells ad l.length).run P w=.ok ((l.map fun b=>(b.toNat:Int)).map (Value.int .u8)).toArray w:=by
     have h3:=run_loadCells_list (P:=P) w ad (l.map fun b=>Value.int .u8 (b.toNat:Int)) (fun j v hj=>by
      obtain ⟨b,off,e,_,hc⟩:=h2 (by intro e;rw [e] at hj;simp at hj)
      injection e with e
      subst e
      rw [add_at]
      exact hc j v hj)
     rw [List.length_map] at h3
     rw [h3,List.map_map]
     rfl
    rw [run_convert_bytes_string w xT yT e _ l.length cap hsr he hds,run_bytesToString w ad l.length cap _ hcells,foldl_push_bytes]
    have hmm:(l.map fun b=>(b.toNat:Int)).map (fun n=>UInt8.ofNat n.toNat)=l:=by
     rw [List.map_map]
     conv=>rhs;rw [←List.map_id l]
     exact List.map_congr_left fun b _=>by simp
    rw [hmm]
    simp [ByteArray.empty,ByteArray.emptyWithCapacity]
    rfl
  simp only [execOp,Sem.run_bind,hrun,Result.andThen_ok,Sem.run_pure]
end
end Abs
end Go.Proofs.YtclffekkjfhpdaaGreat

