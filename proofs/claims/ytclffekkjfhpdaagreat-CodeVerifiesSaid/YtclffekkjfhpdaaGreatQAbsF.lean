import Derived.Test.YtclffekkjfhpdaaGreatQAbsRa
namespace Go.Proofs.YtclffekkjfhpdaaGreat
open Go.ChangeShapes Go.WideShapes Go.RowKit
set_option linter.unusedVariables false
set_option linter.unusedSimpArgs false
namespace Abs
def fbP (id:Nat) (cs:List CV):CV→CV
 | .ptr i o=>bif Nat.beq i id then .cptr (cs.drop o) else .ptr i o
 | c=>killC id c
def fbC (id:Nat) (cs:List CV):CV→CV
 | .fn f caps=>.fn f (caps.map (fbP id cs))
 | c=>fbP id cs c
def fbV1 (id:Nat) (cs:List CV):AV→AV
 | .one c=>.one (fbC id cs c)
 | .agg l=>.agg (l.map (fbC id cs))
 | v=>v
def fbV (id:Nat) (cs:List CV):AV→AV
 | .tup vs=>.tup (vs.map (fbV1 id cs))
 | .one c=>.one (fbC id cs c)
 | .agg l=>.agg (l.map (fbC id cs))
def fbB (id:Nat) (cs:List CV):Option Blk→Option Blk
 | some (.box l)=>some (.box (l.map (fbC id cs)))
 | b=>b
def ASt.frbox (s:ASt) (id:Nat) (cs:List CV):ASt:={ s with env:=s.env.map fun p=>(p.1,fbV id cs p.2),heap:=(id,none)::s.heap.map fun p=>(p.1,fbB id cs p.2) }
section
variable {U T:Nat→Prop} {w0:Base} {w:World} {s:ASt} {a:Act} {hv:Nat→Value} {id:Nat} {cs:List CV}
theorem zgV (s:ASt) (i:Nat):look (s.frbox id cs).heap i=if id=i then none else fbB id cs (look s.heap i):=by
 unfold ASt.frbox
 rw [look_cons,look_map _ rfl]
theorem Ok.frbox (ok:Ok U T w0 s a w hv) (hb:look s.heap id=some (.box cs)) (hpl:cs.all plainC=true) (hk:s.kp.contains id=false):Ok U T w0 (s.frbox id cs) a w hv:=by
 have hm:=ok.m.hm
 have hsome:∀{i:Nat} {b:Blk},look (s.frbox id cs).heap i=some b→id≠i∧∃b0,look s.heap i=some b0∧fbB id cs (some b0)=some b:=by
  intro i b h
  rw [zgV] at h
  by_cases hi:id=i
  ·rw [if_pos hi] at h;cases h
  ·rw [if_neg hi] at h
   cases hl:look s.heap i with
   | none=>rw [hl] at h;cases h
   | some b0=>rw [hl] at h;exact ⟨hi,b0,rfl,h⟩
 have hmine:∀b,mine (s.frbox id cs).heap hv b→mine s.heap hv b∧blockOf (hv id)≠some b:=by
  rintro b ⟨i,x,h1,h2⟩
  obtain ⟨hi,b0,h3,_⟩:=hsome h1
  exact ⟨⟨i,b0,h3,h2⟩,fun h4=>hi (hm.inj _ _ _ _ b hb h3 h4 h2)⟩
 have hA:∀b,(U b∨mine (s.frbox id cs).heap hv b)→(U b∨mine s.heap hv b):=fun b hb=>hb.imp (fun x=>x) fun hb=>(hmine b hb).1
 have hpass:∀j,j≠id→Pass s.heap hv (s.frbox id cs).heap hv j:=fun j hj=>by
  refine ⟨?_,?_,fun _=>rfl,?_⟩
  ·rintro ⟨e,sz,m,el',h⟩;exact ⟨e,sz,m,el',by rw [zgV,if_neg (Ne.symm hj),h];rfl⟩
  ·rintro ⟨l,h⟩;exact ⟨l.map (fbC id cs),by rw [zgV,if_neg (Ne.symm hj),h];rfl⟩
  ·rintro ⟨s',p,h⟩;exact ⟨s',p,by rw [zgV,if_neg (Ne.symm hj),h];rfl⟩
 have hcp:∀{o:Nat} {v:Value},RepP s.heap hv (fun b=>U b∨mine s.heap hv b) w (.ptr id o) v→RepC (fun b=>U b∨mine (s.frbox id cs).heap hv b) w (.cptr (cs.drop o)) v:=by
  rintro o v ⟨_,b,h5,rfl⟩
  obtain ⟨b',ws,ty,h6,h7,h8⟩:=hm.blk id _ hb
  rw [h5] at h6
  simp only [Value.pointer.injEq,Option.some.injEq,Addr.mk.injEq,and_true] at h6
  subst h6
  have hmi:mine s.heap hv b:=⟨id,_,hb,by rw [h5];rfl⟩
  refine RepC.cptr _ b o (fun j=>ws.getD (o+j) undef) (Array.getElem?_eq_some_iff.1 h7).1 (fun hA=>hA.elim (hm.avoid b hmi) fun h=>(hmine b h).2 (by rw [h5];rfl)) (fun j c hj=>?_) fun j c hj=>?_
  ·rw [List.getElem?_drop] at hj
   obtain ⟨u,hu,hr⟩:=h8.get hj
   have hu':ws[o+j]?=some u:=by simpa using hu
   rw [cell_of_row _ b (o+j) ws ty (0,0) h7,hu']
   obtain ⟨hlt,e⟩:=Array.getElem?_eq_some_iff.1 hu'
   simp [Array.getD,hlt,e]
  ·rw [List.getElem?_drop] at hj
   obtain ⟨u,hu,hr⟩:=h8.get hj
   have hu':ws[o+j]?=some u:=by simpa using hu
   obtain ⟨hlt,e⟩:=Array.getElem?_eq_some_iff.1 hu'
   have e2:ws.getD (o+j) undef=u:=by simp [Array.getD,hlt,e]
   rw [e2]
   exact (repC_of (List.all_eq_true.1 hpl c (List.mem_of_getElem? hj)) hr).keep (Fr.refl (fun _=>False) w) (fun _ e=>e.elim) fun b _=>hA b
 have kP:∀{c:CV} {v:Value},RepP s.heap hv (fun b=>U b∨mine s.heap hv b) w c v→RepP (s.frbox id cs).heap hv (fun b=>U b∨mine (s.frbox id cs).heap hv b) w (fbP id cs c) v:=by
  intro c v hr
  have oth:∀c':CV,(∀j∈c'.ids,j≠id)→RepP s.heap hv (fun b=>U b∨mine s.heap hv b) w c' v→RepP (s.frbox id cs).heap hv (fun b=>U b∨mine (s.frbox id cs).heap hv b) w c' v :=
   fun c' hn h=>h.keep (fun j hj=>hpass j (hn j hj)) (Fr.refl (fun _=>False) w) (fun _ e=>e.elim) fun b _=>hA b
  cases c with
  | ptr i o =>
   simp only [fbP]
   cases hbq:Nat.beq i id with
   | true=>obtain rfl:=Nat.eq_of_beq_eq_true hbq;exact hcp hr
   | false=>exact oth (.ptr i o) (fun j hj=>by simp [CV.ids] at hj;subst hj;exact beq_ne hbq) hr
  | own i =>
   simp only [fbP,killC]
   cases hbq:Nat.beq i id with
   | true=>exact trivial
   | false=>exact oth (.own i) (fun j hj=>by simp [CV.ids] at hj;subst hj;exact beq_ne hbq) hr
  | rptr i sz j' o =>
   simp only [fbP,killC]
   cases hbq:Nat.beq i id with
   | true=>exact trivial
   | false=>exact oth (.rptr i sz j' o) (fun j hj=>by simp [CV.ids] at hj;subst hj;exact beq_ne hbq) hr
  | itp i =>
   simp only [fbP,killC]
   cases hbq:Nat.beq i id with
   | true=>exact trivial
   | false=>exact oth (.itp i) (fun j hj=>by simp [CV.ids] at hj;subst hj;exact beq_ne hbq) hr
  | fn f caps=>exact hr.elim
  | val v=>exact oth (.val v) (fun j hj=>by simp [CV.ids] at hj) hr
  | slc n el=>exact oth (.slc n el) (fun j hj=>by simp [CV.ids] at hj) hr
  | cptr l=>exact oth (.cptr l) (fun j hj=>by simp [CV.ids] at hj) hr
  | emp0=>exact oth .emp0 (fun j hj=>by simp [CV.ids] at hj) hr
  | full n el=>exact oth (.full n el) (fun j hj=>by simp [CV.ids] at hj) hr
  | ifc=>exact oth .ifc (fun j hj=>by simp [CV.ids] at hj) hr
  | any=>exact trivial
 have notfn:∀{c:CV} {h:Heap} {A:Nat→Prop} {v:Value},(∀f caps,c≠.fn f caps)→RepP h hv A w c v→RepT h hv A w c v:=fun {c} {h} {A} {v} hc hr=>by
  cases c<;>first|exact hr|exact absurd rfl (hc _ _)
 have kT:∀{c:CV} {v:Value},RepT s.heap hv (fun b=>U b∨mine s.heap hv b) w c v→RepT (s.frbox id cs).heap hv (fun b=>U b∨mine (s.frbox id cs).heap hv b) w (fbC id cs c) v:=by
  intro c v hr
  cases c with
  | fn f caps=>obtain ⟨vs,rfl,h2⟩:=hr;exact ⟨vs,rfl,h2.mapL _ fun x y hxy=>kP hxy⟩
  | ptr i o =>
   refine notfn ?_ (kP (c:=.ptr i o) hr)
   intro f caps
   simp only [fbC,fbP]
   cases Nat.beq i id<;>intro h<;>cases h
  | own i =>
   refine notfn ?_ (kP (c:=.own i) hr)
   intro f caps
   simp only [fbC,fbP,killC]
   cases Nat.beq i id<;>intro h<;>cases h
  | rptr i sz j' o =>
   refine notfn ?_ (kP (c:=.rptr i sz j' o) hr)
   intro f caps
   simp only [fbC,fbP,killC]
   cases Nat.beq i id<;>intro h<;>cases h
  | itp i =>
   refine notfn ?_ (kP (c:=.itp i) hr)
   intro f caps
   simp only [fbC,fbP,killC]
   cases Nat.beq i id<;>intro h<;>cases h
  | val v=>exact kP (c:=.val v) hr
  | slc n el=>exact kP (c:=.slc n el) hr
  | cptr l=>exact kP (c:=.cptr l) hr
  | emp0=>exact kP (c:=.emp0) hr
  | full n el=>exact kP (c:=.full n el) hr
  | ifc=>exact kP (c:=.ifc) hr
  | any=>exact trivial
 have k1:∀{x:AV} {v:Value},Rep1 s.heap hv (fun b=>U b∨mine s.heap hv b) w x v→Rep1 (s.frbox id cs).heap hv (fun b=>U b∨mine (s.frbox id cs).heap hv b) w (fbV1 id cs x) v:=by
  intro x v hr
  cases x with
  | one c=>exact kT hr
  | agg l=>obtain ⟨vs,e,h2⟩:=hr;exact ⟨vs,e,h2.mapL _ fun x y hxy=>kT hxy⟩
  | tup vs=>exact hr
 refine ⟨⟨ok.m.nt,ok.m.defers,fun t=>?_,?_⟩,ok.fr,fun b hb hlt=>ok.own b (hmine b hb).1 hlt,fun i hi=>?_⟩
 ·have hg:get (s.frbox id cs).env t=fbV id cs (get s.env t):=get_map _ rfl _ _
  rw [hg]
  have hr:=ok.m.env t
  cases hx:get s.env t with
  | tup vs=>rw [hx] at hr;obtain ⟨us,e,h2⟩:=hr;exact ⟨us,e,h2.mapL _ fun x y hxy=>k1 hxy⟩
  | one c=>rw [hx] at hr;exact k1 (x:=.one c) hr
  | agg l=>rw [hx] at hr;exact k1 (x:=.agg l) hr
 ·refine ⟨fun i b hib=>?_,fun i j x y b h1 h2 h3 h4=>?_,fun b hb=>hm.avoid b (hmine b hb).1,hm.ult,hm.tab.sub fun b hb=>(hmine b hb).1⟩
  ·obtain ⟨hi,b0,h1,h2⟩:=hsome hib
   have h3:=hm.blk i b0 h1
   cases b0 with
   | box l =>
    simp only [fbB,Option.some.injEq] at h2
    subst h2
    obtain ⟨g,vs,ty,e1,e2,e3⟩:=h3
    exact ⟨g,vs,ty,e1,e2,e3.mapL _ fun x y hxy=>kT hxy⟩
   | row e sz m el' =>
    simp only [fbB,Option.some.injEq] at h2
    subst h2
    obtain ⟨vs,e1,e2,e3⟩:=h3
    refine ⟨vs,e1,e2,fun i j c hi hj=>?_⟩
    obtain ⟨u,h4,h5⟩:=e3 i j c hi hj
    exact ⟨u,h4,h5.keep (Fr.refl (fun _=>False) w) (fun _ e=>e.elim) fun b _=>hA b⟩
   | iter s' pos =>
    simp only [fbB,Option.some.injEq] at h2
    subst h2
    exact h3
  ·obtain ⟨_,x0,h5,_⟩:=hsome h1
   obtain ⟨_,y0,h6,_⟩:=hsome h2
   exact hm.inj i j x0 y0 b h5 h6 h3 h4
 ·obtain ⟨⟨l,h1⟩,h2⟩:=ok.box i hi
  have hne:i≠id:=fun e=>by subst e;have h9:i∈s.kp:=hi;rw [List.contains_iff_mem.2 h9] at hk;cases hk
  exact ⟨(hpass i hne).box ⟨l,h1⟩,h2⟩
end
section
variable {P:Program} {s:ASt} {Q:Exit→ASt→Prop} {id:Nat} {cs:List CV}
theorem aw_frbox (id:Nat) {c:Code} (hb:look s.heap id=some (.box cs)) (h:AW P c (s.frbox id cs) Q) (hpl:cs.all plainC=true:=by rfl) (hk:s.kp.contains id=false:=by rfl):AW P c s Q:=fun n r U T w0 a w hv ok mk=>h n r U T w0 a w hv (ok.frbox hb hpl hk) mk
end
end Abs
end Go.Proofs.YtclffekkjfhpdaaGreat

