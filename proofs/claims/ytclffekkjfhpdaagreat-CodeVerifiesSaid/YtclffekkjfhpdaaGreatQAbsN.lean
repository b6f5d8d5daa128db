import Derived.Test.YtclffekkjfhpdaaGreatQAbsL
namespace Go.Proofs.YtclffekkjfhpdaaGreat
open Go.ChangeShapes Go.WideShapes Go.RowKit
set_option linter.unusedVariables false
set_option linter.unusedSimpArgs false
namespace Abs
structure Add where
 blks:Heap
 val:AV
 deriving Inhabited
def ASt.add (s:ASt) (d:Option Nat) (x:Add):ASt:=ASt.put { s with heap:=x.blks++s.heap } d x.val
theorem look_app (a b:Heap) (id:Nat):look (a++b) id=if id∈a.map (·.1) then look a id else look b id:=by
 induction a with
 | nil=>simp
 | cons p r ih =>
  obtain ⟨k,x⟩:=p
  rw [List.cons_append,look_cons,look_cons,ih]
  by_cases hk:k=id
  ·subst hk;simp
  ·rw [if_neg hk,if_neg hk]
   have:id∈List.map (·.1) ((k,x)::r)↔id∈List.map (·.1) r:=by simp [Ne.symm hk]
   by_cases hr:id∈List.map (·.1) r
   ·rw [if_pos hr,if_pos (this.2 hr)]
   ·rw [if_neg hr,if_neg fun h=>hr (this.1 h)]
theorem add_get (s:ASt) (d:Option Nat) (x:Add) (t:Nat):get (s.add d x).env t=if d=some t then x.val else get s.env t:=by
 cases d with
 | none=>simp [ASt.add,ASt.put]
 | some k =>
  simp only [ASt.add,ASt.put,get_cons,Option.some.injEq]
theorem add_look (s:ASt) (d:Option Nat) (x:Add) (id:Nat):look (s.add d x).heap id=if id∈x.blks.map (·.1) then look x.blks id else look s.heap id:=by
 have:(s.add d x).heap=x.blks++s.heap:=by cases d<;>rfl
 rw [this,look_app]
theorem add_nt (s:ASt) (d:Option Nat) (x:Add):(s.add d x).nt=s.nt∧(s.add d x).kp=s.kp:=by cases d<;>exact ⟨rfl,rfl⟩
def SD (D:Nat→Bool):Nat→List Oper→List Add→ASt→ASt
 | i,o::os,x::xs,s=>SD D (i+1) os xs (if D i then s.add o.dst x else s)
 | _,_,_,s=>s
section
variable {D:Nat→Bool}
theorem SD_nt:∀(i:Nat) (os:List Oper) (xs:List Add) (s:ASt),(SD D i os xs s).nt=s.nt∧(SD D i os xs s).kp=s.kp
 | i,[],[],s=>⟨rfl,rfl⟩
 | i,[],_::_,s=>⟨rfl,rfl⟩
 | i,_::_,[],s=>⟨rfl,rfl⟩
 | i,o::os,x::xs,s=>by
  have h:=SD_nt (i+1) os xs (if D i then s.add o.dst x else s)
  simp only [SD]
  split at h<;>rename_i hd<;>simp only [hd,if_true,if_false,Bool.false_eq_true]<;>first|exact ⟨h.1.trans (add_nt _ _ _).1,h.2.trans (add_nt _ _ _).2⟩|exact h
theorem zbr:∀(i:Nat) (os:List Oper) (xs:List Add) (s:ASt) (t:Nat),(∀(j:Nat) (o:Oper),os[j]?=some o→D (i+j)=true→j<xs.length→o.dst≠some t)→get (SD D i os xs s).env t=get s.env t
 | i,[],[],s,t,_=>rfl
 | i,[],_::_,s,t,_=>rfl
 | i,_::_,[],s,t,_=>rfl
 | i,o::os,x::xs,s,t,h=>by
  simp only [SD]
  rw [zbr (i+1) os xs _ t fun j o' hj hd hl=>h (j+1) o' (by simpa using hj) (by rw [←hd];congr 1;omega) (by simp;omega)]
  by_cases hd:D i=true
  ·rw [if_pos hd,add_get,if_neg (h 0 o rfl hd (by simp))]
  ·rw [if_neg hd]
theorem zbR:∀(i:Nat) (os:List Oper) (xs:List Add) (s:ASt) (t j:Nat) (o:Oper) (x:Add),os[j]?=some o→xs[j]?=some x→o.dst=some t→D (i+j)=true→(∀(j':Nat) (o':Oper),os[j']?=some o'→j'<xs.length→o'.dst=some t→j'=j)→get (SD D i os xs s).env t=x.val
 | i,o::os,x::xs,s,t,0,o',x',ho,hx,hd,hD,hu=>by
  simp at ho hx
  subst ho;subst hx
  simp only [SD]
  rw [zbr (i+1) os xs _ t fun j o' hj hd' hl e=>by have:=hu (j+1) o' (by simpa using hj) (by simp;omega) e;omega]
  rw [if_pos (by simpa using hD),add_get,if_pos hd]
 | i,o::os,x::xs,s,t,j+1,o',x',ho,hx,hd,hD,hu=>by
  simp only [SD]
  exact zbR (i+1) os xs _ t j o' x' (by simpa using ho) (by simpa using hx) hd (by rw [←hD];congr 1;omega) fun j' o'' hj hl e=>by have:=hu (j'+1) o'' (by simpa using hj) (by simp;omega) e;omega
 | i,[],_,s,t,j,o,x,ho,_,_,_,_=>by simp at ho
 | i,_::_,[],s,t,j,o,x,_,hx,_,_,_=>by simp at hx
theorem zbn:∀(i:Nat) (os:List Oper) (xs:List Add) (s:ASt) (id:Nat),(∀(j:Nat) (x:Add),xs[j]?=some x→D (i+j)=true→j<os.length→id∉x.blks.map (·.1))→look (SD D i os xs s).heap id=look s.heap id
 | i,[],[],s,id,_=>rfl
 | i,[],_::_,s,id,_=>rfl
 | i,_::_,[],s,id,_=>rfl
 | i,o::os,x::xs,s,id,h=>by
  simp only [SD]
  rw [zbn (i+1) os xs _ id fun j x' hj hd hl=>h (j+1) x' (by simpa using hj) (by rw [←hd];congr 1;omega) (by simp;omega)]
  by_cases hd:D i=true
  ·rw [if_pos hd,add_look,if_neg (h 0 x rfl hd (by simp))]
  ·rw [if_neg hd]
theorem zcm:∀(i:Nat) (os:List Oper) (xs:List Add) (s:ASt) (id j:Nat) (x:Add),j<os.length→xs[j]?=some x→id∈x.blks.map (·.1)→D (i+j)=true→(∀(j':Nat) (x':Add),xs[j']?=some x'→id∈x'.blks.map (·.1)→j'=j)→look (SD D i os xs s).heap id=look x.blks id
 | i,o::os,x::xs,s,id,0,x',ho,hx,hd,hD,hu=>by
  simp at hx
  subst hx
  simp only [SD]
  rw [zbn (i+1) os xs _ id fun j x' hj hd' hl e=>by have:=hu (j+1) x' (by simpa using hj) e;omega]
  rw [if_pos (by simpa using hD),add_look,if_pos hd]
 | i,o::os,x::xs,s,id,j+1,x',ho,hx,hd,hD,hu=>by
  simp only [SD]
  exact zcm (i+1) os xs _ id j x' (by simpa using ho) (by simpa using hx) hd (by rw [←hD];congr 1;omega) fun j' x'' hj e=>by have:=hu (j'+1) x'' (by simpa using hj) e;omega
 | i,[],_,s,id,j,x,ho,_,_,_,_=>by simp at ho
 | i,_::_,[],s,id,j,x,_,hx,_,_,_=>by simp at hx
end
structure Le (s S:ASt):Prop where
 nt:S.nt=s.nt
 kp:S.kp=s.kp
 env:∀t,get s.env t≠.one .any→get S.env t=get s.env t
 heap:∀id b,look s.heap id=some b→look S.heap id=some b
theorem Le.ev {s S:ASt} (h:Le s S) {x:Operand} {r:AV} (hx:s.ev x=r) (hr:r≠.one .any):S.ev x=r:=by
 cases x with
 | tmp t=>subst hx;exact h.env t hr
 | const v=>exact hx
 | func f=>exact hx
 | global g=>exact hx
theorem Le.d {s S:ASt} (h:Le s S) {d:Option Nat} (hd:dOk s d=true):dOk S d=true:=by
 cases d with
 | none=>rfl
 | some t=>simp only [dOk,h.nt];exact hd
theorem Ok.equiv {U T:Nat→Prop} {w0:Base} {s s':ASt} {a:Act} {w:World} {hv:Nat→Value} (ok:Ok U T w0 s a w hv) (h1:s'.nt=s.nt) (h2:s'.kp=s.kp) (hg:∀t,get s'.env t=get s.env t) (hl:∀id,look s'.heap id=look s.heap id):Ok U T w0 s' a w hv:=by
 have hmine:∀b,mine s'.heap hv b→mine s.heap hv b:=fun b ⟨id,x,e1,e2⟩=>⟨id,x,by rw [←hl];exact e1,e2⟩
 have hA:∀b,(U b∨mine s'.heap hv b)→(U b∨mine s.heap hv b):=fun b hb=>hb.imp (fun x=>x) (hmine b)
 have hp:∀j,Pass s.heap hv s'.heap hv j:=fun j=>⟨fun x=>by rw [hl];exact x,fun x=>by rw [hl];exact x,fun _=>rfl,fun x=>by rw [hl];exact x⟩
 refine ⟨⟨by rw [h1];exact ok.m.nt,ok.m.defers,fun t=>?_,?_⟩,ok.fr,fun b hb hlt=>ok.own b (hmine b hb) hlt,fun id hid=>?_⟩
 ·rw [hg]
  exact (ok.m.env t).keep (fun j _=>hp j) (Fr.refl (fun _=>False) w) (fun _ e=>e.elim) fun b _=>hA b
 ·refine ⟨fun id b hb=>?_,fun i j x y b e1 e2 e3 e4=>ok.m.hm.inj i j x y b (by rw [←hl];exact e1) (by rw [←hl];exact e2) e3 e4,fun b hb=>ok.m.hm.avoid b (hmine b hb),ok.m.hm.ult,ok.m.hm.tab.sub hmine⟩
  exact (ok.m.hm.blk id b (by rw [←hl];exact hb)).keep (fun j _=>hp j) rfl (Fr.refl (fun _=>False) w) (fun _ e=>e.elim) (fun b _=>hA b) (fun _ _ e=>e)
 ·rw [h2] at hid
  obtain ⟨e1,e2⟩:=ok.box id hid
  exact ⟨(hp id).box e1,e2⟩
def Oper.edges (o:Oper):List Nat:=(o.after.toList.filter fun e=>Region.binds .any e).map (·.on)
def backOk (l:List Oper):Bool:=(List.range l.length).all fun i=>match l[i]? with|some o=>(Oper.edges o).all fun j=>Nat.blt j i|none=>true
def depsOk (l:List Oper) (i:Nat):List Nat→List Nat→Bool
 | _,[]=>true
 | seen,j::r=>(i::seen).any (fun k=>match l[k]? with|some o=>(Oper.edges o).contains j|none=>false)&&depsOk l i (j::seen) r
def sufOk (l:List Oper) (m:Nat):Bool:=(List.range l.length).all fun i=>Nat.blt i m||depsOk l i [] (List.range i).reverse
def dsts (l:List Oper):List Nat:=l.filterMap (·.dst)
def keysOf (xs:List Add):List Nat:=xs.flatMap fun x=>x.blks.map (·.1)
def ASt.hide (s:ASt) (ts:List Nat):ASt:={ s with env:=ts.map (fun t=>(t,AV.one .any))++s.env }
theorem undef_get {U:Nat→Prop} {s:ASt} {a:Act} {w:World} {hv:Nat→Value} {ops:Array Oper} {j t:Nat} (m:M U s a w hv) (hd:(ops[j]?).bind (·.dst)=some t) (ht:get s.env t=.tup []) (hn:t<s.nt):yielded ops a.tmps j=none:=by
 have h:=m.env t
 rw [ht] at h
 obtain ⟨vs,h1,h2⟩:=h
 cases h2
 have hlt:t<a.tmps.size:=by rw [m.nt];exact hn
 have hg:a.tmps[t]?=some (.tuple #[]):=by
  rw [Array.getElem?_eq_getElem hlt]
  congr 1
  simpa [Array.getD,hlt] using h1
 simp [yielded,hd,hg]
def Want (ops:Array Oper) (S:ASt) (o:Oper) (yes:Bool):Prop :=
 (o.guard=none∧yes=true)∨(∃j want t b,o.guard=some (j,want)∧(ops[j]?).bind (·.dst)=some t∧get S.env t=.one (.val (.bool b))∧Nat.blt t S.nt=true∧(b==want)=yes) ∨
  ∃j want t,o.guard=some (j,want)∧(ops[j]?).bind (·.dst)=some t∧get S.env t=.tup []∧Nat.blt t S.nt=true∧yes=false
theorem Want.wanted {ops:Array Oper} {S:ASt} {o:Oper} {yes:Bool} {U:Nat→Prop} {a:Act} {w:World} {hv:Nat→Value} (h:Want ops S o yes) (m:M U S a w hv):Region.wanted o (yielded ops a.tmps)=yes:=by
 rcases h with ⟨h1,rfl⟩|⟨j,want,t,b,h1,h2,h3,h4,rfl⟩|⟨j,want,t,h1,h2,h3,h4,rfl⟩
 ·simp [Region.wanted,h1]
 ·have hy:=zhd m h2 h3 (by simpa [Nat.blt_eq] using h4)
  simp only [Region.wanted,h1,hy]
  cases b<;>cases want<;>rfl
 ·have hy:=undef_get m h2 h3 (by simpa [Nat.blt_eq] using h4)
  simp [Region.wanted,h1,hy]
def Ob (P:Program) (ops:Array Oper) (S:ASt) (o:Oper) (x:Add):Prop :=
 (Want ops S o true∧Ev P [] S o (· = S.add o.dst x))∨(Want ops S o false∧x=⟨[],.tup []⟩∧dOk S o.dst=true)
def memB (l:List Nat) (j:Nat):Bool:=l.any fun k=>Nat.beq k j
theorem memB_mem {l:List Nat} {j:Nat} (h:memB l j=true):j∈l:=by
 obtain ⟨k,h1,h2⟩:=List.any_eq_true.1 h
 rw [Nat.eq_of_beq_eq_true h2] at h1
 exact h1
def nodupB:List Nat→Bool
 | []=>true
 | x::r=>!memB r x&&nodupB r
theorem zdQ:∀{l:List Nat},nodupB l=true→l.Nodup
 | [],_=>List.nodup_nil
 | x::r,h=>by
  simp only [nodupB,Bool.and_eq_true,Bool.not_eq_true'] at h
  refine List.nodup_cons.2 ⟨fun hx=>?_,zdQ h.2⟩
  have:memB r x=true:=List.any_eq_true.2 ⟨x,hx,Nat.beq_refl x⟩
  rw [h.1] at this;cases this
def staticOk (l:List Oper) (m:Nat):Bool:=backOk l&&sufOk l m&&Nat.ble m l.length&&nodupB (dsts (l.take m))
def Obs (P:Program) (l:List Oper) (m:Nat) (al:List Add) (s:ASt):Nat→List Oper→List Add→Prop
 | i,o::os,x::xs=>(∃deps,depsOk l i [] deps=true∧∀S,Le (SD (memB deps) 0 (l.take m) al (s.hide (dsts (l.take m)))) S→(∀id,id∈x.blks.map (·.1)→look S.heap id=none)→Ob P l.toArray S o x)∧Obs P l m al s (i+1) os xs
 | _,[],[]=>True
 | _,_,_=>False
theorem Obs.at {P:Program} {l:List Oper} {m:Nat} {al:List Add} {s:ASt}:∀{k:Nat} {os:List Oper} {xs:List Add},Obs P l m al s k os xs→∀{i:Nat} {o:Oper},os[i]?=some o →
  ∃x,xs[i]?=some x∧∃deps,depsOk l (k+i) [] deps=true∧∀S,Le (SD (memB deps) 0 (l.take m) al (s.hide (dsts (l.take m)))) S→(∀id,id∈x.blks.map (·.1)→look S.heap id=none)→Ob P l.toArray S o x
 | k,o::os,x::xs,h,0,o',ho=>by
  simp at ho;subst ho
  obtain ⟨deps,h1,h2⟩:=h.1
  exact ⟨x,rfl,deps,h1,h2⟩
 | k,o::os,x::xs,h,i+1,o',ho=>by
  obtain ⟨x',h1,h2⟩:=Obs.at h.2 (i:=i) (by simpa using ho)
  refine ⟨x',by simpa using h1,?_⟩
  rw [show k+(i+1)=k+1+i by omega]
  exact h2
 | _,[],[],_,i,o,ho=>by simp at ho
 | _,[],_::_,h,_,_,_=>h.elim
 | _,_::_,[],h,_,_,_=>h.elim
theorem Obs.length {P:Program} {l:List Oper} {m:Nat} {al:List Add} {s:ASt}:∀{k:Nat} {os:List Oper} {xs:List Add},Obs P l m al s k os xs→os.length=xs.length
 | _,[],[],_=>rfl
 | _,o::os,x::xs,h=>by rw [List.length_cons,List.length_cons,Obs.length h.2]
 | _,[],_::_,h=>h.elim
 | _,_::_,[],h=>h.elim
theorem edges_mem {o:Oper} {e:Edge} (he:e∈o.after) (hb:Region.binds .any e=true):e.on∈Oper.edges o :=
 List.mem_map.2 ⟨e,List.mem_filter.2 ⟨Array.mem_toList_iff.2 he,hb⟩,rfl⟩
theorem mem_edges {o:Oper} {j:Nat} (h:j∈Oper.edges o):∃e,e∈o.after∧Region.binds .any e=true∧e.on=j:=by
 obtain ⟨e,h1,h2⟩:=List.mem_map.1 h
 obtain ⟨h3,h4⟩:=List.mem_filter.1 h1
 exact ⟨e,Array.mem_toList_iff.1 h3,h4,h2⟩
theorem zdJ {l:List Oper} {i:Nat} {D:Nat→Bool} (hcl:∀k o,l[k]?=some o→(D k=true∨k=i)→∀j,j∈Oper.edges o→D j=true):∀(seen deps:List Nat),(∀j,j∈seen→D j=true)→depsOk l i seen deps=true→∀j,j∈deps→D j=true
 | seen,[],_,_,j,hj=>by cases hj
 | seen,x::r,hs,h,j,hj=>by
  simp only [depsOk,Bool.and_eq_true] at h
  have hx:D x=true:=by
   obtain ⟨k,h1,h2⟩:=List.any_eq_true.1 h.1
   cases hk:l[k]? with
   | none=>rw [hk] at h2;cases h2
   | some o =>
    rw [hk] at h2
    refine hcl k o hk ?_ x (List.contains_iff_mem.1 h2)
    rcases List.mem_cons.1 h1 with h3|h3
    ·exact .inr h3
    ·exact .inl (hs k h3)
  rcases List.mem_cons.1 hj with h3|h3
  ·rw [h3];exact hx
  ·exact zdJ hcl (x::seen) r (fun k hk=>by rcases List.mem_cons.1 hk with h4|h4;(rw [h4];exact hx);exact hs k h4) h.2 j h3
section
variable {P:Program} {l:List Oper} {m:Nat} {al:List Add} {s:ASt} {Q:Exit→ASt→Prop}
theorem hide_get (s:ASt) (ts:List Nat) (t:Nat):get (s.hide ts).env t=if t∈ts then .one .any else get s.env t:=by
 unfold ASt.hide
 simp only
 induction ts with
 | nil=>simp
 | cons k r ih =>
  rw [List.map_cons,List.cons_append,get_cons,ih]
  by_cases hk:k=t
  ·rw [if_pos hk,if_pos (by simp [hk])]
  ·rw [if_neg hk]
   by_cases hr:t∈r
   ·rw [if_pos hr,if_pos (by simp [hr])]
   ·rw [if_neg hr,if_neg (by simp [hr,Ne.symm hk])]
theorem ok_hide {U T:Nat→Prop} {w0:Base} {a:Act} {w:World} {hv:Nat→Value} (ok:Ok U T w0 s a w hv) (ts:List Nat):Ok U T w0 (s.hide ts) a w hv:=by
 refine ⟨⟨ok.m.nt,ok.m.defers,fun t=>?_,ok.m.hm⟩,ok.fr,ok.own,ok.box⟩
 rw [hide_get]
 split
 ·exact trivial
 ·exact ok.m.env t
structure Apart (l:List Oper) (m:Nat) (al:List Add) (s:ASt):Prop where
 len:(l.take m).length=al.length
 dst:∀(i j:Nat) (o o':Oper) (t:Nat),(l.take m)[i]?=some o→(l.take m)[j]?=some o'→o.dst=some t→o'.dst=some t→i=j
 key:∀(i j:Nat) (x y:Add) (id:Nat),al[i]?=some x→al[j]?=some y→id∈x.blks.map (·.1)→id∈y.blks.map (·.1)→i=j
 fresh:∀(i:Nat) (x:Add) (id:Nat),al[i]?=some x→id∈x.blks.map (·.1)→look s.heap id=none
theorem zer {α:Type} {f:α→Option Nat}:∀{l:List α},(l.filterMap f).Nodup→∀(i j:Nat) (x y:α) (t:Nat),l[i]?=some x→l[j]?=some y→f x=some t→f y=some t→i=j
 | [],_,i,j,x,y,t,h1,_,_,_=>by simp at h1
 | z::r,hn,i,j,x,y,t,h1,h2,h3,h4=>by
  have mem:∀(k:Nat) (u:α),r[k]?=some u→f u=some t→t∈r.filterMap f:=fun k u hk hu=>List.mem_filterMap.2 ⟨u,List.mem_of_getElem? hk,hu⟩
  have hn2:(r.filterMap f).Nodup:=by
   cases hz:f z with
   | none=>rw [List.filterMap_cons_none hz] at hn;exact hn
   | some k=>rw [List.filterMap_cons_some hz] at hn;exact (List.nodup_cons.1 hn).2
  have hno:f z=some t→t∉r.filterMap f:=fun hz=>by rw [List.filterMap_cons_some hz] at hn;exact (List.nodup_cons.1 hn).1
  cases i with
  | zero =>
   simp at h1;subst h1
   cases j with
   | zero=>rfl
   | succ j=>exact absurd (mem j y (by simpa using h2) h4) (hno h3)
  | succ i =>
   cases j with
   | zero=>simp at h2;subst h2;exact absurd (mem i x (by simpa using h1) h3) (hno h4)
   | succ j=>rw [zer hn2 i j x y t (by simpa using h1) (by simpa using h2) h3 h4]
theorem zft {α:Type} {f:α→List Nat}:∀{l:List α},(l.flatMap f).Nodup→∀(i j:Nat) (x y:α) (t:Nat),l[i]?=some x→l[j]?=some y→t∈f x→t∈f y→i=j
 | [],_,i,j,x,y,t,h1,_,_,_=>by simp at h1
 | z::r,hn,i,j,x,y,t,h1,h2,h3,h4=>by
  rw [List.flatMap_cons,List.nodup_append] at hn
  have mem:∀(k:Nat) (u:α),r[k]?=some u→t∈f u→t∈r.flatMap f:=fun k u hk hu=>List.mem_flatMap.2 ⟨u,List.mem_of_getElem? hk,hu⟩
  cases i with
  | zero =>
   simp at h1;subst h1
   cases j with
   | zero=>rfl
   | succ j=>exact absurd rfl (hn.2.2 t h3 t (mem j y (by simpa using h2) h4))
  | succ i =>
   cases j with
   | zero=>simp at h2;subst h2;exact absurd rfl (hn.2.2 t h4 t (mem i x (by simpa using h1) h3))
   | succ j=>rw [zft hn.2.1 i j x y t (by simpa using h1) (by simpa using h2) h3 h4]
theorem SD_le (ap:Apart l m al s) {D D':Nat→Bool} (h:∀i,D i=true→D' i=true):Le (SD D 0 (l.take m) al (s.hide (dsts (l.take m)))) (SD D' 0 (l.take m) al (s.hide (dsts (l.take m)))):=by
 refine ⟨by rw [(SD_nt _ _ _ _).1,(SD_nt _ _ _ _).1],by rw [(SD_nt _ _ _ _).2,(SD_nt _ _ _ _).2],fun t ht=>?_,fun id b hb=>?_⟩
 ·by_cases hex:∃(j:Nat) (o:Oper),(l.take m)[j]?=some o∧o.dst=some t
  ·obtain ⟨j,o,h1,h2⟩:=hex
   have hjl:j<al.length:=by rw [←ap.len];exact (List.getElem?_eq_some_iff.1 h1).1
   have hx:al[j]?=some al[j]:=List.getElem?_eq_getElem hjl
   have hu:∀(j':Nat) (o':Oper),(l.take m)[j']?=some o'→j'<al.length→o'.dst=some t→j'=j:=fun j' o' h3 _ h4=>ap.dst j' j o' o t h3 h1 h4 h2
   by_cases hD:D j=true
   ·rw [zbR 0 _ al _ t j o _ h1 hx h2 (by simpa using h j hD) hu,zbR 0 _ al _ t j o _ h1 hx h2 (by simpa using hD) hu]
   ·exfalso
    apply ht
    rw [zbr 0 _ al _ t fun j' o' h3 h4 h5 h6=>by rw [hu j' o' h3 h5 h6] at h4;simp at h4;exact hD h4]
    rw [hide_get,if_pos]
    exact List.mem_filterMap.2 ⟨o,List.mem_of_getElem? h1,h2⟩
  ·have hn:∀(D:Nat→Bool) (j:Nat) (o:Oper),(l.take m)[j]?=some o→D (0+j)=true→j<al.length→o.dst≠some t:=fun D j o h1 _ _ h2=>hex ⟨j,o,h1,h2⟩
   rw [zbr 0 _ al _ t (hn D'),zbr 0 _ al _ t (hn D)]
 ·by_cases hex:∃(j:Nat) (x:Add),al[j]?=some x∧id∈x.blks.map (·.1)
  ·obtain ⟨j,x,h1,h2⟩:=hex
   have hjl:j<(l.take m).length:=by rw [ap.len];exact (List.getElem?_eq_some_iff.1 h1).1
   have hu:∀(j':Nat) (x':Add),al[j']?=some x'→id∈x'.blks.map (·.1)→j'=j:=fun j' x' h3 h4=>ap.key j' j x' x id h3 h1 h4 h2
   by_cases hD:D j=true
   ·rw [zcm 0 _ al _ id j x hjl h1 h2 (by simpa using hD) hu] at hb
    rw [zcm 0 _ al _ id j x hjl h1 h2 (by simpa using h j hD) hu]
    exact hb
   ·rw [zbn 0 _ al _ id fun j' x' h3 h4 h5 h6=>by rw [hu j' x' h3 h6] at h4;simp at h4;exact hD h4] at hb
    have:=ap.fresh j x id h1 h2
    rw [show look (s.hide (dsts (l.take m))).heap id=look s.heap id from rfl,this] at hb
    cases hb
  ·have hn:∀(D:Nat→Bool) (j:Nat) (x:Add),al[j]?=some x→D (0+j)=true→j<(l.take m).length→id∉x.blks.map (·.1):=fun D j x h1 _ _ h2=>hex ⟨j,x,h1,h2⟩
   rw [zbn 0 _ al _ id (hn D)] at hb
   rw [zbn 0 _ al _ id (hn D')]
   exact hb
theorem SD_fresh (ap:Apart l m al s) {D:Nat→Bool} {i:Nat} {x:Add} (hx:al[i]?=some x) (hi:¬D i=true):∀id,id∈x.blks.map (·.1)→look (SD D 0 (l.take m) al (s.hide (dsts (l.take m)))).heap id=none:=fun id hid=>by
 rw [zbn 0 _ al _ id fun j' x' h3 h4 h5 h6=>by rw [ap.key j' i x' x id h3 hx h6 hid] at h4;simp at h4;exact hi h4]
 exact ap.fresh i x id hx hid
theorem SD_add (ap:Apart l m al s) {D D':Nat→Bool} {i:Nat} {o:Oper} {x:Add} (ho:(l.take m)[i]?=some o) (hx:al[i]?=some x) (hi:¬D i=true) (hD:∀j,D' j=true↔(D j=true∨j=i)) :
  (∀t,get (SD D' 0 (l.take m) al (s.hide (dsts (l.take m)))).env t=get ((SD D 0 (l.take m) al (s.hide (dsts (l.take m)))).add o.dst x).env t) ∧
  ∀id,look (SD D' 0 (l.take m) al (s.hide (dsts (l.take m)))).heap id=look ((SD D 0 (l.take m) al (s.hide (dsts (l.take m)))).add o.dst x).heap id:=by
 have hil:i<al.length:=(List.getElem?_eq_some_iff.1 hx).1
 have hil2:i<(l.take m).length:=(List.getElem?_eq_some_iff.1 ho).1
 refine ⟨fun t=>?_,fun id=>?_⟩
 ·rw [add_get]
  by_cases hd:o.dst=some t
  ·rw [if_pos hd]
   exact zbR 0 _ al _ t i o x ho hx hd (by simpa using (hD i).2 (.inr rfl)) fun j' o' h3 _ h4=>ap.dst j' i o' o t h3 ho h4 hd
  ·rw [if_neg hd]
   by_cases hex:∃(j:Nat) (o:Oper),(l.take m)[j]?=some o∧o.dst=some t∧D j=true
   ·obtain ⟨j,o1,h1,h2,h3⟩:=hex
    have hjl:j<al.length:=by rw [←ap.len];exact (List.getElem?_eq_some_iff.1 h1).1
    have hx1:al[j]?=some al[j]:=List.getElem?_eq_getElem hjl
    have hu:∀(j':Nat) (o':Oper),(l.take m)[j']?=some o'→j'<al.length→o'.dst=some t→j'=j:=fun j' o' h3 _ h4=>ap.dst j' j o' o1 t h3 h1 h4 h2
    rw [zbR 0 _ al _ t j o1 _ h1 hx1 h2 (by simpa using (hD j).2 (.inl h3)) hu,zbR 0 _ al _ t j o1 _ h1 hx1 h2 (by simpa using h3) hu]
   ·rw [zbr 0 _ al _ t fun j o1 h1 h2 h3 h4=>?_,zbr 0 _ al _ t fun j o1 h1 h2 h3 h4=>hex ⟨j,o1,h1,h4,by simpa using h2⟩]
    rcases (hD j).1 (by simpa using h2) with h5|h5
    ·exact hex ⟨j,o1,h1,h4,h5⟩
    ·subst h5;rw [ho] at h1;injection h1 with h1;subst h1;exact hd h4
 ·rw [add_look]
  by_cases hd:id∈x.blks.map (·.1)
  ·rw [if_pos hd]
   exact zcm 0 _ al _ id i x hil2 hx hd (by simpa using (hD i).2 (.inr rfl)) fun j' x' h3 h4=>ap.key j' i x' x id h3 hx h4 hd
  ·rw [if_neg hd]
   by_cases hex:∃(j:Nat) (x:Add),al[j]?=some x∧id∈x.blks.map (·.1)∧D j=true
   ·obtain ⟨j,x1,h1,h2,h3⟩:=hex
    have hjl:j<(l.take m).length:=by rw [ap.len];exact (List.getElem?_eq_some_iff.1 h1).1
    have hu:∀(j':Nat) (x':Add),al[j']?=some x'→id∈x'.blks.map (·.1)→j'=j:=fun j' x' h3 h4=>ap.key j' j x' x1 id h3 h1 h4 h2
    rw [zcm 0 _ al _ id j x1 hjl h1 h2 (by simpa using (hD j).2 (.inl h3)) hu,zcm 0 _ al _ id j x1 hjl h1 h2 (by simpa using h3) hu]
   ·rw [zbn 0 _ al _ id fun j x1 h1 h2 h3 h4=>?_,zbn 0 _ al _ id fun j x1 h1 h2 h3 h4=>hex ⟨j,x1,h1,h4,by simpa using h2⟩]
    rcases (hD j).1 (by simpa using h2) with h5|h5
    ·exact hex ⟨j,x1,h1,h4,h5⟩
    ·subst h5;rw [hx] at h1;injection h1 with h1;subst h1;exact hd h4
theorem zeZ {listed:Array Bool} {n:Nat} (hs:listed.size=n) {j:Nat}:(listed.getD j true=false)→j<n∧listed.getD j false=false:=fun h=>by
 by_cases hj:j<listed.size
 ·exact ⟨by omega,by simpa [hj] using h⟩
 ·simp [hj] at h
def unl (n:Nat) (listed:Array Bool):Nat:=((List.range n).filter fun j=>!listed.getD j false).length
theorem unl_set {n i:Nat} {listed:Array Bool} (hs:listed.size=n) (hi:i<n) (hl:listed.getD i false=false):unl n (listed.setIfInBounds i true)<unl n listed:=by
 unfold unl
 have hsub:((List.range n).filter fun j=>!(listed.setIfInBounds i true).getD j false)=((List.range n).filter fun j=>!listed.getD j false).filter fun j=>!(Nat.beq i j):=by
  rw [List.filter_filter]
  apply List.filter_congr
  intro j hj
  have hjn:=List.mem_range.1 hj
  by_cases hij:i=j
  ·subst hij
   simp [Array.getD,hs,hjn,Nat.beq_refl]
  ·have:Nat.beq i j=false:=by
    cases h:Nat.beq i j
    ·rfl
    ·exact absurd (Nat.eq_of_beq_eq_true h) hij
   rw [getD_set_ne false hij,this]
   simp
 rw [hsub]
 have hmem:i∈(List.range n).filter fun j=>!listed.getD j false:=List.mem_filter.2 ⟨List.mem_range.2 hi,by rw [hl];rfl⟩
 exact List.length_filter_lt_length_iff_exists.2 ⟨i,hmem,by simp [Nat.beq_refl]⟩
theorem draw_any (hst:staticOk l m=true) (hkeys:nodupB (keysOf al)=true) (hfr:∀id,id∈keysOf al→look s.heap id=none) (hob:Obs P l m al s 0 (l.take m) al)
  (hrest:AOps P l.toArray (l.drop m) (SD (fun _=>true) 0 (l.take m) al s) Q) {U T:Nat→Prop} {w0:Base} {a:Act} {w:World} {hv:Nat→Value} (ok:Ok U T w0 s a w hv) :
  wpAny P .any l.toArray (Post U T w0 Q) l.toArray.size (Array.replicate l.toArray.size false) a w:=by
 simp only [staticOk,Bool.and_eq_true] at hst
 obtain ⟨⟨⟨hback,hsuf⟩,hm⟩,hdst⟩:=hst
 have hm':=Nat.le_of_ble_eq_true hm
 have ap:Apart l m al s:=by
  refine ⟨Obs.length hob,fun i j o o' t h1 h2 h3 h4=>zer (zdQ hdst) i j o o' t h1 h2 h3 h4,fun i j x y id h1 h2 h3 h4=>zft (zdQ hkeys) i j x y id h1 h2 h3 h4,fun i x id h1 h2=>hfr id (List.mem_flatMap.2 ⟨x,List.mem_of_getElem? h1,h2⟩)⟩
 have hbk:∀i o,l[i]?=some o→∀j,j∈Oper.edges o→j<i:=fun i o ho j hj=>by
  have h1:=List.all_eq_true.1 hback i (List.mem_range.2 (List.getElem?_eq_some_iff.1 ho).1)
  rw [ho] at h1
  have h2:=List.all_eq_true.1 h1 j hj
  simpa [Nat.blt_eq] using h2
 have hsf:∀i o,m≤i→l[i]?=some o→depsOk l i [] (List.range i).reverse=true:=fun i o hi ho=>by
  have h1:=List.all_eq_true.1 hsuf i (List.mem_range.2 (List.getElem?_eq_some_iff.1 ho).1)
  rw [Bool.or_eq_true] at h1
  rcases h1 with h1|h1
  ·have:i<m:=by simpa [Nat.blt_eq] using h1
   omega
  ·exact h1

 let Inv:Array Bool→Act→World→Prop:=fun listed a w =>
  (∀k o,l[k]?=some o→listed.getD k false=true→∀j,j∈Oper.edges o→listed.getD j false=true) ∧
  (((∀k,m≤k→listed.getD k false=false)∧∃hv,Ok U T w0 (SD (fun j=>listed.getD j false) 0 (l.take m) al (s.hide (dsts (l.take m)))) a w hv) ∨
   ∃k,m≤k∧k≤l.length∧(∀j,j<l.length→(listed.getD j false=true↔j<k))∧wpList P l.toArray (Post U T w0 Q) (l.drop k) a w)

 have full:∀(listed:Array Bool) a w hv,(∀k,m≤k→listed.getD k false=false)→(∀k,k<m→listed.getD k false=true)→Ok U T w0 (SD (fun j=>listed.getD j false) 0 (l.take m) al (s.hide (dsts (l.take m)))) a w hv→wpList P l.toArray (Post U T w0 Q) (l.drop m) a w:=by
  intro listed a w hv hno hyes ok
  refine hrest U T w0 a w hv (ok.equiv (by rw [(SD_nt _ _ _ _).1,(SD_nt _ _ _ _).1];rfl) (by rw [(SD_nt _ _ _ _).2,(SD_nt _ _ _ _).2];rfl) (fun t=>?_) (fun id=>?_))
  ·by_cases hex:∃(j:Nat) (o:Oper),(l.take m)[j]?=some o∧o.dst=some t
   ·obtain ⟨j,o,h1,h2⟩:=hex
    have hjl:j<al.length:=by rw [←ap.len];exact (List.getElem?_eq_some_iff.1 h1).1
    have hjm:j<m:=by have:=(List.getElem?_eq_some_iff.1 h1).1;rw [List.length_take] at this;omega
    have hx:al[j]?=some al[j]:=List.getElem?_eq_getElem hjl
    have hu:∀(j':Nat) (o':Oper),(l.take m)[j']?=some o'→j'<al.length→o'.dst=some t→j'=j:=fun j' o' h3 _ h4=>ap.dst j' j o' o t h3 h1 h4 h2
    rw [zbR 0 _ al _ t j o _ h1 hx h2 (by simp) hu,zbR 0 _ al _ t j o _ h1 hx h2 (by simpa using hyes j hjm) hu]
   ·have hn:∀(D:Nat→Bool) (j:Nat) (o:Oper),(l.take m)[j]?=some o→D (0+j)=true→j<al.length→o.dst≠some t:=fun D j o h1 _ _ h2=>hex ⟨j,o,h1,h2⟩
    rw [zbr 0 _ al _ t (hn _),zbr 0 _ al _ t (hn _),hide_get,if_neg]
    intro ht
    obtain ⟨o,h1,h2⟩:=List.mem_filterMap.1 ht
    obtain ⟨j,h3⟩:=List.mem_iff_getElem?.1 h1
    exact hex ⟨j,o,h3,h2⟩
  ·by_cases hex:∃(j:Nat) (x:Add),al[j]?=some x∧id∈x.blks.map (·.1)
   ·obtain ⟨j,x,h1,h2⟩:=hex
    have hjl:j<(l.take m).length:=by rw [ap.len];exact (List.getElem?_eq_some_iff.1 h1).1
    have hjm:j<m:=by rw [List.length_take] at hjl;omega
    have hu:∀(j':Nat) (x':Add),al[j']?=some x'→id∈x'.blks.map (·.1)→j'=j:=fun j' x' h3 h4=>ap.key j' j x' x id h3 h1 h4 h2
    rw [zcm 0 _ al _ id j x hjl h1 h2 (by simp) hu,zcm 0 _ al _ id j x hjl h1 h2 (by simpa using hyes j hjm) hu]
   ·have hn:∀(D:Nat→Bool) (j:Nat) (x:Add),al[j]?=some x→D (0+j)=true→j<(l.take m).length→id∉x.blks.map (·.1):=fun D j x h1 _ _ h2=>hex ⟨j,x,h1,h2⟩
    rw [zbn 0 _ al _ id (hn _),zbn 0 _ al _ id (hn _)]
    rfl
 have key:∀fuel (listed:Array Bool) a w,listed.size=l.length→unl l.length listed≤fuel→Inv listed a w→wpAny P .any l.toArray (Post U T w0 Q) fuel listed a w:=by
  intro fuel

  have done:∀(listed:Array Bool) a w,listed.size=l.length→Inv listed a w→Region.ready .any l.toArray listed=[]→Post U T w0 Q .normal a w:=by
   intro listed a w hs hinv hr
   have hall:∀n,n≤l.length→∀j,j<n→listed.getD j false=true:=by
    intro n
    induction n with
    | zero=>intro _ j hj;omega
    | succ n ih =>
     intro hn j hj
     by_cases hjn:j<n
     ·exact ih (by omega) j hjn
     ·have hj2:j=n:=by omega
      subst hj2
      cases hg:listed.getD j false with
      | true=>rfl
      | false =>
       exfalso
       have hjl:j<l.length:=by omega
       have ho:l[j]?=some l[j]:=List.getElem?_eq_getElem hjl
       have:j∈Region.ready .any l.toArray listed:=mem_ready.2 ⟨by simpa [Array.getD,hs,hjl] using hg,l[j],by simp [hjl],fun e he hb=>ih (by omega) _ (hbk j _ ho _ (edges_mem he hb))⟩
       rw [hr] at this
       cases this
   have hall':=hall l.length (Nat.le_refl _)
   obtain ⟨_,⟨hno,hv,ok⟩|⟨k,h1,h2,h3,h4⟩⟩:=hinv
   ·have hml:m=l.length:=by
     rcases Nat.lt_or_ge m l.length with h|h
     ·have:=hno m (Nat.le_refl _);rw [hall' m h] at this;cases this
     ·omega
    have:=full listed a w hv hno (fun k hk=>hall' k (by omega)) ok
    rw [hml,List.drop_length] at this
    exact this
   ·have hk:k=l.length:=by
     rcases Nat.lt_or_ge k l.length with h|h
     ·have:=(h3 k h).1 (hall' k h);omega
     ·omega
    rw [hk,List.drop_length] at h4
    exact h4
  induction fuel with
  | zero =>
   intro listed a w hs hu hinv
   have hr:Region.ready .any l.toArray listed=[]:=by
    cases hr:Region.ready .any l.toArray listed with
    | nil=>rfl
    | cons i r =>
     exfalso
     have hi:i∈Region.ready .any l.toArray listed:=by rw [hr];simp
     obtain ⟨h1,o,h2,h3⟩:=mem_ready.1 hi
     obtain ⟨h4,h5⟩:=zeZ hs h1
     have hmem:i∈(List.range l.length).filter fun j=>!listed.getD j false:=List.mem_filter.2 ⟨List.mem_range.2 h4,by rw [h5];rfl⟩
     have hpos:=List.length_pos_of_mem hmem
     unfold unl at hu
     omega
   exact ⟨hr,done listed a w hs hinv hr⟩
  | succ fuel ih =>
   intro listed a w hs hu hinv
   refine ⟨done listed a w hs hinv,fun i hi=>?_⟩
   obtain ⟨h1,o,h2,h3⟩:=mem_ready.1 hi
   obtain ⟨hil,hi0⟩:=zeZ hs h1
   have ho:l[i]?=some o:=by simpa using h2
   have hs':(listed.setIfInBounds i true).size=l.length:=by simpa using hs
   have hu':unl l.length (listed.setIfInBounds i true)≤fuel:=by have:=unl_set hs hil hi0;omega
   have hset:∀j,(listed.setIfInBounds i true).getD j false=true↔(listed.getD j false=true∨j=i):=fun j=>by
    by_cases hij:i=j
    ·subst hij
     have:(listed.setIfInBounds i true).getD i false=true:=by simp [Array.getD,hs,hil]
     exact ⟨fun _=>.inr rfl,fun _=>this⟩
    ·rw [getD_set_ne false hij]
     exact ⟨.inl,fun h=>h.resolve_right (Ne.symm hij)⟩
   obtain ⟨hcl,hcase⟩:=hinv
   have hedge:∀j,j∈Oper.edges o→listed.getD j false=true:=fun j hj=>by
    obtain ⟨e,he,hb,hon⟩:=mem_edges hj
    rw [←hon]
    exact h3 e he hb
   have hearl:m≤i→∀j,j<i→listed.getD j false=true:=fun hmi j hj=>zdJ (D:=fun j=>listed.getD j false) (fun k o' hk hor j hj=>by
    rcases hor with hl|rfl
    ·exact hcl k o' hk hl j hj
    ·rw [ho] at hk;injection hk with hk;subst hk;exact hedge j hj) [] _ (fun j hj=>by cases hj) (hsf i o hmi ho) j (by simpa using hj)
   have hcl':∀k o',l[k]?=some o'→(listed.setIfInBounds i true).getD k false=true→∀j,j∈Oper.edges o'→(listed.setIfInBounds i true).getD j false=true:=fun k o' hk hl j hj=>by
    rw [hset] at hl ⊢
    rcases hl with hl|hl
    ·exact .inl (hcl k o' hk hl j hj)
    ·subst hl;rw [ho] at hk;injection hk with hk;subst hk;exact .inl (hedge j hj)

   have step2:∀k,m≤k→(∀j,j<l.length→(listed.getD j false=true↔j<k))→wpList P l.toArray (Post U T w0 Q) (l.drop k) a w→wpOp P l.toArray (Post U T w0 Q) i (wpAny P .any l.toArray (Post U T w0 Q) fuel (listed.setIfInBounds i true)) a w:=by
    intro k hk hiff hwp
    have hik:i=k:=by
     have h4:¬i<k:=fun h=>by have:=(hiff i hil).2 h;rw [hi0] at this;cases this
     rcases Nat.lt_or_ge k i with h5|h5
     ·have:=(hiff k (by omega)).1 (hearl (by omega) k h5);omega
     ·omega
    subst hik
    have hdrop:l.drop i=o::l.drop (i+1):=by
     rw [List.drop_eq_getElem_cons hil]
     congr 1
     have:=List.getElem?_eq_getElem hil
     rw [ho] at this
     injection this with this
     exact this.symm
    rw [hdrop] at hwp
    unfold wpOp
    rw [h2]
    simp only
    have next:∀a w,wpList P l.toArray (Post U T w0 Q) (l.drop (i+1)) a w→wpAny P .any l.toArray (Post U T w0 Q) fuel (listed.setIfInBounds i true) a w:=fun a w hwp=>by
     refine ih _ a w hs' hu' ⟨hcl',.inr ⟨i+1,by omega,by omega,fun j hj=>?_,hwp⟩⟩
     rw [hset,hiff j hj]
     omega
    unfold wpList at hwp
    split
    ·rename_i hw
     rw [if_pos hw] at hwp
     exact hwp.imp (Oper.wp_mono next) id
    ·rename_i hw
     rw [if_neg hw] at hwp
     exact next _ _ hwp
   rcases hcase with ⟨hno,hv,ok⟩|⟨k,hk1,hk2,hiff,hwp⟩
   ·by_cases him:i<m
    ·
     have hot:(l.take m)[i]?=some o:=by rw [List.getElem?_take,if_pos him];exact ho
     obtain ⟨x,hx,deps,hdeps,hobi⟩:=Obs.at hob hot
     simp only [Nat.zero_add] at hdeps
     have hdl:=zdJ (D:=fun j=>listed.getD j false) (fun k o' hk hor j hj=>by
      rcases hor with hl|rfl
      ·exact hcl k o' hk hl j hj
      ·rw [ho] at hk;injection hk with hk;subst hk;exact hedge j hj) [] deps (fun j hj=>by cases hj) hdeps
     have hle:=SD_le ap (D:=memB deps) (D':=fun j=>listed.getD j false) fun j hj=>hdl j (memB_mem hj)
     have hob':=hobi _ hle (SD_fresh ap hx (by simp [hi0]))
     obtain ⟨e1,e2⟩:=SD_add ap (D:=fun j=>listed.getD j false) (D':=fun j=>(listed.setIfInBounds i true).getD j false) hot hx (by simp [hi0]) hset
     have next:∀a w hv,Ok U T w0 ((SD (fun j=>listed.getD j false) 0 (l.take m) al (s.hide (dsts (l.take m)))).add o.dst x) a w hv→wpAny P .any l.toArray (Post U T w0 Q) fuel (listed.setIfInBounds i true) a w:=fun a w hv ok=>by
      refine ih _ a w hs' hu' ⟨hcl',.inl ⟨fun k hk=>?_,hv,ok.equiv (by rw [(SD_nt _ _ _ _).1,(add_nt _ _ _).1,(SD_nt _ _ _ _).1]) (by rw [(SD_nt _ _ _ _).2,(add_nt _ _ _).2,(SD_nt _ _ _ _).2]) e1 e2⟩⟩
      cases hg:(listed.setIfInBounds i true).getD k false with
      | false=>rfl
      | true =>
       rcases (hset k).1 hg with h5|h5
       ·rw [hno k hk] at h5;cases h5
       ·omega
     unfold wpOp
     rw [h2]
     simp only
     rcases hob' with ⟨hwant,hev⟩|⟨hwant,rfl,hd⟩
     ·rw [if_pos (hwant.wanted ok.m)]
      exact .inl (hev U T w0 a w hv ok _ _ fun s' v w' hv' hs ok' _=>next _ _ hv' (hs▸ok'))
     ·rw [if_neg (by rw [hwant.wanted ok.m];simp)]
      refine next _ _ hv ?_
      have:=ok.next (Fr.refl (fun _=>False) w) (fun _ e=>e.elim) (fun _ id _=>Pass.refl _ _ id) (fun id _=>Pass.refl _ _ id) ok.m.hm (fun _ h _=>h) (d:=o.dst) (r:=.tup []) (v:=undef) ⟨[],rfl,.nil⟩ hd
      exact this
    ·
     have hyes:∀k,k<m→listed.getD k false=true:=fun k hk=>hearl (by omega) k (by omega)
     refine step2 m (Nat.le_refl _) (fun j hj=>⟨fun h=>?_,fun h=>hyes j h⟩) (full listed a w hv hno hyes ok)
     rcases Nat.lt_or_ge j m with h5|h5
     ·exact h5
     ·rw [hno j h5] at h;cases h
   ·exact step2 k hk1 hiff hwp
 refine key _ _ a w (by simp) ?_ ⟨fun k o _ h=>?_,.inl ⟨fun k _=>?_,hv,?_⟩⟩
 ·unfold unl
  have:=List.length_filter_le (fun j=>!(Array.replicate l.toArray.size false).getD j false) (List.range l.length)
  simpa using this
 ·exfalso;simp [Array.getD] at h
 ·simp [Array.getD]
 ·have h0:=ok_hide ok (dsts (l.take m))
  refine h0.equiv (SD_nt _ _ _ _).1 (SD_nt _ _ _ _).2 (fun t=>zbr 0 _ al _ t fun j o' _ h4 _ _=>?_) fun id=>zbn 0 _ al _ id fun j x' _ h4 _ _=>?_
  ·simp [Array.getD] at h4
  ·simp [Array.getD] at h4
theorem zgN {l:List Oper} (h:noDefer l=true):∀(i:Nat) (o:Oper),l.toArray[i]?=some o→notDefer o.op=true:=fun i o ho =>
 List.all_eq_true.1 h o (List.mem_of_getElem? (by simpa using ho))
theorem aw_draw {id:Nat} (m:Nat) (al:List Add) (hmix:P.follows .mixedOrders=true) (hst:(staticOk l m&&noDefer l)=true) (hkeys:nodupB (keysOf al)=true) (hfr:(keysOf al).all (fun id=>(look s.heap id).isNone)=true) (hob:Obs P l m al s 0 (l.take m) al)
  (hrest:AOps P l.toArray (l.drop m) (SD (fun _=>true) 0 (l.take m) al s) Q):AW P (.region id l.toArray true) s Q:=fun n r U T w0 a w hv ok mk=>by
 rw [Bool.and_eq_true] at hst
 exact wpIn_region_any hmix (any_in (ds:=a.defers) (a:=bare a) (fun e a' w' h'=>post_in ok mk h') post_calm (zgN hst.2) _ _ _ (draw_any hst.1 hkeys (fun id hid=>by simpa using List.all_eq_true.1 hfr id hid) hob hrest (by
  have:=ok.base.next (w':=w.drew) (Fr.drew (fun _=>False) w) (fun _ e=>e.elim) (fun _ id _=>Pass.refl _ _ id) (fun id _=>Pass.refl _ _ id) (ok.m.hm.keep (Fr.drew _ w)) (fun _ h _=>h) (d:=none) (r:=.one .any) (v:=undef) trivial rfl
  exact this)))
end
end Abs
end Go.Proofs.YtclffekkjfhpdaaGreat

