import Derived.Test.YtbijabmjbgplbaaGreatDoorQ1
import Derived.Shelf.Small.Strs
import Derived.Shelf.Strconv.Itoa3
import Derived.Shelf.Strconv.ParseIntPublic10
import Derived.Shelf.Bits.Mul64
import Derived.Ground.SlgnProg
import Derived.Ground.SlmcProg
import Derived.Shelf.SlicesE.Clone
import Derived.Shelf.SlMaps.Clone
import Derived.Test.YtbijabmjbgplbaaGreatDoorProg
import Derived.Test.YtbijabmjbgplbaaGreatDoorQ0
import Derived.Lib.Bytealg
import Derived.Lib.ItoaNum
import Derived.Lib.ParseIntB
import Derived.Lib.Strings
import Derived.Lib.AtoiErrMem
import Derived.Lib.AppendIntMem
import Derived.KernelRfl
import Derived.Deep.RegionLaw
import Derived.BigRegion
import Derived.Laws.CopyOwn
import Derived.Deep.OwnRows
set_option linter.unusedVariables false
set_option linter.unusedSimpArgs false
namespace Go.Proofs.YtbijabmjbgplbaaGreatDoor
open Go.ChangeShapes Go.WideShapes Go.RowKit
namespace G
inductive Gd where
 | yes
 | no
 | ask (t:Nat) (b:Bool)
def guardOf (nt:Nat) (all:List Oper) (G:Nat->XA) (o:Oper):Option Gd :=
 match o.guard with
 | none=>some .yes
 | some (j,want) =>
  match (all.toArray[j]?).bind (·.dst) with
  | some t=>bif Nat.blt t nt then
    (match G t with
    | .one (.bl b)=>some (bif b==want then .yes else .no)
    | .one (.b b)=>some (.ask t b)
    | .tu []=>some .no
    | _=>none) else none
  | none=>none
def dsts (l:List Oper):List Nat:=l.filterMap (·.dst)
def extent (t:Nat):List Oper->Option Nat
 | []=>none
 | o::os=>match o.op with
  | .pick (.tmp c) _ _=>bif Nat.beq c t then some 1 else (extent t os).map (· + 1)
  | _=>(extent t os).map (· + 1)
def zkb (b:Bool) (v1 v0:XA):Option XV :=
 match v1,v0 with
 | .one p,.one q =>
  match p,q with
  | .b x,.bl false=>some (.b (b&&x))
  | .bl x,.bl false=>some (.b (b&&x))
  | .bl true,.b y=>some (.b (b||y))
  | .bl true,.bl y=>some (.b (b||y))
  | p,q=>match Qe p,Qe q with
   | some x,some y=>some (.b (bif b then x else y))
   | _,_=>none
 | _,_=>none
def zis (l:List Oper):Option Nat:=(l.getLast?).bind (·.dst)
def St.grp (s:St) (d:Nat) (v:XV) (ds:List Nat):St:=⟨(d,.one v)::drops ds++s.env,s.hp,s.nx⟩
section
variable (Ct:Ctab) (all:List Oper)
def step1 {R:Type} (cx:Cx) (s:St) (o:Oper) (K:St->Option R):Option (Option R) :=
 aopF cx.P (cx.E s) (cx.H s) Ct s.nx o.op fun u=>bif u.ids.all (Nat.ble s.nx) then K (s.upd o.dst u) else none
def step {R:Type} (cx:Cx) (s:St) (o:Oper) (K:St->Option R):Option (Option R) :=
 match step1 Ct cx s o K with
 | some m=>some m
 | none=>firstM (fun ps=>match nilS cx ps s with
  | some s'=>step1 Ct cx s' o K
  | none=>none) (npO (cx.E s) (cx.H s) Ct o.op)
def zdd (cx:Cx) (nx:Nat):Nat->List Oper->XEnv->Option XEnv
 | 0,_,_=>none
 | k+1,os,e =>
  match os with
  | []=>some e
  | o::os =>
   bif dOk cx.nt o.dst then
    (match guardOf cx.nt all (get (cx.full ⟨e,[],nx⟩).env) o with
    | some .yes=>(pop cx.P (cx.E ⟨e,[],nx⟩) (vis (cx.H ⟨e,[],nx⟩)) o.op).bind fun v=>zdd cx nx k os ((⟨e,[],nx⟩:St).put o.dst v)
    | some .no=>zdd cx nx k os ((⟨e,[],nx⟩:St).put o.dst (.tu []))
    | some (.ask t b) =>
     match extent t (o::os),zis ((o::os).take ((extent t (o::os)).getD 0)) with
     | some n,some d =>
      match zdd (cx.under ⟨e,[],nx⟩) nx k ((o::os).take n) [(t,.one (.bl true))],zdd (cx.under ⟨e,[],nx⟩) nx k ((o::os).take n) [(t,.one (.bl false))] with
      | some e1,some e0 =>
       let ds:=t::dsts ((o::os).take n)
       bif (JI e1).all (memB ds)&&(JI e0).all (memB ds) then
        (zkb b (get e1 d) (get e0 d)).bind fun v=>zdd cx nx k ((o::os).drop n) ((d,.one v)::drops ds++e) else none
      | _,_=>none
     | _,_=>none
    | none=>none) else none
def grpK (d t:Nat) (os:List Oper) (nx:Nat):Kp:=⟨[(d,.one (.leaf (.val .bool)))],[],t::dsts os,[],nx,[.o .bool]⟩
def rops {R:Type} (fk:Bool) (cx:Cx):Nat->List Oper->St->(St->Option R)->Option R
 | 0,_,_,_=>none
 | k+1,os,s,K =>
  match os with
  | []=>K s
  | o::os =>
   bif dOk cx.nt o.dst then
    (match guardOf cx.nt all (get (cx.full s).env) o with
    | some .yes =>
     match step Ct cx s o (fun x=>rops fk cx k os x K) with
     | some m=>m
     | none=>none
    | some .no=>rops fk cx k os (s.upd o.dst (XA.tu []).x) K
    | some (.ask t b) =>
     bif fk then (bif b then rops fk cx k (o::os) ⟨(t,.one (.bl true))::s.env,s.hp,s.nx⟩ K else rops fk cx k (o::os) ⟨(t,.one (.bl false))::s.env,s.hp,s.nx⟩ K) else
     match extent t (o::os),zis ((o::os).take ((extent t (o::os)).getD 0)) with
     | some n,some d =>
      let ds:=t::dsts ((o::os).take n)
      match zdd all (cx.under s) s.nx k ((o::os).take n) [(t,.one (.bl true))],zdd all (cx.under s) s.nx k ((o::os).take n) [(t,.one (.bl false))] with
      | some e1,some e0 =>
       bif (JI e1).all (memB ds)&&(JI e0).all (memB ds) then
        (match zkb b (get e1 d) (get e0 d) with
        | some v=>rops fk cx k ((o::os).drop n) (s.grp d v ds) K
        | none=>none) else none
      | _,_ =>
       (
        bif b then rops fk (cx.under s) k ((o::os).take n) ⟨[(t,.one (.bl true))],[],s.nx⟩ (fun s'=>leaf (cx.under s) s.nx (grpK d t ((o::os).take n) s.nx) s')
        else rops fk (cx.under s) k ((o::os).take n) ⟨[(t,.one (.bl false))],[],s.nx⟩ (fun s'=>leaf (cx.under s) s.nx (grpK d t ((o::os).take n) s.nx) s')).bind fun (v:Bool) =>
        rops fk cx k ((o::os).drop n) (s.grp d (.b v) ds) K
     | _,_=>none
    | none=>none) else none
end
section
variable {cx:Cx} {B:Base} {κ:Kn} {s:St} {a:Act} {all:List Oper} {Ct:Ctab} {o:Oper} {Q:Exit->Act->World->Prop}
theorem zgc {t:Nat} {v:Value} {p:XV} (ok:Ok cx.nt B κ s a) (h:get s.env t=.one p) (hp:plain p=some (.val v)) (hn:t<cx.nt):a.tmps[t]?=some v:=by
 have h1:=ok.env t;rw [h] at h1;have h2:=WU hp h1;have hlt:t<a.tmps.size:=by rw [ok.nt];exact hn
 rw [Array.getElem?_eq_getElem hlt];rw [<-h2];simp [Array.getD,hlt]
theorem zbJ (ok:Ok cx.nt B κ s a) (h:guardOf cx.nt all (get s.env) o=some .yes):Region.wanted o (yielded all.toArray a.tmps)=true:=by
 unfold guardOf at h;split at h
 .rename_i hg;simp [Region.wanted,hg]
 .rename_i j want hg
  split at h
  .rename_i t ht
   cases hb:Nat.blt t cx.nt
   .rw [hb] at h;cases h
   .rw [hb,cond_true] at h
    have hn:t<cx.nt:=by rwa [Nat.blt_eq] at hb
    split at h
    .rename_i b hG
     cases hw:(b==want)
     .rw [hw] at h;cases h
     .have hv:=zgc ok hG rfl hn
      have:b=want:=by simpa using hw
      subst this;simp only [Region.wanted,hg,yielded,ht,Option.bind_some,hv];simp
    .cases h
    .cases h
    .cases h
  .cases h
theorem zcX (ok:Ok cx.nt B κ s a) (h:guardOf cx.nt all (get s.env) o=some .no):Region.wanted o (yielded all.toArray a.tmps)=false:=by
 unfold guardOf at h;split at h
 .cases h
 .rename_i j want hg
  split at h
  .rename_i t ht
   cases hb:Nat.blt t cx.nt
   .rw [hb] at h;cases h
   .rw [hb,cond_true] at h
    have hn:t<cx.nt:=by rwa [Nat.blt_eq] at hb
    split at h
    .rename_i b hG
     cases hw:(b==want)
     .have hv:=zgc ok hG rfl hn
      simp only [Region.wanted,hg,yielded,ht,Option.bind_some,hv];cases b<;>cases want<;>first|rfl|cases hw
     .rw [hw] at h;cases h
    .cases h
    .rename_i hG
     have h1:=ok.env t;rw [hG] at h1;obtain ⟨vs,e,h2⟩:=h1;cases h2;have hlt:t<a.tmps.size:=by rw [ok.nt];exact hn
     have hv:a.tmps[t]?=some (.tuple #[]):=by
      rw [Array.getElem?_eq_getElem hlt]
      congr 1
      simpa [Array.getD,hlt] using e
     simp only [Region.wanted,hg,yielded,ht,Option.bind_some,hv];cases want<;>rfl
    .cases h
  .cases h
theorem zdY {G:Nat->XA} {t:Nat} {b:Bool} {nt:Nat} (h:guardOf nt all G o=some (.ask t b)):G t=.one (.b b):=by
 unfold guardOf at h;split at h
 .cases h
 .rename_i j want hg
  split at h
  .rename_i t' ht
   cases hb:Nat.blt t' nt
   .rw [hb] at h;cases h
   .rw [hb,cond_true] at h
    split at h
    .rename_i b' hG;cases hw:(b'==want)<;>rw [hw] at h<;>cases h
    .rename_i b' hG;cases h;exact hG
    .cases h
    .cases h
  .cases h
theorem zgf {R:Type} (ht:VI cx.P Ct) {K:St->Option R} {m:Option R} {r:R} (h:step1 Ct cx s o K=some m) (hm:m=some r) (hd:dOk cx.nt o.dst=true) (ok:Ok cx.nt B κ (cx.full s) a) {next:Act->World->Prop}
  (hK:∀κ' s' a',K s'=some r->Ok cx.nt B κ' (cx.full s') a'->next a' κ'.w):o.wp cx.P a κ.w next Q:=by
 obtain ⟨u,h1,h2⟩:=zhk ht h hm;cases hi:u.ids.all (Nat.ble s.nx)
 .rw [hi] at h1;cases h1
 .rw [hi,cond_true] at h1
  have hq:∀id,id∈u.ids->s.nx<=id:=fun id hid=>Nat.le_of_ble_eq_true (List.all_eq_true.1 hi id hid);refine h2.go rfl (zer ok) ok.hp ok.wd (fun id hid hN=>?_) next Q fun v κ' e=>hK κ' _ _ h1 ?_
  .have:=ok.nx id hN
   have:=hq id hid;have hnx:(cx.full s).nx=s.nx:=rfl;omega
  .rw [zfP]
   exact ok.upd e hd fun id hid=>Nat.le_trans ok.low (hq id hid)
theorem step_ok {R:Type} (ht:VI cx.P Ct) {K:St->Option R} {m:Option R} {r:R} (h:step Ct cx s o K=some m) (hm:m=some r) (hd:dOk cx.nt o.dst=true) (ok:Ok cx.nt B κ (cx.full s) a) {next:Act->World->Prop}
  (hK:∀κ' s' a',K s'=some r->Ok cx.nt B κ' (cx.full s') a'->next a' κ'.w):o.wp cx.P a κ.w next Q:=by
 unfold step at h;split at h
 .rename_i hh;cases h;exact zgf ht hh hm hd ok hK
 .obtain ⟨ps,h⟩:=zcV h
  split at h
  .rename_i s' hs
   obtain ⟨κ1,h1,h2⟩:=zbT hs ok;rw [<-h1];exact zgf ht h hm hd h2 hK
  .cases h
theorem zmU (hd:dOk cx.nt o.dst=true) (ok:Ok cx.nt B κ (cx.full s) a):Ok cx.nt B κ (cx.full (s.upd o.dst (XA.tu []).x)) (a.put o.dst undef):=by
 rw [zfP];exact ok.upd (Eff.pure ⟨[],rfl,.nil⟩) hd nofun
theorem zbP {t:Nat} {b c:Bool} (ok:Ok cx.nt B κ (cx.full s) a) (h:get (cx.full s).env t=.one (.b b)) (hb:b=c):Ok cx.nt B κ ((cx.under s).full ⟨[(t,.one (.bl c))],[],s.nx⟩) a:=by
 subst hb;refine ok.zfF rfl rfl fun t'=>?_;show RepA κ (get ((t,.one (.bl b))::(s.env++cx.ce)) t') _;rw [Vx]
 by_cases ht:t=t'
 .rw [if_pos ht,<-ht]
  have:=ok.env t;rw [h] at this;exact this
 .rw [if_neg ht];exact ok.env t'
theorem zfQ {e:XEnv} {d:Nat} {v:XV} {ds:List Nat} (ok:Ok cx.nt B κ ((cx.under s).full ⟨e,[],s.nx⟩) a) (hk:(JI e).all (memB ds)=true) (hv:RepX κ v (a.tmps.getD d undef)):Ok cx.nt B κ (cx.full (s.grp d v ds)) a:=by
 refine ok.zfF (s:=(cx.under s).full ⟨e,[],s.nx⟩) rfl rfl fun t=>?_;show RepA κ (get (((d,.one v)::drops ds++s.env)++cx.ce) t) _;rw [List.append_assoc,List.cons_append,Vx]
 by_cases ht:d=t
 .rw [if_pos ht,<-ht];exact hv
 .rw [if_neg ht]
  by_cases hm:t∈ds
  .rw [VE (by rw [Wp];exact hm),zbI];exact trivial
  .rw [ZF (by rw [Wp];exact hm)]
   have:=ok.env t;rwa [show get ((cx.under s).full ⟨e,[],s.nx⟩).env t=get (s.env++cx.ce) t from ZF fun h=>hm (jk (List.all_eq_true.1 hk t h))] at this
theorem zcW {e:XEnv} {d:Nat} {p:XV} {nx:Nat} (ok:Ok cx.nt B κ (cx.full ⟨e,[],nx⟩) a) (h:get e d=.one p) (hp:p=.any->False):RepX κ p (a.tmps.getD d undef):=by
 have:=ok.env d
 by_cases hm:d∈JI e
 .rw [show get (cx.full ⟨e,[],nx⟩).env d=get e d from VE hm,h] at this
  exact this
 .have hn:get e d=.one .any:=by
   have:=ZF (a:=e) (b:=[]) hm;rwa [List.append_nil] at this
  rw [h] at hn;cases hn;exact (hp rfl).elim
theorem zio {b:Bool} {v1 v0:XA} {v:XV} (h:zkb b v1 v0=some v):∃p q,v1=.one p/\v0=.one q/\(p=.any->False)/\(q=.any->False)/\∀(κ:Kn) (u:Value),RepX κ (bif b then p else q) u->RepX κ v u:=by
 unfold zkb at h;split at h
 .rename_i p q
  have fin:∀{x y:Bool} {z:XV},Qe p=some x->Qe q=some y->z=.b (bif b then x else y)->∃p' q',XA.one p=.one p'/\XA.one q=.one q'/\(p'=.any->False)/\(q'=.any->False)/\∀(κ:Kn) (u:Value),RepX κ (bif b then p' else q') u->RepX κ z u:=fun {x y z} hx hy hz=>by
   refine ⟨p,q,rfl,rfl,(fun e=>by subst e;cases hx),(fun e=>by subst e;cases hy),fun κ u hr=>?_⟩;subst hz;cases b with
   | true=>exact (vU (x:=.b x) rfl).2 ((vU (Ut hx)).1 hr)
   | false=>exact (vU (x:=.b y) rfl).2 ((vU (Ut hy)).1 hr)
  split at h
  .cases h;exact fin rfl rfl (by cases b<;>rfl)
  .cases h;exact fin rfl rfl (by cases b<;>rfl)
  .cases h;exact fin rfl rfl (by cases b<;>rfl)
  .cases h;exact fin rfl rfl (by cases b<;>rfl)
  .split at h
   .rename_i x y hx hy;cases h;exact fin hx hy rfl
   .cases h
 .cases h
abbrev WL (cx:Cx) (all:List Oper) (Q:Exit->Act->World->Prop):List Oper->Act->World->Prop:=wpList cx.P all.toArray Q
theorem zly {rest:List Oper} {w:World} (hw:Region.wanted o (yielded all.toArray a.tmps)=true) (h:o.wp cx.P a w (WL cx all Q rest) Q):WL cx all Q (o::rest) a w:=by
 show wpList _ _ _ (o::rest) _ _;unfold wpList;rw [if_pos hw];exact .inl h
theorem zos {rest:List Oper} {w:World} (hw:Region.wanted o (yielded all.toArray a.tmps)=false) (h:WL cx all Q rest (a.put o.dst undef) w):WL cx all Q (o::rest) a w:=by
 show wpList _ _ _ (o::rest) _ _;unfold wpList;rw [if_neg (by rw [hw];nofun)];exact h
end
theorem zf7 (cx:Cx) (e:XEnv) (nx:Nat) (d:Option Nat) (v:XA):cx.full ⟨(⟨e,[],nx⟩:St).put d v,[],nx⟩=(cx.full ⟨e,[],nx⟩).upd d v.x:=by cases d<;>rfl
section
variable {all:List Oper} {Ct:Ctab} {Q:Exit->Act->World->Prop}
theorem UJ {nx:Nat}:∀(k:Nat) {cx:Cx} {os:List Oper} {e e':XEnv},zdd all cx nx k os e=some e'->∀{B:Base} {κ:Kn} {a:Act},Ok cx.nt B κ (cx.full ⟨e,[],nx⟩) a ->
  ∀rest:List Oper,(∀κ' a',Ok cx.nt B κ' (cx.full ⟨e',[],nx⟩) a'->WL cx all Q rest a' κ'.w)->WL cx all Q (os++rest) a κ.w
 | 0,cx,os,e,e',h,B,κ,a,ok,rest,hr=>by cases h
 | k+1,cx,os,e,e',h,B,κ,a,ok,rest,hr=>by
  unfold zdd at h;cases os with
  | nil=>cases h;exact hr κ a ok
  | cons o os =>
   simp only at h;cases hd:dOk cx.nt o.dst with
   | false=>rw [hd] at h;cases h
   | true =>
    rw [hd,cond_true] at h;split at h
    .rename_i hg
     obtain ⟨v,hv,h⟩:=Option.bind_eq_some_iff.1 h;refine zly (zbJ ok hg) (((zlq hv).vis rfl).go rfl (zer ok) ok.hp ok.wd nofun _ Q fun u κ' e1=>?_);have h1:=ok.upd e1 hd nofun;have h2:Ok cx.nt B κ' (cx.full ⟨(⟨e,[],nx⟩:St).put o.dst v,[],nx⟩) (a.put o.dst u):=by rw [zf7];exact h1
     exact UJ k h h2 rest hr
    .rename_i hg
     refine zos (zcX ok hg) (UJ (κ:=κ) k h ?_ rest hr);rw [zf7];exact ok.upd (Eff.pure ⟨[],rfl,.nil⟩) hd nofun
    .rename_i t b hg
     have hg:=zdY hg;split at h
     .rename_i n d hn hld
      split at h
      .rename_i e1 e0 h1 h0
       cases hk:((JI e1).all (memB (t::dsts ((o::os).take n)))&&(JI e0).all (memB (t::dsts ((o::os).take n))))
       .rw [hk] at h;cases h
       .rw [hk,cond_true] at h
        rw [Bool.and_eq_true] at hk;obtain ⟨v,hv,h⟩:=Option.bind_eq_some_iff.1 h;obtain ⟨p,q,hp,hq,np,nq,hrep⟩:=zio hv;have hsp:o::os++rest=(o::os).take n++((o::os).drop n++rest):=by rw [<-List.append_assoc,List.take_append_drop]
        rw [hsp];cases hb:b with
        | true =>
         rw [hb] at hrep;refine UJ (cx:=cx.under ⟨e,[],nx⟩) k h1 (zbP (s:=⟨e,[],nx⟩) ok hg hb) _ fun κ' a' ok'=>?_;exact UJ k h (zfQ (s:=⟨e,[],nx⟩) ok' hk.1 (hrep _ _ (zcW ok' hp np))) rest hr
        | false =>
         rw [hb] at hrep;refine UJ (cx:=cx.under ⟨e,[],nx⟩) k h0 (zbP (s:=⟨e,[],nx⟩) ok hg hb) _ fun κ' a' ok'=>?_;exact UJ k h (zfQ (s:=⟨e,[],nx⟩) ok' hk.2 (hrep _ _ (zcW ok' hq nq))) rest hr
      .cases h
     .cases h
    .cases h
theorem zmi (d t:Nat) (os:List Oper) (s:St) (v:Bool) (cx:Cx):(cx.under s).full ((grpK d t os s.nx).st v)=cx.full (s.grp d (.b v) (t::dsts os)):=by
 show (⟨((d,XA.one (.b v))::([]++drops (t::dsts os)))++(s.env++cx.ce),([]++[])++(s.hp++cx.ch),s.nx⟩:St)=⟨((d,XA.one (.b v))::drops (t::dsts os)++s.env)++cx.ce,s.hp++cx.ch,s.nx⟩;simp
theorem QT {fk:Bool}:∀(k:Nat) {cx:Cx} (ht:VI cx.P Ct) {R:Type} {os:List Oper} {s:St} {K:St->Option R} {r:R},rops Ct all fk cx k os s K=some r->∀{B:Base} {κ:Kn} {a:Act},Ok cx.nt B κ (cx.full s) a ->
  ∀rest:List Oper,(∀κ' s' a',K s'=some r->Ok cx.nt B κ' (cx.full s') a'->WL cx all Q rest a' κ'.w)->WL cx all Q (os++rest) a κ.w
 | 0,cx,ht,R,os,s,K,r,h,B,κ,a,ok,rest,hr=>by cases h
 | k+1,cx,ht,R,os,s,K,r,h,B,κ,a,ok,rest,hr=>by
  unfold rops at h;cases os with
  | nil=>exact hr κ s a h ok
  | cons o os =>
   simp only at h;cases hd:dOk cx.nt o.dst with
   | false=>rw [hd] at h;cases h
   | true =>
    rw [hd,cond_true] at h;split at h
    .rename_i hg
     split at h
     .rename_i m hm
      exact zly (zbJ ok hg) (step_ok ht hm h hd ok fun κ' s' a' h1 ok'=>QT k ht h1 ok' rest hr)
     .cases h
    .rename_i hg
     exact zos (zcX ok hg) (QT (κ:=κ) k ht h (zmU hd ok) rest hr)
    .rename_i t b hg
     have hg:=zdY hg;cases hfk:fk
     case true =>
      rw [hfk,cond_true] at h;cases hb:b with
      | true=>rw [hb,cond_true] at h;exact QT (s:=⟨(t,.one (.bl true))::s.env,s.hp,s.nx⟩) k ht h (zbP ok hg hb) rest hr
      | false=>rw [hb,cond_false] at h;exact QT (s:=⟨(t,.one (.bl false))::s.env,s.hp,s.nx⟩) k ht h (zbP ok hg hb) rest hr
     rw [hfk,cond_false] at h;split at h
     .rename_i n d hn hld
      have hsp:o::os++rest=(o::os).take n++((o::os).drop n++rest):=by rw [<-List.append_assoc,List.take_append_drop]
      rw [hsp];split at h
      .rename_i e1 e0 h1 h0
       cases hk:((JI e1).all (memB (t::dsts ((o::os).take n)))&&(JI e0).all (memB (t::dsts ((o::os).take n))))
       .rw [hk] at h;cases h
       .rw [hk,cond_true] at h
        rw [Bool.and_eq_true] at hk;split at h
        .rename_i v hv
         obtain ⟨p,q,hp,hq,np,nq,hrep⟩:=zio hv;cases hb:b with
         | true =>
          rw [hb] at hrep;refine UJ (cx:=cx.under s) k h1 (zbP ok hg hb) _ fun κ' a' ok'=>?_;exact QT k ht h (zfQ ok' hk.1 (hrep _ _ (zcW ok' hp np))) rest hr
         | false =>
          rw [hb] at hrep;refine UJ (cx:=cx.under s) k h0 (zbP ok hg hb) _ fun κ' a' ok'=>?_;exact QT k ht h (zfQ ok' hk.2 (hrep _ _ (zcW ok' hq nq))) rest hr
        .cases h
      .obtain ⟨v,hv,h⟩:=Md.JD h
       have key:∀c:Bool,b=c->rops Ct all false (cx.under s) k ((o::os).take n) ⟨[(t,.one (.bl c))],[],s.nx⟩ (fun s'=>leaf (cx.under s) s.nx (grpK d t ((o::os).take n) s.nx) s')=some v->WL cx all Q ((o::os).take n++((o::os).drop n++rest)) a κ.w:=fun c hb hv=>by
        have ok1:=zbP ok.start hg hb;refine QT (cx:=cx.under s) k ht hv ok1 _ fun κ' s' a' hl ok'=>?_;obtain ⟨κ2,hw,ok2⟩:=ze0 ok' (zdE ok) ok.closed hl;have ok3:Ok cx.nt B κ2 (cx.full (s.grp d (.b v) (t::dsts ((o::os).take n)))) a':=by
         rw [<-zmi d t ((o::os).take n) s v cx];exact ok.base ok2
        rw [<-hw];exact QT k ht h ok3 rest hr
       cases hb:b with
       | true=>rw [hb,cond_true] at hv;exact key true hb hv
       | false=>rw [hb,cond_false] at hv;exact key false hb hv
     .cases h
    .cases h
end
end G
end Go.Proofs.YtbijabmjbgplbaaGreatDoor
namespace Go.Proofs.YtbijabmjbgplbaaGreatDoor
open Go.ChangeShapes Go.WideShapes Go.RowKit
namespace G
def edges (o:Oper):List Nat:=(o.after.toList.filter fun e=>Region.binds .any e).map (·.on)
def backOk (l:List Oper):Bool:=(List.range l.length).all fun i=>match l[i]? with|some o=>(edges o).all fun j=>Nat.blt j i|none=>true
def zcr (l:List Oper) (i:Nat):List Nat->List Nat->Bool
 | _,[]=>true
 | seen,j::r=>(i::seen).any (fun k=>match l[k]? with|some o=>memB (edges o) j|none=>false)&&zcr l i (j::seen) r
def clo (l:List Oper):Nat->List Nat->List Nat->List Nat
 | 0,_,acc=>acc.reverse
 | _+1,[],acc=>acc.reverse
 | n+1,j::todo,acc=>bif memB acc j then clo l n todo acc else clo l n (todo++(match l[j]? with|some o=>edges o|none=>[])) (j::acc)
def closure (l:List Oper) (i:Nat):List Nat:=clo l 10000 (match l[i]? with|some o=>edges o|none=>[]) []
theorem zhS {o:Oper} {e:Edge} (he:e∈o.after) (hb:Region.binds .any e=true):e.on∈edges o :=
 List.mem_map.2 ⟨e,List.mem_filter.2 ⟨Array.mem_toList_iff.2 he,hb⟩,rfl⟩
theorem ziD {o:Oper} {j:Nat} (h:j∈edges o):∃e,e∈o.after/\Region.binds .any e=true/\e.on=j:=by
 obtain ⟨e,h1,h2⟩:=List.mem_map.1 h;obtain ⟨h3,h4⟩:=List.mem_filter.1 h1;exact ⟨e,Array.mem_toList_iff.1 h3,h4,h2⟩
theorem JG {l:List Oper} {i:Nat} {D:Nat->Bool} (hcl:∀k o,l[k]?=some o->(D k=true\/k=i)->∀j,j∈edges o->D j=true):∀(seen deps:List Nat),(∀j,j∈seen->D j=true)->zcr l i seen deps=true->∀j,j∈deps->D j=true
 | seen,[],_,_,j,hj=>by cases hj
 | seen,x::r,hs,h,j,hj=>by
  simp only [zcr,Bool.and_eq_true] at h;have hx:D x=true:=by
   obtain ⟨k,h1,h2⟩:=List.any_eq_true.1 h.1;cases hk:l[k]? with
   | none=>rw [hk] at h2;cases h2
   | some o =>
    rw [hk] at h2;refine hcl k o hk ?_ x (jk h2);rcases List.mem_cons.1 h1 with h3|h3
    .exact .inr h3
    .exact .inl (hs k h3)
  rcases List.mem_cons.1 hj with h3|h3
  .rw [h3];exact hx
  .exact JG hcl (x::seen) r (fun k hk=>by rcases List.mem_cons.1 hk with h4|h4;(rw [h4];exact hx);exact hs k h4) h.2 j h3
structure Ent where
 d:Option Nat
 u:Upd
def St.add (s:St) (e:Ent):St:=⟨s.put e.d e.u.v,e.u.bl++s.hp,s.nx⟩
def SD (D:Nat->Bool):Nat->List Ent->St->St
 | _,[],s=>s
 | k,e::es,s=>SD D (k+1) es (bif D k then s.add e else s)
theorem zai {s:St} {e:Ent} {id:Nat}:look (s.add e).hp id=if id∈keys e.u.bl then look e.u.bl id else look s.hp id:=by
 by_cases h:id∈keys e.u.bl
 .rw [if_pos h];exact jI h
 .rw [if_neg h];exact uJ h
theorem add_get {s:St} {e:Ent} {t:Nat}:get (s.add e).env t=if e.d=some t then e.u.v else get s.env t:=get_put s e.d e.u.v t
theorem zaG (cx:Cx) (D:Nat->Bool):∀(es:List Ent) (k:Nat) (s:St),cx.full (SD D k es s)=SD D k es (cx.full s)
 | [],k,s=>rfl
 | e::es,k,s=>by
  show cx.full (SD D (k+1) es _)=SD D (k+1) es _;rw [zaG cx D es]
  congr 1
  cases D k
  .rfl
  .obtain ⟨d,u⟩:=e
   unfold Cx.full St.add St.put;simp only [cond_true,List.append_assoc];cases d<;>rfl
theorem VD {D D':Nat->Bool} {id:Nat}:∀(es:List Ent) (k:Nat) {s s':St},look s.hp id=look s'.hp id->(∀j e,es[j]?=some e->D (k+j)≠D' (k+j)->id∉keys e.u.bl)->look (SD D k es s).hp id=look (SD D' k es s').hp id
 | [],k,s,s',h,_=>h
 | e::es,k,s,s',h,hn=>by
  refine VD es (k+1) ?_ fun j e' he hd=>hn (j+1) e' (by simpa using he) (by rw [show k+(j+1)=k+1+j by omega];exact hd);have h0:=hn 0 e rfl;simp only [Nat.add_zero] at h0;cases h1:D k<;>cases h2:D' k
  .exact h
  .show _=look (s'.add e).hp id
   rw [zai,if_neg (h0 (by rw [h1,h2];nofun))];exact h
  .show look (s.add e).hp id=_
   rw [zai,if_neg (h0 (by rw [h1,h2];nofun))];exact h
  .show look (s.add e).hp id=look (s'.add e).hp id
   rw [zai,zai];split
   .rfl
   .exact h
theorem VH {D D':Nat->Bool} {t:Nat}:∀(es:List Ent) (k:Nat) {s s':St},get s.env t=get s'.env t->(∀j e,es[j]?=some e->D (k+j)≠D' (k+j)->e.d≠some t)->get (SD D k es s).env t=get (SD D' k es s').env t
 | [],k,s,s',h,_=>h
 | e::es,k,s,s',h,hn=>by
  refine VH es (k+1) ?_ fun j e' he hd=>hn (j+1) e' (by simpa using he) (by rw [show k+(j+1)=k+1+j by omega];exact hd);have h0:=hn 0 e rfl;simp only [Nat.add_zero] at h0;cases h1:D k<;>cases h2:D' k
  .exact h
  .show _=get (s'.add e).env t
   rw [add_get,if_neg (h0 (by rw [h1,h2];nofun))];exact h
  .show get (s.add e).env t=_
   rw [add_get,if_neg (h0 (by rw [h1,h2];nofun))];exact h
  .show get (s.add e).env t=get (s'.add e).env t
   rw [add_get,add_get];split
   .rfl
   .exact h
theorem zcj {D:Nat->Bool} {id:Nat}:∀(es:List Ent) (k:Nat) {s:St} {i:Nat} {e:Ent},es[i]?=some e->D (k+i)=true->id∈keys e.u.bl->(∀j e',i<j->es[j]?=some e'->D (k+j)=true->id∉keys e'.u.bl)->look (SD D k es s).hp id=look e.u.bl id
 | [],k,s,i,e,h,_,_,_=>by simp at h
 | e0::es,k,s,0,e,h,hD,hk,hn=>by
  simp at h;subst h;simp only [Nat.add_zero] at hD;show look (SD D (k+1) es (bif D k then s.add e0 else s)).hp id=_;rw [hD,cond_true];have:look (SD D (k+1) es (s.add e0)).hp id=look (SD (fun _=>false) (k+1) es (s.add e0)).hp id:=VD es (k+1) rfl fun j e' he hd=>hn (j+1) e' (by omega) (by simpa using he) (by
   rw [show k+(j+1)=k+1+j by omega];cases hb:D (k+1+j)
   .exact absurd hb hd
   .rfl)
  rw [this];have h0:∀(es:List Ent) (k:Nat) (s:St),SD (fun _=>false) k es s=s:=by
   intro es
   induction es with
   | nil=>intro k s;rfl
   | cons e es ih=>intro k s;exact ih (k+1) s
  rw [h0,zai,if_pos hk]
 | e0::es,k,s,i+1,e,h,hD,hk,hn =>
  zcj es (k+1) (by simpa using h) (by rw [show k+1+i=k+(i+1) by omega];exact hD) hk fun j e' hj he hd=>hn (j+1) e' (by omega) (by simpa using he) (by rw [show k+(j+1)=k+1+j by omega];exact hd)
theorem Qc {D:Nat->Bool} {t:Nat}:∀(es:List Ent) (k:Nat) {s:St} {i:Nat} {e:Ent},es[i]?=some e->D (k+i)=true->e.d=some t->(∀j e',i<j->es[j]?=some e'->e'.d≠some t)->get (SD D k es s).env t=e.u.v
 | [],k,s,i,e,h,_,_,_=>by simp at h
 | e0::es,k,s,0,e,h,hD,hk,hn=>by
  simp at h;subst h;simp only [Nat.add_zero] at hD;show get (SD D (k+1) es (bif D k then s.add e0 else s)).env t=_;rw [hD,cond_true];have:get (SD D (k+1) es (s.add e0)).env t=get (SD (fun _=>false) (k+1) es (s.add e0)).env t:=VH es (k+1) rfl fun j e' he _=>hn (j+1) e' (by omega) (by simpa using he);rw [this];have h0:∀(es:List Ent) (k:Nat) (s:St),SD (fun _=>false) k es s=s:=by
   intro es
   induction es with
   | nil=>intro k s;rfl
   | cons e es ih=>intro k s;exact ih (k+1) s
  rw [h0,add_get,if_pos hk]
 | e0::es,k,s,i+1,e,h,hD,hk,hn =>
  Qc es (k+1) (by simpa using h) (by rw [show k+1+i=k+(i+1) by omega];exact hD) hk fun j e' hj he=>hn (j+1) e' (by omega) (by simpa using he)
def LeA (x y:XA):Prop:=∀κ v,RepA κ x v->RepA κ y v
theorem LeA.refl (x:XA):LeA x x:=fun _ _ h=>h
theorem zni {D:Nat->Bool}:∀(es fs:List Ent) (k:Nat) {s s':St},(∀t,LeA (get s.env t) (get s'.env t))->All2 (fun e f=>e.d=f.d/\LeA e.u.v f.u.v) es fs->∀t,LeA (get (SD D k es s).env t) (get (SD D k fs s').env t)
 | _,_,k,s,s',h,.nil,t=>h t
 | e::es,f::fs,k,s,s',h,.cons a r,t=>by
  refine zni es fs (k+1) (fun t=>?_) r t;cases D k
  .exact h t
  .show LeA (get (s.add e).env t) (get (s'.add f).env t)
   rw [add_get,add_get,<-a.1];split
   .exact a.2
   .exact h t
structure DU where
 u:Upd
 F:List Nat
 deps:List Nat
def ents:List Oper->List DU->List Ent
 | o::os,d::ds=>⟨o.dst,d.u⟩::ents os ds
 | _,_=>[]
mutual
def idsX:XV->List Nat
 | .own k=>[k]
 | .m k=>[k]
 | .p k _=>[k]
 | .rp k _ _ _=>[k]
 | .vw k _ _=>[k]
 | .fn _ _ caps=>zgJ caps
 | _=>[]
def zgJ:List XV->List Nat
 | []=>[]
 | c::cs=>idsX c++zgJ cs
end
def ids1:X1->List Nat
 | .one x=>idsX x
 | .ag cs=>zgJ cs
def idsA:XA->List Nat
 | .one x=>idsX x
 | .ag cs=>zgJ cs
 | .tu l=>l.flatMap ids1
def idsB:Option XB->List Nat
 | some (.box cs)=>zgJ cs
 | some (.cm l)=>l.flatMap fun p=>ids1 p.2
 | some (.rd (.box cs))=>zgJ cs
 | _=>[]
def reach (H:Nat->Option XB):Nat->List Nat->List Nat->List Nat
 | 0,_,acc=>acc
 | _+1,[],acc=>acc
 | n+1,i::todo,acc=>bif memB acc i then reach H n todo acc else reach H n (idsB (H i)++todo) (i::acc)
def foot (H:Nat->Option XB) (o:Op) (l:List Nat):List Nat :=
 match o with
 | .call { callee:=.value _,args:=_,argTypes:=_ }=>reach H 1000 l []
 | .move _=>[]
 | .nilCheck _=>[]
 | .fieldAddr _ _ _=>[]
 | _=>l
def zgT (F:List Nat) (H:Nat->Option XB) (id:Nat):Option XB:=bif memB F id then H id else none
def late (l:List Oper) (i:Nat):List Nat:=l.filterMap fun o=>bif memB (edges o) i then o.dst else none
def hid (l:List Oper) (i:Nat) (s:St):St:=⟨drops ((dsts l).filter fun t=>!memB (late l i) t)++s.env,s.hp,s.nx⟩
def disj (a b:List Nat):Bool:=a.all fun i=>!memB b i
def apart (al:List DU):Bool :=
 (List.range al.length).all fun j=>match al[j]? with
  | some dj=>bif dj.u.bl.isEmpty then true else (List.range al.length).all fun i=>match al[i]? with
   | some di=>Nat.beq i j||(memB dj.deps i||(memB di.deps j||(disj (keys dj.u.bl) di.F&&disj (keys dj.u.bl) (keys di.u.bl))))
   | none=>true
  | none=>true
section
variable (cx:Cx) (Ct:Ctab) (l:List Oper) (s:St)
def atD (i:Nat) (deps:List Nat) (al:List DU):St:=SD (memB deps) 0 (ents l al) (hid l i s)
def dops {R:Type}:Nat->Nat->Nat->List Oper->List DU->(Nat->List DU->Option R)->Option R
 | 0,_,_,_,_,_=>none
 | k+1,q,i,os,al,K =>
  match os with
  | []=>K q al
  | o::os =>
   let deps:=closure l i
   let s':=cx.full (atD l s i deps al)
   bif zcr l i [] deps&&(deps.all (Nat.blt · i)&&(dOk cx.nt o.dst&&Nat.beq al.length i)) then
    (match guardOf cx.nt l (get s'.env) o with
    | some .yes =>
     let F:=foot (look s'.hp) o.op (o.op.operands.toList.flatMap fun x=>idsA (zh5 s'.env x))
     let H:=zgT F (look s'.hp)
     match aopF cx.P (fun x=>rsA H (zh5 s'.env x)) H Ct q o.op fun u=>bif u.ids.all (Nat.ble q) then dops k (nxA q u.ids) (i+1) os (al++[⟨u,F,deps⟩]) K else none with
     | some m=>m
     | none=>none
    | some .no=>dops k q (i+1) os (al++[⟨(XA.tu []).x,[],deps⟩]) K
    | some (.ask t b) =>
     match o.guard with
     | some (j,_) =>
      match al[j]? with
      | some ⟨⟨.one (.b b'),bl,ids,wr⟩,F,dj⟩=>bif b' then dops k q i (o::os) (al.set j ⟨⟨.one (.bl true),bl,ids,wr⟩,F,dj⟩) K else dops k q i (o::os) (al.set j ⟨⟨.one (.bl false),bl,ids,wr⟩,F,dj⟩) K
      | _=>none
     | none=>none
    | none=>none) else none
def dreg {R:Type} (K:St->Option R):Option R :=
 bif cx.P.follows .mixedOrders&&(backOk l&&nodupB (dsts l)) then
  dops cx Ct l s 4000 s.nx 0 l [] fun q al =>
   bif Nat.beq al.length l.length&&(apart al&&nodupB (al.flatMap (·.u.ids))) then K { SD (fun _=>true) 0 (ents l al) s with nx:=q } else none
 else none
end
end G
end Go.Proofs.YtbijabmjbgplbaaGreatDoor
namespace Go.Proofs.YtbijabmjbgplbaaGreatDoor
open Go.ChangeShapes Go.WideShapes Go.RowKit
namespace G
theorem Ok.ext {nt:Nat} {B:Base} {κ:Kn} {s s':St} {a:Act} (ok:Ok nt B κ s a) (hn:s.nx<=s'.nx) (hl:look s'.hp=look s.hp) (he:∀t,RepA κ (get s'.env t) (a.tmps.getD t undef)):Ok nt B κ s' a :=
 ⟨ok.nt,ok.defers,he,by rw [hl];exact ok.hp,ok.wd,fun id h=>Nat.lt_of_lt_of_le (ok.nx id h) hn,ok.fr,fun {id x b} h=>by rw [hl] at h;exact ok.own h,ok.rb,ok.rr,ok.ids,Nat.le_trans ok.low hn,ok.nw⟩
theorem zfD:∀{l:List Oper} {al:List DU} {j:Nat} {e:Ent},(ents l al)[j]?=some e->∃o du,l[j]?=some o/\al[j]?=some du/\e=⟨o.dst,du.u⟩
 | [],al,j,e,h=>by cases al<;>simp [ents] at h
 | o::os,[],j,e,h=>by simp [ents] at h
 | o::os,d::ds,0,e,h=>by simp [ents] at h;exact ⟨o,d,rfl,rfl,h.symm⟩
 | o::os,d::ds,j+1,e,h=>by
  obtain ⟨o',du,h1,h2,h3⟩:=zfD (l:=os) (al:=ds) (j:=j) (by simpa [ents] using h);exact ⟨o',du,by simpa using h1,by simpa using h2,h3⟩
theorem zcU:∀{l:List Oper} {al:List DU} {j:Nat} {o:Oper} {du:DU},l[j]?=some o->al[j]?=some du->(ents l al)[j]?=some ⟨o.dst,du.u⟩
 | [],al,j,o,du,h,_=>by simp at h
 | o::os,[],j,_,_,_,h=>by simp at h
 | o::os,d::ds,0,_,_,h1,h2=>by simp at h1 h2;subst h1 h2;rfl
 | o::os,d::ds,j+1,_,_,h1,h2=>by
  have:=zcU (l:=os) (al:=ds) (j:=j) (by simpa using h1) (by simpa using h2);simpa [ents] using this
theorem zg4 {D:Nat->Bool} {e:Ent}:∀(es:List Ent) (k:Nat) (s:St),D (k+es.length)=false->SD D k (es++[e]) s=SD D k es s
 | [],k,s,h=>by
  show SD D (k+1) [] (bif D k then s.add e else s)=s;rw [show D k=false from by simpa using h];rfl
 | e0::es,k,s,h=>zg4 es (k+1) _ (by rw [<-h];congr 1;simp;omega)
theorem zdQ:∀(l:List Oper) (al:List DU) (x:DU),(∃e,ents l (al++[x])=ents l al++[e]/\(ents l al).length=al.length)\/ents l (al++[x])=ents l al
 | [],al,x=>.inr (by cases al<;>rfl)
 | o::os,[],x=>.inl ⟨⟨o.dst,x.u⟩,by cases os<;>rfl,rfl⟩
 | o::os,d::ds,x=>by
  rcases zdQ os ds x with ⟨e,h1,h2⟩|h
  .exact .inl ⟨e,by show _::ents os (ds++[x])=_;rw [h1];rfl,by show (ents os ds).length+1=_;rw [h2];rfl⟩
  .exact .inr (by show _::ents os (ds++[x])=_;rw [h];rfl)
theorem znh {D:Nat->Bool}:∀(es fs:List Ent) (k:Nat) {s s':St},s.hp=s'.hp->All2 (fun e f=>e.u.bl=f.u.bl) es fs->(SD D k es s).hp=(SD D k fs s').hp
 | _,_,k,s,s',h,.nil=>h
 | e::es,f::fs,k,s,s',h,.cons a r=>by
  refine znh es fs (k+1) ?_ r;cases D k
  .exact h
  .show e.u.bl++s.hp=f.u.bl++s'.hp
   rw [a,h]
theorem zfE:∀(l:List Oper) (al:List DU) (j:Nat) (new:DU),(∀old,al[j]?=some old->LeA new.u.v old.u.v/\new.u.bl=old.u.bl)->All2 (fun e f=>(e.d=f.d/\LeA e.u.v f.u.v)/\e.u.bl=f.u.bl) (ents l (al.set j new)) (ents l al)
 | [],al,j,new,h=>by cases al<;>cases j<;>exact .nil
 | o::os,[],j,new,h=>.nil
 | o::os,d::ds,0,new,h=>by
  obtain ⟨h1,h2⟩:=h d rfl;refine .cons ⟨⟨rfl,h1⟩,h2⟩ ?_;exact All2.of rfl fun j x y hx hy=>by rw [hx] at hy;cases hy;exact ⟨⟨rfl,LeA.refl _⟩,rfl⟩
 | o::os,d::ds,j+1,new,h=>.cons ⟨⟨rfl,LeA.refl _⟩,rfl⟩ (zfE os ds j new fun old ho=>h old (by simpa using ho))
section
variable {cx:Cx} {Ct:Ctab} {l:List Oper} {s:St}
structure Spec (cx:Cx) (l:List Oper) (s:St) (al:List DU) (i:Nat) (o:Oper) (du:DU):Prop where
 deps:zcr l i [] du.deps=true
 lt:∀j,j∈du.deps->j<i
 d:dOk cx.nt o.dst=true
 go:∃e:XEnv,(∀t,LeA (get (cx.full (atD l s i du.deps al)).env t) (get e t)) /\
  ((guardOf cx.nt l (get e) o=some .yes/\Says cx.P (fun x=>rsA (zgT du.F (look (cx.full (atD l s i du.deps al)).hp)) (zh5 e x)) (zgT du.F (look (cx.full (atD l s i du.deps al)).hp)) o.op du.u)\/(guardOf cx.nt l (get e) o=some .no/\du.u=(XA.tu []).x))
theorem zjB {al:List DU} {x:DU} {i:Nat} {deps:List Nat} (h:∀j,j∈deps->j<al.length):atD l s i deps (al++[x])=atD l s i deps al:=by
 unfold atD;rcases zdQ l al x with ⟨e,h1,h2⟩|h1
 .rw [h1]
  refine zg4 _ _ _ ?_;rw [Nat.zero_add,h2];cases hb:memB deps al.length
  .rfl
  .have:=h _ (jk hb);omega
 .rw [h1]
theorem Spec.snoc {al:List DU} {i:Nat} {o:Oper} {du x:DU} (h:Spec cx l s al i o du) (hi:i<=al.length):Spec cx l s (al++[x]) i o du:=by
 have hs:=zjB (l:=l) (s:=s) (x:=x) (i:=i) fun j hj=>Nat.lt_of_lt_of_le (h.lt j hj) hi;exact ⟨h.deps,h.lt,h.d,by rw [hs];exact h.go⟩
theorem zhr {al:List DU} {i j:Nat} {new:DU} {deps:List Nat} (h:∀old,al[j]?=some old->LeA new.u.v old.u.v/\new.u.bl=old.u.bl) :
  (∀t,LeA (get (cx.full (atD l s i deps (al.set j new))).env t) (get (cx.full (atD l s i deps al)).env t))/\(cx.full (atD l s i deps (al.set j new))).hp=(cx.full (atD l s i deps al)).hp:=by
 have h2:=zfE l al j new h;unfold atD;rw [zaG,zaG];exact ⟨zni _ _ 0 (fun t=>LeA.refl _) (h2.imp fun _ _ k=>k.1),znh _ _ 0 rfl (h2.imp fun _ _ k=>k.2)⟩
abbrev AllSpec (cx:Cx) (l:List Oper) (s:St) (al:List DU):Prop:=∀(j:Nat) (o:Oper) (du:DU),l[j]?=some o->al[j]?=some du->Spec cx l s al j o du
theorem AllSpec.next {al:List DU} {o:Oper} {du:DU} (h:AllSpec cx l s al) (ho:l[al.length]?=some o) (hd:Spec cx l s al al.length o du):AllSpec cx l s (al++[du]):=by
 intro j o' du' h1 h2
 by_cases hj:j<al.length
 .rw [List.getElem?_append_left hj] at h2
  exact (h j o' du' h1 h2).snoc (by omega)
 .have hl:=(List.getElem?_eq_some_iff.1 h2).1
  simp at hl;have hj:j=al.length:=by omega
  subst hj;rw [ho] at h1;cases h1;simp at h2;subst h2;exact hd.snoc (Nat.le_refl _)
theorem AllSpec.set {al:List DU} {j:Nat} {b c:Bool} {bl:Uf} {ids wr F dj:List Nat} (h:AllSpec cx l s al) (hj:al[j]?=some ⟨⟨.one (.b b),bl,ids,wr⟩,F,dj⟩) (hb:b=c):AllSpec cx l s (al.set j ⟨⟨.one (.bl c),bl,ids,wr⟩,F,dj⟩):=by
 subst hb;have hold:∀old,al[j]?=some old->LeA (XA.one (.bl b)) old.u.v/\bl=old.u.bl:=fun old ho=>by
  rw [hj] at ho;cases ho;exact ⟨fun κ v h=>h,rfl⟩
 intro k o du h1 h2;have hlen:j<al.length:=(List.getElem?_eq_some_iff.1 hj).1
 by_cases hk:j=k
 .subst hk
  rw [List.getElem?_set_self hlen] at h2;cases h2;obtain ⟨a1,a2,a3,e,a4,a5⟩:=h j o _ h1 hj;obtain ⟨b1,b2⟩:=zhr (cx:=cx) (l:=l) (s:=s) (i:=j) (deps:=dj) (new:=⟨⟨.one (.bl b),bl,ids,wr⟩,F,dj⟩) hold;refine ⟨a1,a2,a3,e,fun t κ v hr=>a4 t κ v (b1 t κ v hr),?_⟩;rw [b2];rcases a5 with ⟨g1,g2⟩|⟨g1,g2⟩
  .refine .inl ⟨g1,⟨fun {κ a o'} ho hE hH hW hf K Q hK=>g2.go ho hE hH hW hf K Q fun v κ' e=>hK v κ' ⟨e.ext,e.new,e.R,e.Rn,e.fr,e.val,e.hok,e.old,e.wr⟩⟩⟩
  .cases g2
 .rw [List.getElem?_set_ne hk] at h2
  obtain ⟨a1,a2,a3,e,a4,a5⟩:=h k o du h1 h2;obtain ⟨b1,b2⟩:=zhr (cx:=cx) (l:=l) (s:=s) (i:=k) (deps:=du.deps) (new:=⟨⟨.one (.bl b),bl,ids,wr⟩,F,dj⟩) hold;refine ⟨a1,a2,a3,e,fun t κ v hr=>a4 t κ v (b1 t κ v hr),?_⟩;rw [b2];exact a5
def Rng (n q:Nat) (al:List DU):Prop:=∀du,du∈al->∀id,id∈du.u.ids->n<=id/\id<q
theorem zbF (ht:VI cx.P Ct):∀(k:Nat) {R:Type} {q i:Nat} {os:List Oper} {al:List DU} {K:Nat->List DU->Option R} {r:R},dops cx Ct l s k q i os al K=some r->AllSpec cx l s al->l.drop i=os->Rng s.nx q al->s.nx<=q ->
  ∃q' al',K q' al'=some r/\AllSpec cx l s al'/\Rng s.nx q' al'/\s.nx<=q'
 | 0,R,q,i,os,al,K,r,h,hsp,hos,hr,hq=>by cases h
 | k+1,R,q,i,os,al,K,r,h,hsp,hos,hr,hq=>by
  unfold dops at h;cases os with
  | nil=>exact ⟨q,al,h,hsp,hr,hq⟩
  | cons o os =>
   simp only at h;generalize hdeps:closure l i=deps at h;cases hc:(zcr l i [] deps&&(deps.all (Nat.blt · i)&&(dOk cx.nt o.dst&&Nat.beq al.length i)))
   .rw [hc] at h;cases h
   .rw [hc,cond_true] at h
    simp only [Bool.and_eq_true] at hc;obtain ⟨hd1,hd2,hd3,hlen⟩:=hc;have hlen:=Nat.eq_of_beq_eq_true hlen;subst hlen;have hlt:∀j,j∈deps->j<al.length:=fun j hj=>by
     have:=List.all_eq_true.1 hd2 j hj;simpa [Nat.blt_eq] using this
    have ho:l[al.length]?=some o:=by
     have:=congrArg (·[0]?) hos;simpa using this
    have hos':l.drop (al.length+1)=os:=by
     have:=congrArg (List.drop 1) hos;simpa [List.drop_drop] using this
    split at h
    .rename_i hg
     split at h
     .rename_i m hm
      obtain ⟨u,hu,hs⟩:=zhk ht hm h;cases hi:u.ids.all (Nat.ble q)
      .rw [hi] at hu;cases hu
      .rw [hi,cond_true] at hu
       have hiq:∀id,id∈u.ids->q<=id:=fun id hid=>Nat.le_of_ble_eq_true (List.all_eq_true.1 hi id hid);refine zbF ht k hu (hsp.next ho ⟨hd1,hlt,hd3,_,fun t=>LeA.refl _,.inl ⟨hg,hs⟩⟩) hos' (fun du hdu id hid=>?_) (Nat.le_trans hq (zcA _ _));rcases List.mem_append.1 hdu with h1|h1
       .have:=hr du h1 id hid
        exact ⟨this.1,Nat.lt_of_lt_of_le this.2 (zcA _ _)⟩
       .rw [List.mem_singleton.1 h1] at hid
        exact ⟨Nat.le_trans hq (hiq id hid),ziH _ _ _ hid⟩
     .cases h
    .rename_i hg
     refine zbF ht k h (hsp.next ho ⟨hd1,hlt,hd3,_,fun t=>LeA.refl _,.inr ⟨hg,rfl⟩⟩) hos' (fun du hdu id hid=>?_) hq;rcases List.mem_append.1 hdu with h1|h1
     .exact hr du h1 id hid
     .rw [List.mem_singleton.1 h1] at hid
      cases hid
    .split at h
     .rename_i j _ _
      split at h
      .rename_i b' bl ids wr F dj hj
       have hr':∀c:Bool,Rng s.nx q (al.set j ⟨⟨.one (.bl c),bl,ids,wr⟩,F,dj⟩):=fun c du hdu id hid=>by
        rcases List.mem_or_eq_of_mem_set hdu with h1|h1
        .exact hr du h1 id hid
        .rw [h1] at hid
         exact hr _ (List.mem_of_getElem? hj) id hid
       cases hb:b' with
       | true =>
        rw [hb,cond_true] at h;exact zbF ht k h (hsp.set hj hb) hos (hr' true) hq
       | false =>
        rw [hb,cond_false] at h;exact zbF ht k h (hsp.set hj hb) hos (hr' false) hq
      .cases h
     .cases h
    .cases h
end
theorem zcu {listed:Array Bool} {n:Nat} (hs:listed.size=n) {j:Nat}:(listed.getD j true=false)->j<n/\listed.getD j false=false:=fun h=>by
 by_cases hj:j<listed.size
 .exact ⟨by omega,by simpa [hj] using h⟩
 .simp [hj] at h
def unl (n:Nat) (listed:Array Bool):Nat:=((List.range n).filter fun j=>!listed.getD j false).length
theorem zm4 {n i:Nat} {listed:Array Bool} (hs:listed.size=n) (hi:i<n) (hl:listed.getD i false=false):unl n (listed.setIfInBounds i true)<unl n listed:=by
 unfold unl;have hsub:((List.range n).filter fun j=>!(listed.setIfInBounds i true).getD j false)=((List.range n).filter fun j=>!listed.getD j false).filter fun j=>!(Nat.beq i j):=by
  rw [List.filter_filter];apply List.filter_congr;intro j hj;have hjn:=List.mem_range.1 hj
  by_cases hij:i=j
  .subst hij
   simp [Array.getD,hs,hjn,Nat.beq_refl]
  .have:Nat.beq i j=false:=by
    cases h:Nat.beq i j
    .rfl
    .exact absurd (Nat.eq_of_beq_eq_true h) hij
   rw [getD_set_ne false hij,this];simp
 rw [hsub];have hmem:i∈(List.range n).filter fun j=>!listed.getD j false:=List.mem_filter.2 ⟨List.mem_range.2 hi,by rw [hl];rfl⟩;exact List.length_filter_lt_length_iff_exists.2 ⟨i,hmem,by simp [Nat.beq_refl]⟩
theorem Qp:∀{l:List Oper},(dsts l).Nodup->∀{i j:Nat} {o o':Oper} {t:Nat},l[i]?=some o->l[j]?=some o'->o.dst=some t->o'.dst=some t->i=j
 | [],_,i,j,o,o',t,h,_,_,_=>by simp at h
 | o0::l,hn,i,j,o,o',t,h1,h2,d1,d2=>by
  have hmem:∀{k:Nat} {o:Oper},l[k]?=some o->o.dst=some t->t∈dsts l:=fun {k o} h d=>List.mem_filterMap.2 ⟨o,List.mem_of_getElem? h,d⟩;have htail:(dsts l).Nodup:=by
   unfold dsts at hn ⊢;rw [List.filterMap_cons] at hn;split at hn
   .exact hn
   .exact (List.nodup_cons.1 hn).2
  have hnot:o0.dst=some t->t∉dsts l:=fun d=>by
   unfold dsts at hn ⊢;rw [List.filterMap_cons,d] at hn;exact (List.nodup_cons.1 hn).1
  cases i with
  | zero =>
   simp at h1;subst h1;cases j with
   | zero=>rfl
   | succ j=>simp at h2;exact absurd (hmem h2 d2) (hnot d1)
  | succ i =>
   simp at h1;cases j with
   | zero=>simp at h2;subst h2;exact absurd (hmem h1 d1) (hnot d2)
   | succ j=>simp at h2;rw [Qp htail h1 h2 d1 d2]
theorem zd8:∀{al:List DU},(al.flatMap (·.u.ids)).Nodup->∀{i j:Nat} {x y:DU} {id:Nat},al[i]?=some x->al[j]?=some y->id∈x.u.ids->id∈y.u.ids->i=j
 | [],_,i,j,x,y,id,h,_,_,_=>by simp at h
 | z::al,hn,i,j,x,y,id,h1,h2,d1,d2=>by
  rw [List.flatMap_cons,List.nodup_append] at hn;obtain ⟨_,hn2,hn3⟩:=hn;have hmem:∀{k:Nat} {x:DU},al[k]?=some x->id∈x.u.ids->id∈al.flatMap (·.u.ids):=fun {k x} h d=>List.mem_flatMap.2 ⟨x,List.mem_of_getElem? h,d⟩;cases i with
  | zero =>
   simp at h1;subst h1;cases j with
   | zero=>rfl
   | succ j=>simp at h2;exact absurd rfl (hn3 id d1 id (hmem h2 d2))
  | succ i =>
   simp at h1;cases j with
   | zero=>simp at h2;subst h2;exact absurd rfl (hn3 id d2 id (hmem h1 d1))
   | succ j=>simp at h2;rw [zd8 hn2 h1 h2 d1 d2]
theorem zk5 {a b:List Nat} (h:disj a b=true) {i:Nat} (ha:i∈a):i∉b:=fun hb=>by
 have:=List.all_eq_true.1 h i ha;rw [zc5 hb] at this;cases this
theorem zlO {al:List DU} (h:G.apart al=true) {i j:Nat} {di dj:DU} (hi:al[i]?=some di) (hj:al[j]?=some dj) (hij:i≠j) (h1:i∉dj.deps) (h2:j∉di.deps):∀id,id∈keys dj.u.bl->id∉di.F/\id∉keys di.u.bl:=by
 intro id hid;have hil:=(List.getElem?_eq_some_iff.1 hi).1;have hjl:=(List.getElem?_eq_some_iff.1 hj).1;have h3:=List.all_eq_true.1 h j (List.mem_range.2 hjl);rw [hj] at h3;have hne:dj.u.bl.isEmpty=false:=by
  cases hb:dj.u.bl with
  | nil=>rw [hb] at hid;cases hid
  | cons _ _=>rfl
 simp only [hne,cond_false] at h3;have h4:=List.all_eq_true.1 h3 i (List.mem_range.2 hil);rw [hi] at h4;simp only [Bool.or_eq_true,Bool.and_eq_true] at h4;rcases h4 with h4|h4|h4|h4
 .exact absurd (Nat.eq_of_beq_eq_true h4) hij
 .exact absurd (jk h4) h1
 .exact absurd (jk h4) h2
 .exact ⟨zk5 h4.1 hid,zk5 h4.2 hid⟩
end G
end Go.Proofs.YtbijabmjbgplbaaGreatDoor
namespace Go.Proofs.YtbijabmjbgplbaaGreatDoor
open Go.ChangeShapes Go.WideShapes Go.RowKit
namespace G
theorem zf1:∀(l:List Nat) (n:Nat),(∀id,id∈l->id<n)->nxA n l=n
 | [],n,_=>rfl
 | i::r,n,h=>by
  show nxA (bif Nat.blt i n then n else i+1) r=n;rw [show Nat.blt i n=true from Nat.blt_eq▸h i (List.mem_cons_self ..)];exact zf1 r n fun id hid=>h id (List.mem_cons_of_mem _ hid)
section
variable {cx:Cx} {Ct:Ctab} {l:List Oper} {s:St} {al:List DU} {B:Base} {q:Nat} {Q:Exit->Act->World->Prop}
def stD (cx:Cx) (l:List Oper) (s:St) (al:List DU) (q:Nat) (D:Nat->Bool):St:={ SD D 0 (ents l al) (cx.full s) with nx:=q }
theorem zik (cx:Cx) (l:List Oper) (i:Nat) (s:St) (t:Nat):get (cx.full (hid l i s)).env t=if t∈(dsts l).filter (fun t=>!memB (late l i) t) then .one .any else get (cx.full s).env t:=by
 show get ((drops ((dsts l).filter fun t=>!memB (late l i) t)++s.env)++cx.ce) t=_;rw [List.append_assoc]
 by_cases h:t∈(dsts l).filter fun t=>!memB (late l i) t
 .rw [if_pos h,VE (by rw [Wp];exact h),zbI]
 .rw [if_neg h,ZF (by rw [Wp];exact h)];rfl
theorem zjW (hback:backOk l=true) (hnd:nodupB (dsts l)=true) (hlen:al.length=l.length) (hsp:AllSpec cx l s al) (hap:G.apart al=true) (hids:nodupB (al.flatMap (·.u.ids))=true) (hrng:Rng s.nx q al) (hq:s.nx<=q)
  {κ:Kn} {a:Act} (ok:Ok cx.nt B κ (cx.full s) a) (hQ:∀κ' a',Ok cx.nt B κ' (cx.full { SD (fun _=>true) 0 (ents l al) s with nx:=q }) a'->Q .normal a' κ'.w) :
  wpAny cx.P .any l.toArray Q l.toArray.size (Array.replicate l.toArray.size false) a κ.w:=by
 have hnd:=Zx hnd;have hids:=Zx hids;have hbk:∀i o,l[i]?=some o->∀j,j∈edges o->j<i:=fun i o ho j hj=>by
  have h1:=List.all_eq_true.1 hback i (List.mem_range.2 (List.getElem?_eq_some_iff.1 ho).1);rw [ho] at h1;have h2:=List.all_eq_true.1 h1 j hj;simpa [Nat.blt_eq] using h2
 have hdu:∀{j o},l[j]?=some o->∃du,al[j]?=some du:=fun {j o} h=>by
  have hj:j<al.length:=by rw [hlen];exact (List.getElem?_eq_some_iff.1 h).1
  exact ⟨al[j],List.getElem?_eq_getElem hj⟩
 have hlow:B.n<=s.nx:=ok.low;have hent:∀{j e},(ents l al)[j]?=some e->∃(o:Oper) (du:DU),l[j]?=some o/\al[j]?=some du/\e=(⟨o.dst,du.u⟩:Ent):=fun {j e} h=>zfD h
 let Inv:Array Bool->Act->World->Prop:=fun listed a w =>
  (∀k o,l[k]?=some o->listed.getD k false=true->∀j,j∈edges o->listed.getD j false=true) /\
  ∃κ,w=κ.w/\Ok cx.nt B κ (stD cx l s al q fun j=>listed.getD j false) a/\∀id,κ.N id->id<s.nx\/∃j du,listed.getD j false=true/\al[j]?=some du/\id∈du.u.ids
 have key:∀fuel (listed:Array Bool) a w,listed.size=l.length->unl l.length listed<=fuel->Inv listed a w->wpAny cx.P .any l.toArray Q fuel listed a w:=by
  intro fuel;have done:∀(listed:Array Bool) a w,listed.size=l.length->Inv listed a w->Region.ready .any l.toArray listed=[]->Q .normal a w:=by
   intro listed a w hs hinv hr;have hall:∀n,n<=l.length->∀j,j<n->listed.getD j false=true:=by
    intro n
    induction n with
    | zero=>intro _ j hj;omega
    | succ n ih =>
     intro hn j hj
     by_cases hjn:j<n
     .exact ih (by omega) j hjn
     .have hj2:j=n:=by omega
      subst hj2;cases hg:listed.getD j false with
      | true=>rfl
      | false =>
       exfalso;have hjl:j<l.length:=by omega
       have ho:l[j]?=some l[j]:=List.getElem?_eq_getElem hjl;have:j∈Region.ready .any l.toArray listed:=mem_ready.2 ⟨by simpa [Array.getD,hs,hjl] using hg,l[j],by simp [hjl],fun e he hb=>ih (by omega) _ (hbk j _ ho _ (zhS he hb))⟩;rw [hr] at this;cases this
   have hall':=hall l.length (Nat.le_refl _);obtain ⟨_,κ,rfl,ok,_⟩:=hinv;refine hQ κ a (ok.ext (Nat.le_refl _) ?_ fun t=>?_)
   .funext id
    show look (cx.full (SD (fun _=>true) 0 (ents l al) s)).hp id=look (SD (fun j=>listed.getD j false) 0 (ents l al) (cx.full s)).hp id;rw [zaG];refine VD _ 0 rfl fun j e he hd=>?_;obtain ⟨o,du,h1,_,_⟩:=hent he;rw [Nat.zero_add,hall' j (List.getElem?_eq_some_iff.1 h1).1] at hd;exact absurd rfl hd
   .have h1:=ok.env t
    have h2:get (cx.full { SD (fun _=>true) 0 (ents l al) s with nx:=q }).env t=get (cx.full (SD (fun _=>true) 0 (ents l al) s)).env t:=rfl;rw [h2,zaG]
    by_cases ht:t∈dsts l
    .obtain ⟨o,h3,h4⟩:=List.mem_filterMap.1 ht
     obtain ⟨i,h5⟩:=List.mem_iff_getElem?.1 h3;obtain ⟨du,h6⟩:=hdu h5;have h7:=zcU h5 h6;have huniq:∀(j:Nat) (e':Ent),i<j->(ents l al)[j]?=some e'->e'.d≠some t:=fun j e' hj he' hd=>by
      obtain ⟨o',du',g1,g2,rfl⟩:=hent he';have:=Qp hnd h5 g1 h4 hd;omega
     rw [Qc _ 0 h7 rfl h4 huniq];have h8:get (stD cx l s al q fun j=>listed.getD j false).env t=du.u.v:=Qc _ 0 h7 (by rw [Nat.zero_add];exact hall' i (List.getElem?_eq_some_iff.1 h5).1) h4 huniq;rwa [h8] at h1
    .have h3:get (SD (fun _=>true) 0 (ents l al) (cx.full s)).env t=get (stD cx l s al q fun j=>listed.getD j false).env t:=by
      refine VH _ 0 rfl fun j e he _ hd=>?_;obtain ⟨o,du,g1,_,rfl⟩:=hent he;exact ht (List.mem_filterMap.2 ⟨o,List.mem_of_getElem? g1,hd⟩)
     rw [h3];exact h1
  induction fuel with
  | zero =>
   intro listed a w hs hu hinv;have hr:Region.ready .any l.toArray listed=[]:=by
    cases hr:Region.ready .any l.toArray listed with
    | nil=>rfl
    | cons i r =>
     exfalso;have hi:i∈Region.ready .any l.toArray listed:=by rw [hr];simp
     obtain ⟨h1,o,h2,h3⟩:=mem_ready.1 hi;obtain ⟨h4,h5⟩:=zcu hs h1;have hmem:i∈(List.range l.length).filter fun j=>!listed.getD j false:=List.mem_filter.2 ⟨List.mem_range.2 h4,by rw [h5];rfl⟩;have hpos:=List.length_pos_of_mem hmem;unfold unl at hu;omega
   exact ⟨hr,done listed a w hs hinv hr⟩
  | succ fuel ih =>
   intro listed a w hs hu hinv;refine ⟨done listed a w hs hinv,fun i hi=>?_⟩;obtain ⟨h1,o,h2,h3⟩:=mem_ready.1 hi;obtain ⟨hil,hi0⟩:=zcu hs h1;have ho:l[i]?=some o:=by simpa using h2
   have hs':(listed.setIfInBounds i true).size=l.length:=by simpa using hs
   have hu':unl l.length (listed.setIfInBounds i true)<=fuel:=by have:=zm4 hs hil hi0;omega
   have hseti:(listed.setIfInBounds i true).getD i false=true:=by simp [Array.getD,hs,hil]
   have hset:∀j,j≠i->(listed.setIfInBounds i true).getD j false=listed.getD j false:=fun j hj=>getD_set_ne false (Ne.symm hj);obtain ⟨hcl,κ,rfl,ok,hN⟩:=hinv;have hedge:∀j,j∈edges o->listed.getD j false=true:=fun j hj=>by
    obtain ⟨e,he,hb,hon⟩:=ziD hj;rw [<-hon];exact h3 e he hb
   have hcl':∀k o',l[k]?=some o'->(listed.setIfInBounds i true).getD k false=true->∀j,j∈edges o'->(listed.setIfInBounds i true).getD j false=true:=fun k o' hk hl j hj=>by
    by_cases hji:j=i
    .rw [hji];exact hseti
    .rw [hset j hji]
     by_cases hki:k=i
     .subst hki;rw [ho] at hk;cases hk;exact hedge j hj
     .rw [hset k hki] at hl;exact hcl k o' hk hl j hj
   obtain ⟨du,hal⟩:=hdu ho;obtain ⟨s1,s2,s3,e,s4,s5⟩:=hsp i o du ho hal;have hdl:∀j,j∈du.deps->listed.getD j false=true:=JG (D:=fun j=>listed.getD j false) (fun k o' hk hor j hj=>by
    rcases hor with hl|rfl
    .exact hcl k o' hk hl j hj
    .rw [ho] at hk;cases hk;exact hedge j hj) [] du.deps (fun j hj=>by cases hj) s1
   have hfar:∀j dj,al[j]?=some dj->listed.getD j false=true->j∉du.deps->(∀id,id∈keys dj.u.bl->id∉du.F/\id∉keys du.u.bl):=fun j dj hj hjl hjd=>by
    have hij:i≠j:=fun e=>by subst e;rw [hi0] at hjl;cases hjl
    refine zlO hap hal hj hij (fun hidj=>?_) hjd;obtain ⟨oj,hoj⟩:∃oj,l[j]?=some oj:=by
     have hj':j<l.length:=by rw [<-hlen];exact (List.getElem?_eq_some_iff.1 hj).1
     exact ⟨l[j],List.getElem?_eq_getElem hj'⟩
    obtain ⟨t1,_,_,_⟩:=hsp j oj dj hoj hj;have:=JG (D:=fun j=>listed.getD j false) (fun k o' hk hor j' hj'=>by
     rcases hor with hl|rfl
     .exact hcl k o' hk hl j' hj'
     .exact hcl k o' hk hjl j' hj') [] dj.deps (fun j hj=>by cases hj) t1 i hidj
    rw [hi0] at this;cases this
   let D:Nat->Bool:=fun j=>listed.getD j false
   let S:=stD cx l s al q D
   have hS:cx.full (atD l s i du.deps al)=SD (memB du.deps) 0 (ents l al) (cx.full (hid l i s)):=zaG cx _ _ 0 _;have henv:∀t,RepA κ (get e t) (a.tmps.getD t undef):=fun t=>by
    refine s4 t κ _ ?_;rw [hS];have h0:∀(es:List Ent) (k:Nat) (s:St),SD (fun _=>false) k es s=s:=by
     intro es
     induction es with
     | nil=>intro k s;rfl
     | cons e es ih=>intro k s;exact ih (k+1) s
    by_cases ht:t∈dsts l
    .obtain ⟨oj,g3,g2⟩:=List.mem_filterMap.1 ht
     obtain ⟨j,g4⟩:=List.mem_iff_getElem?.1 g3;obtain ⟨dj,g5⟩:=hdu g4;have huniq:∀(j':Nat) (e':Ent),j<j'->(ents l al)[j']?=some e'->e'.d≠some t:=fun j' e' hj he' hd=>by
      obtain ⟨o',du',k1,k2,rfl⟩:=hent he';have:=Qp hnd g4 k1 g2 hd;omega
     have hno:∀(D':Nat->Bool) (s':St),D' j=false->get (SD D' 0 (ents l al) s').env t=get s'.env t:=fun D' s' hD'=>by
      have:get (SD D' 0 (ents l al) s').env t=get (SD (fun _=>false) 0 (ents l al) s').env t:=by
       refine VH _ 0 rfl fun j' e'' he'' hd' hd''=>hd' ?_;obtain ⟨oj',dj',k1,k2,rfl⟩:=hent he'';have:j'=j:=Qp hnd k1 g4 hd'' g2;rw [this,Nat.zero_add];exact hD'
      rw [this,h0]
     cases hb:memB du.deps j
     .rw [hno _ _ hb,zik]
      split
      .exact trivial
      .rename_i hnf
       have hlate:t∈late l i:=by
        cases hm:memB (late l i) t
        .exact absurd (List.mem_filter.2 ⟨ht,by rw [hm];rfl⟩) hnf
        .exact jk hm
       obtain ⟨o2,k1,k2⟩:=List.mem_filterMap.1 hlate;cases hm:memB (edges o2) i
       .rw [hm] at k2;cases k2
       .rw [hm,cond_true] at k2
        obtain ⟨j2,k3⟩:=List.mem_iff_getElem?.1 k1;have:j2=j:=Qp hnd k3 g4 k2 g2;subst this;have hDj:D j2=false:=by
         cases hD:D j2
         .rfl
         .have:=hcl j2 o2 k3 hD i (jk hm)
          rw [hi0] at this;cases this
        have h1:=ok.env t;have h2:get (stD cx l s al q D).env t=get (cx.full s).env t:=hno D _ hDj;rw [h2] at h1;exact h1
     .have h7:=zcU g4 g5
      rw [Qc _ 0 h7 (by rw [Nat.zero_add];exact hb) g2 huniq];have h1:=ok.env t;have h2:get (stD cx l s al q D).env t=dj.u.v:=Qc _ 0 h7 (by rw [Nat.zero_add];exact hdl j (jk hb)) g2 huniq;rw [h2] at h1;exact h1
    .have h3:get (SD (memB du.deps) 0 (ents l al) (cx.full (hid l i s))).env t=get S.env t:=by
      refine VH _ 0 (by rw [zik,if_neg fun h=>ht (List.mem_filter.1 h).1]) fun j e' he' _ hd=>?_;obtain ⟨o',du',g1,_,rfl⟩:=hent he';exact ht (List.mem_filterMap.2 ⟨o',List.mem_of_getElem? g1,hd⟩)
     rw [h3];exact ok.env t
   have hHsub:∀id x,zgT du.F (look (cx.full (atD l s i du.deps al)).hp) id=some x->look S.hp id=some x:=fun id x hx=>by
    unfold zgT at hx;cases hF:memB du.F id
    .rw [hF] at hx;cases hx
    .rw [hF,cond_true,hS] at hx
     rw [<-hx];refine VD _ 0 rfl fun j e' he' hd' hk=>?_;obtain ⟨oj,dj,g1,g2,rfl⟩:=hent he';rw [Nat.zero_add] at hd';cases hb:memB du.deps j
     .have hDj:D j=true:=by cases hD:D j;(rw [hb,hD] at hd';exact absurd rfl hd');rfl
      exact (hfar j dj g2 hDj (fun h=>by rw [zc5 h] at hb;cases hb) id hk).1 (jk hF)
     .exact hd' ((hdl j (jk hb)).trans hb.symm)
   have hHi:HOk κ (zgT du.F (look (cx.full (atD l s i du.deps al)).hp)):=⟨fun h=>ok.hp.blk (hHsub _ _ h),fun h1 h2=>ok.hp.inj (hHsub _ _ h1) (hHsub _ _ h2),fun h=>ok.hp.notR (hHsub _ _ h)⟩;have oke:Ok cx.nt B κ ⟨e,S.hp,S.nx⟩ a:=ok.zfF rfl rfl henv;have hdi:=zcU ho hal;have hget:∀t,get (stD cx l s al q fun j=>(listed.setIfInBounds i true).getD j false).env t=if o.dst=some t then du.u.v else get S.env t:=fun t=>by
    by_cases hd:o.dst=some t
    .rw [if_pos hd]
     exact Qc _ 0 hdi (by rw [Nat.zero_add];exact hseti) hd fun j e' hj he' hd'=>by
      obtain ⟨oj,dj,g1,_,rfl⟩:=hent he';have:=Qp hnd ho g1 hd hd';omega
    .rw [if_neg hd]
     refine VH _ 0 rfl fun j e' he' hd' hd''=>?_;rw [Nat.zero_add] at hd'
     by_cases hji:j=i
     .subst hji;rw [hdi] at he';cases he';exact hd hd''
     .exact hd' (hset j hji)
   have hlook:look (stD cx l s al q fun j=>(listed.setIfInBounds i true).getD j false).hp=look (du.u.bl++S.hp):=by
    funext id
    by_cases hk:id∈keys du.u.bl
    .rw [jI hk]
     refine zcj _ 0 hdi (by rw [Nat.zero_add];exact hseti) hk fun j e' hj he' hd' hk'=>?_;obtain ⟨oj,dj,g1,g2,rfl⟩:=hent he';rw [Nat.zero_add,hset j (by omega)] at hd';exact (hfar j dj g2 hd' (fun h=>by have:=s2 j h;omega) id hk').2 hk
    .rw [uJ hk]
     refine VD _ 0 rfl fun j e' he' hd' hk'=>?_;rw [Nat.zero_add] at hd'
     by_cases hji:j=i
     .subst hji;rw [hdi] at he';cases he';exact hk hk'
     .exact hd' (hset j hji)
   have hidq:∀id,id∈du.u.ids->s.nx<=id/\id<q:=hrng du (List.mem_of_getElem? hal);have next:∀κ' v,Eff κ κ' (look S.hp) du.u v->wpAny cx.P .any l.toArray Q fuel (listed.setIfInBounds i true) (a.put o.dst v) κ'.w:=fun κ' v ef=>by
    have h1:=ok.upd ef s3 fun id hid=>Nat.le_trans hlow (hidq id hid).1;refine ih _ _ _ hs' hu' ⟨hcl',κ',rfl,h1.ext ?_ hlook fun t=>?_,fun id hid=>?_⟩
    .show nxA q du.u.ids<=q
     rw [zf1 _ _ fun id hid=>(hidq id hid).2];exact Nat.le_refl _
    .rw [hget t]
     have:=h1.env t;rw [show (S.upd o.dst du.u).env=S.put o.dst du.u.v from rfl,get_put] at this;exact this
    .rcases ef.new id hid with h|h
     .rcases hN id h with h|⟨j,dj,g1,g2,g3⟩
      .exact .inl h
      .refine .inr ⟨j,dj,?_,g2,g3⟩
       rw [hset j (fun e=>by subst e;rw [hi0] at g1;cases g1)];exact g1
     .exact .inr ⟨i,du,hseti,hal,h⟩
   unfold wpOp;rw [h2];simp only;rcases s5 with ⟨hg,hsay⟩|⟨hg,hu0⟩
   .rw [if_pos (zbJ (s:=⟨e,S.hp,S.nx⟩) oke hg)]
    refine .inl (hsay.go rfl (fun x=>zde hHi (zdR (s:=⟨e,S.hp,S.nx⟩) oke x)) hHi ok.wd (fun id hid hNid=>?_) _ Q fun v κ' ef=>next κ' v (ef.sub hHsub));rcases hN id hNid with h|⟨j,dj,g1,g2,g3⟩
    .have:=(hidq id hid).1;omega
    .have:=zd8 hids g2 hal g3 hid
     subst this;rw [hi0] at g1;cases g1
   .rw [if_neg (by rw [zcX (s:=⟨e,S.hp,S.nx⟩) oke hg];nofun)]
    refine next κ undef ?_;rw [hu0];exact Eff.pure ⟨[],rfl,.nil⟩
 refine key _ _ a κ.w (by simp) ?_ ⟨fun k o _ h=>?_,κ,rfl,ok.ext hq ?_ fun t=>?_,fun id hid=>.inl (ok.nx id hid)⟩
 .unfold unl
  have:=List.length_filter_le (fun j=>!(Array.replicate l.toArray.size false).getD j false) (List.range l.length);simpa using this
 .exfalso;simp [Array.getD] at h
 .funext id
  have h0:∀(es:List Ent) (k:Nat) (s:St),SD (fun _=>false) k es s=s:=by
   intro es
   induction es with
   | nil=>intro k s;rfl
   | cons e es ih=>intro k s;exact ih (k+1) s
  have:look (stD cx l s al q fun j=>(Array.replicate l.toArray.size false).getD j false).hp id=look (SD (fun _=>false) 0 (ents l al) (cx.full s)).hp id:=VD _ 0 rfl fun j e he hd=>absurd (by simp [Array.getD]) hd;rw [this,h0]
 .have h0:∀(es:List Ent) (k:Nat) (s:St),SD (fun _=>false) k es s=s:=by
   intro es
   induction es with
   | nil=>intro k s;rfl
   | cons e es ih=>intro k s;exact ih (k+1) s
  have:get (stD cx l s al q fun j=>(Array.replicate l.toArray.size false).getD j false).env t=get (SD (fun _=>false) 0 (ents l al) (cx.full s)).env t:=VH _ 0 rfl fun j e he hd=>absurd (by simp [Array.getD]) hd;rw [this,h0];exact ok.env t
theorem zjX (κ:Kn) (H:Nat->Option XB):Eff κ ⟨κ.ρ,κ.N,κ.R,κ.w.drew⟩ H ⟨.one .any,[],[],[]⟩ undef :=
 ⟨fun _ h=>⟨h,rfl⟩,fun _ h=>.inl h,fun _ h=>h,fun _ h=>.inl h,Fr.drew _ _,trivial,⟨fun h=>(by cases h),fun h _ _ _ _ _=>(by cases h),fun h _ _=>(by cases h)⟩,fun _ _ _ h=>(by cases h),fun _ h=>(by cases h)⟩
theorem zl3 (ht:VI cx.P Ct) {R:Type} {K:St->Option R} {r:R} (h:dreg cx Ct l s K=some r) {κ:Kn} {a:Act} (ok:Ok cx.nt B κ (cx.full s) a) {id:Nat} (hQ:∀κ' s' a',K s'=some r->Ok cx.nt B κ' (cx.full s') a'->Q .normal a' κ'.w):(Code.region id l.toArray true).wp cx.P Q a κ.w:=by
 unfold dreg at h;cases hc:(cx.P.follows .mixedOrders&&(backOk l&&nodupB (dsts l)))
 .rw [hc] at h;cases h
 .rw [hc,cond_true] at h
  simp only [Bool.and_eq_true] at hc;obtain ⟨q,al,h1,h2,h3,h4⟩:=zbF ht 4000 h (fun j o du _ hj=>by simp at hj) rfl (fun du hdu=>by cases hdu) (Nat.le_refl _);cases hl:(Nat.beq al.length l.length&&(G.apart al&&nodupB (al.flatMap (·.u.ids))))
  .rw [hl] at h1;cases h1
  .rw [hl,cond_true] at h1
   simp only [Bool.and_eq_true] at hl;refine wp_region_any hc.1 ?_;have ok1:=ok.upd (d:=none) (zjX κ (look (cx.full s).hp)) rfl nofun;have ok2:Ok cx.nt B ⟨κ.ρ,κ.N,κ.R,κ.w.drew⟩ (cx.full s) a:=ok1;exact zjW hc.2.1 hc.2.2 (Nat.eq_of_beq_eq_true hl.1) h2 hl.2.1 hl.2.2 h3 h4 ok2 fun κ' a' ok'=>hQ κ' _ a' h1 ok'
end
end G
end Go.Proofs.YtbijabmjbgplbaaGreatDoor
namespace Go.Proofs.YtbijabmjbgplbaaGreatDoor
open Go.ChangeShapes Go.WideShapes Go.RowKit
namespace G
@[reducible] def KS:List Kp->Type
 | []=>Empty
 | [k]=>TT k.cs
 | k::k2::r=>TT k.cs ⊕ KS (k2::r)
def leafs (cx:Cx) (n0:Nat):(ks:List Kp)->St->Option (KS ks)
 | [],_=>none
 | [k],s=>leaf cx n0 k s
 | k::k2::r,s=>match leaf cx n0 k s with
  | some x=>some (.inl x)
  | none=>(leafs cx n0 (k2::r) s).map .inr
def zaP {R:Type}:(ks:List Kp)->KS ks->(St->Option R)->Option R
 | [],_,_=>none
 | [k],x,f=>f (k.st x)
 | k::k2::r,s,f=>Md.onS s (fun x=>f (k.st x)) fun y=>zaP (k2::r) y f
def demK (n0:Nat) (H:Nat->Option XB) (ss:List SH) (xs:List XA) (hs:List (Nat×BS)):List Nat :=
 let b:=hbnd n0 H hs (SHs.bnd n0 ss xs [])
 zl2 H (SHs.dem ss xs++hdem n0 H b hs)
def frzS (cx:Cx):List Nat->St->Option St
 | [],s=>some s
 | i::r,s=>match cx.H s i with
  | some x=>bif x.own then
    (match frzB (rsB (cx.H s) x) with
    | some y=>frzS cx r ⟨s.env,(i,some (.fz y))::s.hp,s.nx⟩
    | none=>none) else none
  | none=>none
def demN (cx:Cx) (n0:Nat) (k:Kp) (s:St):List NP :=
 nilE k.h (get (cx.full s).env) k.e++nilH n0 (cx.H s) (hbnd n0 (cx.H s) k.h (SHs.bnd n0 (k.e.map (·.2)) (k.e.map fun p=>get (cx.full s).env p.1) [])) k.h k.h
def anyO {α β:Type} (f:α->Option β):List α->Option β
 | []=>none
 | a::l=>match f a with
  | some b=>some b
  | none=>anyO f l
theorem zhj {α β:Type} {f:α->Option β} {b:β}:∀{l:List α},anyO f l=some b->∃a,f a=some b
 | [],h=>by cases h
 | a::l,h=>by
  unfold anyO at h;split at h
  .rename_i c hc;cases h;exact ⟨a,hc⟩
  .exact zhj h
def zbM (cx:Cx) (n0:Nat) (ks:List Kp) (s:St):Option (KS ks) :=
 match leafs cx n0 ks s with
 | some x=>some x
 | none=>anyO (fun k=>(frzS cx (demK n0 (cx.H s) (k.e.map (·.2)) (k.e.map fun p=>get (cx.full s).env p.1) k.h) s).bind fun s'=>(nilS cx (demN cx n0 k s') s').bind fun s''=>leafs cx n0 ks s'') ks
structure JH where
 ks:List Kp
 early:Bool
structure LH where
 ks:List Kp
 id:Nat
 ys:List Kp
 early:Bool
structure Hints where
 j:Nat->Option JH
 l:Nat->Option LH
 x:Nat->Option Nat:=fun _=>none
 f:Nat->Bool:=fun _=>false
def cutH (Hs:Hints) (cx:Cx) (s:St) (id:Nat):Bool:=match Hs.x id with
 | some t=>(match cx.E s (.tmp t) with
  | .one (.v (.pointer none))=>true
  | _=>false)
 | none=>false
def QO:Code->Option Nat
 | .region id _ _=>some id
 | .seq a b=>match QO a with
  | some i=>some i
  | none=>QO b
 | .block _ b=>QO b
 | .loop b=>QO b
 | .scope b=>QO b
 | .cond _ a b=>match QO a with
  | some i=>some i
  | none=>QO b
 | _=>none
def zdL:Code->List Nat
 | .region _ os _=>dsts os.toList
 | .seq a b=>zdL a++zdL b
 | .cond _ a b=>zdL a++zdL b
 | .block _ b=>zdL b
 | .loop b=>zdL b
 | .scope b=>zdL b
 | _=>[]
def Kp.of (k:Kp) (a:Code):Kp:={ k with ds:=zdL a }
section
variable (Ct:Ctab) (Hs:Hints) (fuel:Nat)
def exec:Nat->(R:Type)->(cx:Cx)->Code->St->(St->Option R)->(Nat->St->Option R)->(St->Option R)->Option R
 | 0,_,_,_,_,_,_,_=>none
 | n+1,R,cx,c,s,Kk,Kx,Kr =>
  match c with
  | .skip=>Kk s
  | .ret=>Kr s
  | .exit id=>Kx id s
  | .region id os false=>bif cutH Hs cx s id then none else rops Ct os.toList (Hs.f id) cx 1000 os.toList s Kk
  | .region id os true=>bif cutH Hs cx s id then none else dreg cx Ct os.toList s Kk
  | .block id b=>exec n R cx b s Kk (fun i s'=>bif Nat.beq i id then Kk s' else Kx i s') Kr
  | .cond q a b =>
   match cx.E s q with
   | .one (.b t)=>bif t then exec n R cx a s Kk Kx Kr else exec n R cx b s Kk Kx Kr
   | .one (.bl true)=>exec n R cx a s Kk Kx Kr
   | .one (.bl false)=>exec n R cx b s Kk Kx Kr
   | _=>none
  | .seq a b =>
   match (QO b).bind Hs.j with
   | none=>exec n R cx a s (fun s'=>exec n R cx b s' Kk Kx Kr) Kx Kr
   | some j =>
    let ks:=j.ks.map (·.of a)
    bif j.early then
     (exec n (KS ks ⊕ R) (cx.under s) a ⟨[],[],s.nx⟩ (fun s'=>(zbM (cx.under s) s.nx ks s').map .inl) (fun i s'=>(Kx i (s'.on s)).map .inr) (fun s'=>(Kr (s'.on s)).map .inr)).bind fun o =>
      Md.onS o (fun x=>zaP ks x fun st=>exec n R cx b (st.on s) Kk Kx Kr) (fun r=>some r)
    else
     (exec n (KS ks) (cx.under s) a ⟨[],[],s.nx⟩ (fun s'=>zbM (cx.under s) s.nx ks s') (fun _ _=>none) (fun _=>none)).bind fun x=>zaP ks x fun st=>exec n R cx b (st.on s) Kk Kx Kr
  | .loop b =>
   match (QO b).bind Hs.l with
   | none=>none
   | some j =>
    let ks:=j.ks.map (·.of b)
    let ys:=j.ys.map (·.of b)
    match zbM (cx.under s) s.nx ks ⟨[],[],s.nx⟩ with
    | none=>none
    | some x0 =>
     bif j.early then
      let X:Nat->St->Option (KS ys ⊕ R):=fun i s'=>bif Nat.beq i j.id then (zbM (cx.under s) s.nx ys s').map .inl else (Kx i (s'.on s)).map .inr
      (Md.rounds (fun F x=>zaP ks x fun st=>exec n (KS ys ⊕ R) (cx.under s) b st (fun s'=>(zbM (cx.under s) s.nx ks s').bind F) X fun s'=>(Kr (s'.on s)).map .inr) fuel x0).bind fun o =>
       Md.onS o (fun v=>zaP ys v fun st=>Kx j.id (st.on s)) (fun r=>some r)
     else
      let X:Nat->St->Option (KS ys):=fun i s'=>bif Nat.beq i j.id then zbM (cx.under s) s.nx ys s' else none
      (Md.rounds (fun F x=>zaP ks x fun st=>exec n (KS ys) (cx.under s) b st (fun s'=>(zbM (cx.under s) s.nx ks s').bind F) X fun _=>none) fuel x0).bind fun v=>zaP ys v fun st=>Kx j.id (st.on s)
  | _=>none
end
section
variable {cx:Cx} {B:Base} {κ:Kn} {s:St} {a:Act}
theorem zeV:∀{ids:List Nat} {s s':St} {κ:Kn},frzS cx ids s=some s'->Ok cx.nt B κ (cx.full s) a->∃κ',κ'.w=κ.w/\Ok cx.nt B κ' (cx.full s') a
 | [],s,s',κ,h,ok=>by cases h;exact ⟨κ,rfl,ok⟩
 | i::ids,s,s',κ,h,ok=>by
  unfold frzS at h;split at h
  .rename_i x hx
   cases ho:x.own
   .rw [ho] at h;cases h
   .rw [ho,cond_true] at h
    split at h
    .rename_i y hy
     have h1:=ok.upd (d:=none) (zl4 (v:=undef) ok.hp hx ho hy) rfl nofun;obtain ⟨κ',h2,h3⟩:=zeV (κ:=κ.frz i) h h1;exact ⟨κ',h2,h3⟩
    .cases h
  .cases h
theorem zc1 {n0:Nat} (hn:B.n=n0) (hB:∀id,B.N id->id<B.n) (hc:Closed B.N cx.ce cx.ch) (ok:Ok cx.nt B κ (cx.full s) a):∀{ks:List Kp} {x:KS ks},leafs cx n0 ks s=some x ->
  ∃κ',κ'.w=κ.w/\∃st:St,Ok cx.nt B κ' (cx.full st) a/\∀{R:Type} {f:St->Option R} {r:R},zaP ks x f=some r->f st=some r
 | [],x,h=>by cases h
 | [k],x,h=>by
  have h:leaf cx n0 k s=some x:=h;rw [<-hn] at h;obtain ⟨κ',h1,h2⟩:=ze0 ok hB hc h;exact ⟨κ',h1,k.st x,h2,fun hf=>hf⟩
 | k::k2::ks,x,h=>by
  unfold leafs at h;split at h
  .rename_i y hy
   cases h;rw [<-hn] at hy;obtain ⟨κ',h1,h2⟩:=ze0 ok hB hc hy;exact ⟨κ',h1,k.st y,h2,fun hf=>hf⟩
  .obtain ⟨z,hz,rfl⟩:=Option.map_eq_some_iff.1 h
   obtain ⟨κ',h1,st,h2,h3⟩:=zc1 hn hB hc ok hz;exact ⟨κ',h1,st,h2,fun hf=>h3 hf⟩
theorem J4 {n0:Nat} (hn:B.n=n0) (hB:∀id,B.N id->id<B.n) (hc:Closed B.N cx.ce cx.ch) (ok:Ok cx.nt B κ (cx.full s) a) {ks:List Kp} {x:KS ks} (h:zbM cx n0 ks s=some x) :
  ∃κ',κ'.w=κ.w/\∃st:St,Ok cx.nt B κ' (cx.full st) a/\∀{R:Type} {f:St->Option R} {r:R},zaP ks x f=some r->f st=some r:=by
 unfold zbM at h;split at h
 .rename_i y hy;cases h;exact zc1 hn hB hc ok hy
 .obtain ⟨k,h⟩:=zhj h
  obtain ⟨s',h1,h2⟩:=Option.bind_eq_some_iff.1 h;obtain ⟨s2,h7,h2⟩:=Option.bind_eq_some_iff.1 h2;obtain ⟨κ1,h3,h4⟩:=zeV h1 ok;obtain ⟨κ2,h8,h9⟩:=zbT h7 h4;obtain ⟨κ',h5,h6⟩:=zc1 hn hB hc h9 h2;exact ⟨κ',h5.trans (h8.trans h3),h6⟩
end
theorem zjj {P:Program} {Q:Exit->Act->World->Prop} {c:Code} (I:Nat->Act->World->Prop) (round:∀n a w,I n a w->c.wp P (Exit.then (fun a' w'=>∃m,m<n/\I m a' w') Q) a w) {n:Nat} {a:Act} {w:World} (h:I n a w):(Code.loop c).wp P Q a w:=by
 intro b k cs;have key:∀n a w,I n a w->∃e a' w',Q e a' w'/\Arrives P (lone (b.at a (.code c::.inLoop c::k)) cs w) b k cs e a' w':=by
  intro n
  induction n using Nat.strongRecOn with
  | _ n ih =>
   intro a w hI;obtain ⟨e,a₁,w₁,hq,harr⟩:=round n a w hI b (.inLoop c::k) cs;cases e with
   | normal =>
    obtain ⟨m,hlt,hI₁⟩:=hq;obtain ⟨e₂,a₂,w₂,hq₂,harr₂⟩:=ih m hlt a₁ w₁ hI₁;exact ⟨e₂,a₂,w₂,hq₂,.of_steps (Steps.trans harr (.one step_inLoop)) harr₂⟩
   | exit id=>exact ⟨_,a₁,w₁,hq,.pass (x:=.inLoop c) rfl (fun _ _=>.inl (by simp)) harr⟩
   | goto l=>exact ⟨_,a₁,w₁,hq,.pass (x:=.inLoop c) rfl (fun _ _=>.inl (by simp)) harr⟩
   | ret=>exact ⟨_,a₁,w₁,hq,.pass (x:=.inLoop c) rfl (fun _ _=>.inl (by simp)) harr⟩
   | panic ch=>exact ⟨_,a₁,w₁,hq,.pass (x:=.inLoop c) rfl (fun _ _=>.inl (by simp)) harr⟩
   | outgrown=>exact ⟨_,a₁,w₁,hq,.pass (x:=.inLoop c) rfl (fun _ _=>.inl (by simp)) harr⟩
 obtain ⟨e,a',w',hq,harr⟩:=key n a w h;exact ⟨e,a',w',hq,.of_steps (.one step_loop) harr⟩
def EQ {R:Type} (cx:Cx) (B:Base) (Kk:St->Option R) (Kx:Nat->St->Option R) (Kr:St->Option R) (r:R):Exit->Act->World->Prop:=fun e a w=>match e with
 | .normal=>∃κ s,Kk s=some r/\w=κ.w/\Ok cx.nt B κ (cx.full s) a
 | .exit i=>∃κ s,Kx i s=some r/\w=κ.w/\Ok cx.nt B κ (cx.full s) a
 | .ret=>∃κ s,Kr s=some r/\w=κ.w/\Ok cx.nt B κ (cx.full s) a
 | _=>False
theorem map_inl {α β:Type} {o:Option α} {r:α ⊕ β} (h:o.map Sum.inl=some r):∃x,o=some x/\r=.inl x:=by
 cases o with
 | none=>cases h
 | some x=>cases h;exact ⟨x,rfl,rfl⟩
theorem map_inr {α β:Type} {o:Option β} {r:α ⊕ β} (h:o.map Sum.inr=some r):∃x,o=some x/\r=.inr x:=by
 cases o with
 | none=>cases h
 | some x=>cases h;exact ⟨x,rfl,rfl⟩
theorem zbR {T R:Type} {cx0 cx:Cx} {B0 B:Base} {κ0:Kn} {a:Act} {b:Code} {ks:List Kp} {n0 fuel:Nat} {E:St->(St->Option T)->(Nat->St->Option T)->(St->Option T)->Option T} {X:Nat->St->Option T} {Z:St->Option T} {v:T} {Kk:St->Option R} {Kx:Nat->St->Option R} {Kr:St->Option R} {r:R} {x0:KS ks} {st0:St}
  (hn:B.n=n0) (hB:∀id,B.N id->id<B.n) (hc:Closed B.N cx.ce cx.ch)
  (hE:∀{s:St} {K:St->Option T} {κ:Kn} {a:Act},E s K X Z=some v->Ok cx.nt B κ (cx.full s) a->b.wp cx.P (EQ cx B K X Z v) a κ.w)
  (hX:∀{κ:Kn} {s:St} {a:Act} (i:Nat),X i s=some v->Ok cx.nt B κ (cx.full s) a->EQ cx0 B0 Kk Kx Kr r (.exit i) a κ.w)
  (hZ:∀{κ:Kn} {s:St} {a:Act},Z s=some v->Ok cx.nt B κ (cx.full s) a->EQ cx0 B0 Kk Kx Kr r .ret a κ.w)
  (h:Md.rounds (fun F x=>zaP ks x fun st=>E st (fun s'=>(zbM cx n0 ks s').bind F) X Z) fuel x0=some v) (h0:∀{f:St->Option T} {r:T},zaP ks x0 f=some r->f st0=some r) (ok:Ok cx.nt B κ0 (cx.full st0) a):(Code.loop b).wp cx.P (EQ cx0 B0 Kk Kx Kr r) a κ0.w:=by
 generalize hbody:(fun F x=>zaP ks x fun st=>E st (fun s'=>(zbM cx n0 ks s').bind F) X Z)=body at h;refine zjj (fun m a w=>∃(κ':Kn) (st:St) (x:KS ks),w=κ'.w/\Md.rounds body m x=some v/\(∀{f:St->Option T} {r:T},zaP ks x f=some r->f st=some r)/\Ok cx.nt B κ' (cx.full st) a) (fun m a w hI=>?_) (n:=fuel) ⟨κ0,st0,x0,rfl,h,h0,ok⟩;obtain ⟨κ',st,x,rfl,hr,hs,okx⟩:=hI;cases m with
 | zero=>cases hr
 | succ m =>
  rw [Md.rounds_succ,<-hbody] at hr;refine wp_mono (hE (hs hr) okx) fun e a' w' hq=>?_;cases e with
  | normal =>
   obtain ⟨κ1,s1,g1,rfl,g3⟩:=hq;obtain ⟨x',g4,g5⟩:=Option.bind_eq_some_iff.1 g1;obtain ⟨κ2,g6,st',g7,g8⟩:=J4 hn hB hc g3 g4;exact ⟨m,Nat.lt_succ_self m,κ2,st',x',g6.symm,by rw [<-hbody];exact g5,g8,g7⟩
  | ret=>obtain ⟨κ1,s1,g1,rfl,g3⟩:=hq;exact hZ g1 g3
  | exit i=>obtain ⟨κ1,s1,g1,rfl,g3⟩:=hq;exact hX i g1 g3
  | _=>exact hq.elim
theorem XL {Ct:Ctab} {Hs:Hints} {fuel:Nat}:∀(n:Nat) {R:Type} {cx:Cx} {c:Code} {s:St} {Kk:St->Option R} {Kx:Nat->St->Option R} {Kr:St->Option R} {r:R},VI cx.P Ct ->
  exec Ct Hs fuel n R cx c s Kk Kx Kr=some r->∀{B:Base} {κ:Kn} {a:Act},Ok cx.nt B κ (cx.full s) a->c.wp cx.P (EQ cx B Kk Kx Kr r) a κ.w
 | 0,R,cx,c,s,Kk,Kx,Kr,r,ht,h,B,κ,a,ok=>by cases h
 | n+1,R,cx,c,s,Kk,Kx,Kr,r,ht,h,B,κ,a,ok=>by
  unfold exec at h;split at h
  .exact wp_skip ⟨κ,s,h,rfl,ok⟩
  .exact wp_ret ⟨κ,s,h,rfl,ok⟩
  .exact wp_exit ⟨κ,s,h,rfl,ok⟩
  .rename_i id os
   cases hcut:cutH Hs cx s id<;>rw [hcut] at h
   case true=>cases h
   refine wp_region_list ?_;have:=QT (Q:=EQ cx B Kk Kx Kr r) 1000 ht h ok [] fun κ' s' a' h1 ok'=>⟨κ',s',h1,rfl,ok'⟩;simpa using this
  .rename_i id os
   cases hcut:cutH Hs cx s id<;>rw [hcut] at h
   case true=>cases h
   have:=zl3 (Q:=EQ cx B Kk Kx Kr r) ht h ok (id:=id) fun κ' s' a' h1 ok'=>⟨κ',s',h1,rfl,ok'⟩;simpa using this
  .rename_i id b
   refine wp_block (wp_mono (XL n ht h ok) fun e a' w' hq=>?_);cases e with
   | exit i =>
    obtain ⟨κ',s',h1,h2,h3⟩:=hq;simp only at h1;show (if i=id then _ else _);cases hb:Nat.beq i id
    .rw [hb] at h1;rw [if_neg (Nat.ne_of_beq_eq_false hb)];exact ⟨κ',s',h1,h2,h3⟩
    .rw [hb] at h1;rw [if_pos (Nat.eq_of_beq_eq_true hb)];exact ⟨κ',s',h1,h2,h3⟩
   | _=>exact hq
  .rename_i q c1 c2
   split at h
   .rename_i t hq
    have hv:a.eval q=.bool t:=uh (zer ok) hq rfl;cases ht':t with
    | true=>rw [ht',cond_true] at h;rw [ht'] at hv;exact wp_cond_true hv (XL n ht h ok)
    | false=>rw [ht',cond_false] at h;rw [ht'] at hv;exact wp_cond_false hv (XL n ht h ok)
   .rename_i hq
    exact wp_cond_true (uh (zer ok) hq rfl) (XL n ht h ok)
   .rename_i hq
    exact wp_cond_false (uh (zer ok) hq rfl) (XL n ht h ok)
   .cases h
  .rename_i c1 c2
   split at h
   .refine wp_seq (wp_mono (XL n ht h ok) fun e a' w' hq=>?_)
    cases e with
    | normal =>
     obtain ⟨κ',s',h1,rfl,h3⟩:=hq;exact XL n ht h1 h3
    | _=>exact hq
   .rename_i j hj
    simp only at h;generalize j.ks.map (·.of c1)=ks at h;have ok0:Ok cx.nt (Base.at κ (cx.full s)) κ ((cx.under s).full ⟨[],[],s.nx⟩) a:=ok.start;have hcl:Closed (Base.at κ (cx.full s)).N (cx.under s).ce (cx.under s).ch:=ok.closed;have back:∀{κ':Kn} {s':St} {a':Act},Ok cx.nt (Base.at κ (cx.full s)) κ' ((cx.under s).full s') a'->Ok cx.nt B κ' (cx.full (s'.on s)) a':=fun {κ' s' a'} h=>by rw [<-zcF];exact ok.base h
    cases he:j.early
    .rw [he,cond_false] at h
     obtain ⟨x,h1,h2⟩:=Md.JD h;refine wp_seq (wp_mono (XL (cx:=cx.under s) n ht h1 ok0) fun e a' w' hq=>?_);cases e with
     | normal =>
      obtain ⟨κ',s',g1,rfl,g3⟩:=hq;obtain ⟨κ2,g4,st,g5,g6⟩:=J4 (cx:=cx.under s) rfl (zdE ok) hcl g3 g1;show c2.wp cx.P _ a' κ'.w;rw [<-g4];exact XL n ht (g6 h2) (back g5)
     | ret=>obtain ⟨κ',s',g1,_⟩:=hq;cases g1
     | exit i=>obtain ⟨κ',s',g1,_⟩:=hq;cases g1
     | _=>exact hq.elim
    .rw [he,cond_true] at h
     obtain ⟨o,h1,h2⟩:=Md.JD h;refine wp_seq (wp_mono (XL (cx:=cx.under s) n ht h1 ok0) fun e a' w' hq=>?_);cases e with
     | normal =>
      obtain ⟨κ',s',g1,rfl,g3⟩:=hq;obtain ⟨x,g0,rfl⟩:=map_inl g1;obtain ⟨κ2,g4,st,g5,g6⟩:=J4 (cx:=cx.under s) rfl (zdE ok) hcl g3 g0;show c2.wp cx.P _ a' κ'.w;rw [<-g4];exact XL n ht (g6 h2) (back g5)
     | ret =>
      obtain ⟨κ',s',g1,rfl,g3⟩:=hq;obtain ⟨x,g0,rfl⟩:=map_inr g1;cases h2;exact ⟨κ',_,g0,rfl,back g3⟩
     | exit i =>
      obtain ⟨κ',s',g1,rfl,g3⟩:=hq;obtain ⟨x,g0,rfl⟩:=map_inr g1;cases h2;exact ⟨κ',_,g0,rfl,back g3⟩
     | _=>exact hq.elim
  .rename_i b
   split at h
   .cases h
   .rename_i j hj
    simp only at h;generalize j.ys.map (·.of b)=ys at h;have ok0:Ok cx.nt (Base.at κ (cx.full s)) κ ((cx.under s).full ⟨[],[],s.nx⟩) a:=ok.start;have hcl:Closed (Base.at κ (cx.full s)).N (cx.under s).ce (cx.under s).ch:=ok.closed;have back:∀{κ':Kn} {s':St} {a':Act},Ok cx.nt (Base.at κ (cx.full s)) κ' ((cx.under s).full s') a'->Ok cx.nt B κ' (cx.full (s'.on s)) a':=fun {κ' s' a'} h=>by rw [<-zcF];exact ok.base h
    split at h
    .cases h
    .rename_i x0 hx0
     obtain ⟨κ0,hw0,st0,okk,hsel⟩:=J4 (cx:=cx.under s) rfl (zdE ok) hcl ok0 hx0;rw [<-hw0];cases he:j.early
     .rw [he,cond_false] at h
      obtain ⟨v,h1,h2⟩:=Md.JD h;refine zbR (cx0:=cx) (cx:=cx.under s) (B0:=B) (ks:=j.ks.map (·.of b)) (n0:=s.nx) (Z:=fun _=>none) (E:=fun st K X Z=>exec Ct Hs fuel n _ (cx.under s) b st K X Z) rfl (zdE ok) hcl (fun h ok=>XL (cx:=cx.under s) n ht h ok) (fun {κ1 s1 a1} i g1 g3=>?_) (fun {κ1 s1 a1} g1 g3=>nomatch (show (none:Option (KS ys))=some v from g1)) h1 hsel okk;cases hb:Nat.beq i j.id
      .rw [hb] at g1;cases g1
      .rw [hb,cond_true] at g1
       have:=Nat.eq_of_beq_eq_true hb;subst this;obtain ⟨κ2,g4,st,g5,g6⟩:=J4 (cx:=cx.under s) rfl (zdE ok) hcl g3 g1;exact ⟨κ2,st.on s,g6 (f:=fun st=>Kx j.id (st.on s)) h2,g4.symm,back g5⟩
     .rw [he,cond_true] at h
      obtain ⟨o,h1,h2⟩:=Md.JD h;refine zbR (cx0:=cx) (cx:=cx.under s) (B0:=B) (ks:=j.ks.map (·.of b)) (n0:=s.nx) (E:=fun st K X Z=>exec Ct Hs fuel n _ (cx.under s) b st K X Z) rfl (zdE ok) hcl (fun h ok=>XL (cx:=cx.under s) n ht h ok) (fun {κ1 s1 a1} i g1 g3=>?_) (fun {κ1 s1 a1} g1 g3=>?_) h1 hsel okk
      .cases hb:Nat.beq i j.id
       .rw [hb] at g1
        obtain ⟨x',g4,rfl⟩:=map_inr g1;cases h2;exact ⟨κ1,_,g4,rfl,back g3⟩
       .rw [hb,cond_true] at g1
        obtain ⟨v,g0,rfl⟩:=map_inl g1;have:=Nat.eq_of_beq_eq_true hb;subst this;obtain ⟨κ2,g4,st,g5,g6⟩:=J4 (cx:=cx.under s) rfl (zdE ok) hcl g3 g0;exact ⟨κ2,st.on s,g6 (f:=fun st=>Kx j.id (st.on s)) h2,g4.symm,back g5⟩
      .obtain ⟨x',g4,rfl⟩:=map_inr g1
       cases h2;exact ⟨κ1,_,g4,rfl,back g3⟩
  .cases h
end G
end Go.Proofs.YtbijabmjbgplbaaGreatDoor
namespace Go.Proofs.YtbijabmjbgplbaaGreatDoor
open Go.ChangeShapes Go.WideShapes Go.RowKit
namespace G
def ziP (H:Nat->Option XB) (x:XA):Option (List XV) :=
 match x with
 | .one (.p id off)=>match H id with
  | some (.box cs)=>some (cs.drop off)
  | _=>none
 | .one p=>asCp p
 | _=>none
theorem zgS {κ:Kn} {H:Nat->Option XB} (hH:HOk κ H) {x:XA} {v:Value} {cs:List XV} (hr:RepA κ x v) (h:ziP H x=some cs):∃us,Qz κ.w v us/\All2 (RepX κ) cs us:=by
 unfold ziP at h;split at h
 .split at h
  .rename_i cs hb
   cases h;obtain ⟨vs,h1,h2⟩:=zdG hH hr hb;exact ⟨_,h1,h2.drop _⟩
  .cases h
 .exact zfz (zcN h hr)
 .cases h
def zmH (cx:Cx) (s:St):ResultVar->Option XA
 | .tmp t=>kn (cx.E s (.tmp t))
 | .cell a t =>
  match ziP (vis (cx.H s)) (cx.E s (.tmp a)),varOf cx.P t with
  | some cs,some (agg,n)=>ze8 agg n cs
  | _,_=>none
def zbZ (cx:Cx) (s:St):List ResultVar->Option (List XA)
 | []=>some []
 | v::vs=>match zmH cx s v with
  | some a=>match zbZ cx s vs with
   | some xs_=>some (a::xs_)
   | none=>none
  | none=>none
def x1s:List XA->Option (List X1)
 | []=>some []
 | .one x::r=>(x1s r).map (.one x::·)
 | .ag cs::r=>(x1s r).map (.ag cs::·)
 | .tu _::_=>none
def resX (l:List XA):Option XA :=
 match l with
 | [x]=>some x
 | l=>(x1s l).map .tu
def BS.noRd:BS->Bool
 | .rd _=>false
 | _=>true
def zfV (np:Nat) (H:Nat->Option XB) (a:Alt) (xa:XA) (nx:Nat):Option (TT a.cs) :=
 match RS.get np H a.r xa [] with
 | some (ds,b)=>match Hs.get np H a.h b with
  | some (es,b')=>match tup a.cs (ds++es) with
   | some x=>bif b'.all (fun p=>Nat.blt p.1 a.nx)&&(nodupB (a.h.map fun p=>act np nx b' p.1)&&(nodupB (a.h.map (·.1))&&(a.h.all fun p=>p.2.noRd))) then some x else none
   | none=>none
  | none=>none
 | none=>none
def zkf (np:Nat) (H:Nat->Option XB):(l:List Alt)->XA->Nat->Option (Alts l)
 | [],_,_=>none
 | [a],xa,nx=>zfV np H a xa nx
 | a::b::r,xa,nx=>match zfV np H a xa nx with
  | some x=>some (.inl x)
  | none=>(zkf np H (b::r) xa nx).map .inr
theorem ziu {np nx:Nat} {H:Nat->Option XB} {xa:XA}:∀{l:List Alt} {y:Alts l},zkf np H l xa nx=some y->zfV np H (sel l y).a xa nx=some (sel l y).x
 | [],y,h=>by cases h
 | [a],y,h=>h
 | a::b::l,y,h=>by
  unfold zkf at h;split at h
  .rename_i x hx;cases h;exact hx
  .obtain ⟨z,hz,rfl⟩:=Option.map_eq_some_iff.1 h
   exact ziu (l:=b::l) hz
def RS.dem:RS->XA->List Nat
 | .one s,x=>s.dem x
 | .tu ss,.tu l=>SHs.dem ss (l.map X1.xa)
 | _,_=>[]
def RS.bnd (n0:Nat):RS->XA->Bi
 | .one s,x=>s.bnd n0 x []
 | .tu ss,.tu l=>SHs.bnd n0 ss (l.map X1.xa) []
 | _,_=>[]
def demF (np:Nat) (H:Nat->Option XB) (a:Alt) (xa:XA):List Nat :=
 zl2 H (a.r.dem xa++hdem np H (hbnd np H a.h (a.r.bnd np xa)) a.h)
def fin1 (cx:Cx) (np:Nat) (rs:List ResultVar) (l:List Alt) (s:St):Option (Alts l) :=
 match zbZ cx s rs with
 | some xs_=>(resX xs_).bind fun xa=>zkf np (cx.H s) l xa s.nx
 | none=>none
def RS.list:RS->List SH
 | .one s=>[s]
 | .tu l=>l
def nilR (hs:List (Nat×BS)) (G:Nat->XA):List ResultVar->List SH->List NP
 | .tmp t::rs,.one s::ss=>(match G t with
  | .one x=>zkq hs s x (.slot t)
  | _=>[])++nilR hs G rs ss
 | _::rs,_::ss=>nilR hs G rs ss
 | _,_=>[]
def zoE (cx:Cx) (np:Nat) (rs:List ResultVar) (a:Alt) (s:St):List NP :=
 nilR a.h (get (cx.full s).env) rs a.r.list++nilH np (cx.H s) (hbnd np (cx.H s) a.h (a.r.bnd np (((zbZ cx s rs).bind resX).getD (.one .any)))) a.h a.h
def finF (cx:Cx) (np:Nat) (rs:List ResultVar) (l:List Alt) (s:St):Option (Alts l) :=
 match fin1 cx np rs l s with
 | some y=>some y
 | none=>anyO (fun a=>(frzS cx (demF np (cx.H s) a (((zbZ cx s rs).bind resX).getD (.one .any))) s).bind fun s'=>(nilS cx (zoE cx np rs a s') s').bind fun s''=>fin1 cx np rs l s'') l
def zlp (wr:List Nat) (h:Uf):Bool:=h.all fun p=>match p.2 with
 | some b=>!b.own||memB wr p.1
 | none=>true
def zdU (Ct:Ctab) (Hs:Hints) (fuel:Nat) (P:Program) (fn:Func) (ct:Ctr) (x:TT ct.k.cs):Option (Alts ct.alts) :=
 match fn.body with
 | some c =>
  let cx:Cx:=⟨P,fn.ntmps,[],[]⟩
  bif Nat.ble ct.k.e.length fn.ntmps&&(decide (ct.k.e.map (·.1)=List.range ct.k.e.length)&&(zlp ct.wr (ct.blocks x)&&(ct.alts.all fun a=>Nat.ble ct.k.nx a.nx&&ct.wr.all fun c=>memB (a.h.map (·.1)) c||memB a.gone c))) then
   exec Ct Hs fuel 1000 (Alts ct.alts) cx c ⟨zipE ct.k.e (ct.args x),ct.blocks x,ct.k.nx⟩ (finF cx ct.k.nx fn.results.toList ct.alts) (fun _ _=>none) (finF cx ct.k.nx fn.results.toList ct.alts)
  else none
 | none=>none
def zcC (tmps:Array Value):ResultVar->Sem Value
 | .tmp t=>pure (tmps.getD t undef)
 | .cell a t=>do loadVar t (<-asAddr (tmps.getD a undef))
section
variable {cx:Cx} {B:Base} {κ:Kn} {s:St} {a:Act} {P:Program}
theorem zkD {rv:ResultVar} {x:XA} (ok:Ok cx.nt B κ (cx.full s) a) (h:zmH cx s rv=some x):∃v,(zcC a.tmps rv).run cx.P κ.w=.ok v κ.w/\RepA κ x v:=by
 cases rv with
 | tmp t =>
  have:=kn_s h;subst this;exact ⟨_,rfl,zer ok (.tmp t)⟩
 | cell ad t =>
  unfold zmH at h;simp only at h;split at h
  .rename_i cs agg n hcs hT
   have hE:=zer ok (.tmp ad);obtain ⟨us,h1,h2⟩:=zgS ok.hp.vis hE hcs;have hl:=h2.length;have hV:TVar cx.P t agg n:=⟨hT⟩;have he:a.eval (.tmp ad)=a.tmps.getD ad undef:=rfl;rcases zbY h with ⟨rfl,hn,rfl⟩|⟨rfl,c,hc0,rfl⟩
   .obtain ⟨u,h8,h9,_⟩:=KF (P:=cx.P) (t:=t) (agg:=true) (n:=n) (h1.take n) (by simp;omega) nofun
    obtain ⟨b,o,e,hc⟩:=h1;refine ⟨u,?_,us.take n,h9 rfl,h2.take n⟩;rw [he] at e;simp only [zcC,e,asAddr,Sem.run_bind,Sem.run_pure,Result.andThen_ok];rw [he,e] at h8;simpa [Instr.loadAt,Instr.sureAddr] using h8
   .obtain ⟨u,h9,h10⟩:=h2.get hc0
    obtain ⟨b,o,e,hc⟩:=h1;rw [he] at e;have h0:=hc 0 u h9;simp only [Nat.add_zero] at h0;refine ⟨u,?_,h10⟩;simp [zcC,e,asAddr,loadVar,XP (P:=cx.P) (t:=t) (agg:=false) (n:=n),h0]
  .cases h
theorem zeb (ok:Ok cx.nt B κ (cx.full s) a):∀{rvs:List ResultVar} {xs:List XA},zbZ cx s rvs=some xs->rvs.length=xs.length/\∃vs:List Value,(rvs.mapM (zcC a.tmps)).run cx.P κ.w=.ok vs κ.w/\All2 (RepA κ) xs vs
 | [],xs,h=>by cases h;exact ⟨rfl,[],rfl,.nil⟩
 | v::rvs,xs,h=>by
  unfold zbZ at h;split at h
  .rename_i x hx
   split at h
   .rename_i l hl
    cases h;obtain ⟨u,h1,h2⟩:=zkD ok hx;obtain ⟨h3,vs,h4,h5⟩:=zeb ok hl;exact ⟨by simp [h3],u::vs,by simp [List.mapM_cons,h1,h4],.cons h2 h5⟩
   .cases h
  .cases h
theorem zfr:∀{l:List XA} {k:List X1} {vs:List Value},x1s l=some k->All2 (RepA κ) l vs->All2 (Rep1 κ) k vs
 | [],k,vs,h,hr=>by cases h;cases hr;exact .nil
 | .one x::l,k,vs,h,hr=>by
  obtain ⟨k',h1,rfl⟩:=Option.map_eq_some_iff.1 (show (x1s l).map _=some k from h);cases hr with|cons a t=>exact .cons a (zfr h1 t)
 | .ag cs::l,k,vs,h,hr=>by
  obtain ⟨k',h1,rfl⟩:=Option.map_eq_some_iff.1 (show (x1s l).map _=some k from h);cases hr with|cons a t=>exact .cons a (zfr h1 t)
 | .tu _::l,k,vs,h,hr=>by cases h
theorem zmI {fn:Func} {xs:List XA} {xa:XA} (ok:Ok cx.nt B κ (cx.full s) a) (h1:zbZ cx s fn.results.toList=some xs) (h2:resX xs=some xa):∃v,(results fn a.tmps).run cx.P κ.w=.ok v κ.w/\RepA κ xa v:=by
 have hres:(results fn a.tmps)=(do let vs <-fn.results.mapM (zcC a.tmps);pure (if h:vs.size=1 then vs[0] else .tuple vs)):=by
  unfold results
  congr 1
 rw [hres];obtain ⟨hl,vs,h3,h4⟩:=zeb ok h1;have hl2:=h4.length;have hrun:(fn.results.mapM (zcC a.tmps)).run cx.P κ.w=.ok vs.toArray κ.w:=by
  rw [Array.mapM_eq_mapM_toList];simp [h3]
 unfold resX at h2;split at h2
 .rename_i x
  cases h2;cases h4 with
  | @cons _ v _ vs' a t =>
   cases t;refine ⟨v,?_,a⟩;simp [hrun]
 .rename_i hne
  obtain ⟨k,hk,rfl⟩:=Option.map_eq_some_iff.1 h2;refine ⟨.tuple vs.toArray,?_,vs,rfl,zfr hk h4⟩;have hn1:¬vs.length=1:=fun e=>by
   have e2:xs.length=1:=by omega
   match xs,e2 with
   | [x],_=>exact hne x rfl
  simp [hrun];exact fun h=>absurd h hn1
theorem zkr {s:BS} {g:Nat->Nat} {ds:List Dy} {y:XB} (h:s.noRd=true) (hy:(s.fill g ds).1=some y) (hl:y.live=true):y.own=true:=by
 cases s with
 | rd s=>cases h
 | box l=>cases hy;rfl
 | cm l=>cases hy;rfl
 | fz s=>cases hy;cases hl
 | row e c =>
  unfold BS.fill at hy;split at hy<;>first|(cases hy;rfl)|(cases hy;done)|(cases hy;cases hl)|(rename_i he;cases he)|(rename_i he _;cases he)
 | mp k v =>
  unfold BS.fill at hy;split at hy<;>first|(cases hy;rfl)|(cases hy;done)|(cases hy;cases hl)|(rename_i he;cases he)|(rename_i he _;cases he)
theorem Hs.zfK {g:Nat->Nat}:∀{hs:List (Nat×BS)} {ds:List Dy},(hs.all fun p=>p.2.noRd)=true->∀i y,(i,some y)∈(Hs.fill g hs ds).1->y.live=true->y.own=true
 | [],ds,h,i,y,hi,hl=>by cases hi
 | p::hs,ds,h,i,y,hi,hl=>by
  rw [List.all_cons,Bool.and_eq_true] at h;unfold Hs.fill at hi;simp only at hi;rcases List.mem_cons.1 hi with hi|hi
  .injection hi with h1 h2
   exact zkr h.1 h2.symm hl
  .exact Hs.zfK h.2 i y hi hl
theorem zie {fn:Func} {ct:Ctr} {x:TT ct.k.cs} {y:Alts ct.alts} {κ0:Kn} (hN:∀id,κ0.N id->id<ct.k.nx) (hwr:ct.alts.all (fun a=>Nat.ble ct.k.nx a.nx&&ct.wr.all fun c=>memB (a.h.map (·.1)) c||memB a.gone c)=true)
  (ok:Ok cx.nt ⟨κ0.w,Touch κ0 (look (ct.blocks x)) ct.wr,κ0.R,κ0.N,κ0.ρ,ct.k.nx⟩ κ (cx.full s) a) (h:fin1 cx ct.k.nx fn.results.toList ct.alts s=some y) :
  ∃v,(results fn a.tmps).run cx.P κ.w=.ok v κ.w/\∃κ',κ'.w=κ.w/\Eff κ0 κ' (look (ct.blocks x)) ((sel ct.alts y).upd id (news ct.k.nx (sel ct.alts y).a.nx) ct.wr) v:=by
 unfold fin1 at h;split at h
 .rename_i xs hxs
  obtain ⟨xa,hxa,h⟩:=Option.bind_eq_some_iff.1 h;obtain ⟨v,hrun,hrep⟩:=zmI ok hxs hxa;refine ⟨v,hrun,?_⟩;have h:=ziu h;have hsm:=zfd ct.alts y;generalize sel ct.alts y=se at h hsm;have hwr:=List.all_eq_true.1 hwr se.a hsm;rw [Bool.and_eq_true] at hwr;have hnp:=Nat.le_of_ble_eq_true hwr.1;have hwr:=hwr.2
  let np:=ct.k.nx
  unfold zfV at h;have hH:HOk κ (cx.H s):=ok.hp;generalize hH0:cx.H s=H at h hH;have hbad:¬κ.N s.nx:=fun e=>Nat.lt_irrefl _ (ok.nx _ e);split at h
  .rename_i ds b1 h1
   split at h
   .rename_i es b h2
    split at h
    .rename_i x' h3
     cases hc:(b.all (fun p=>Nat.blt p.1 se.a.nx)&&(nodupB (se.a.h.map fun p=>act ct.k.nx s.nx b p.1)&&(nodupB (se.a.h.map (·.1))&&(se.a.h.all fun p=>p.2.noRd))))
     .rw [hc] at h;cases h
     .rw [hc,cond_true] at h
      cases h;simp only [Bool.and_eq_true] at hc;obtain ⟨f1,f2,f3,f4⟩:=hc;have f2:=Zx f2;have f3:=Zx f3;have h3:=zkK _ h3
      let g:=act np s.nx b
      have glt:∀{c},c<np->g c=c:=fun {c} hc=>by
       show (bif Nat.blt c np then c else _)=c;rw [show Nat.blt c np=true from Nat.blt_eq▸hc];rfl
      have gge:∀{c},¬c<np->κ.N (g c)->∃a',lk b c=some a'/\g c=a':=fun {c} hc hN=>by
       have hb:Nat.blt c np=false:=by cases hb:Nat.blt c np;rfl;exact absurd (by rwa [Nat.blt_eq] at hb) hc
       have hg:g c=(lk b c).getD s.nx:=by show (bif Nat.blt c np then c else _)=_;rw [hb];rfl
       cases hl:lk b c with
       | none=>rw [hg,hl] at hN;exact absurd hN hbad
       | some a'=>exact ⟨a',rfl,by rw [hg,hl];rfl⟩
      have hBN:∀c,c<np->κ.N c->κ0.N c:=fun c hc hN=>(ok.nw c hN).resolve_right (Nat.not_le_of_lt hc)
      let κ':Kn:=⟨fun c=>κ.ρ (g c),fun c=>if c<np then κ0.N c else κ.N (g c),κ.R,κ.w⟩
      have hren:Ren κ κ' g id:=⟨rfl,rfl,fun c hN=>⟨by
       show (if c<np then κ0.N c else κ.N (g c))
       by_cases hc:c<np
       .rw [if_pos hc];exact hBN c hc (by rw [glt hc] at hN;exact hN)
       .rw [if_neg hc];exact hN,rfl⟩⟩
      obtain ⟨e1,k1⟩:=RS.jw (bad:=s.nx) hH h1 hrep;obtain ⟨e2,k2⟩:=Hs.jw (bad:=s.nx) hH h2;obtain ⟨q1,q2⟩:=k1 b e2 es;rw [<-h3] at q1 q2;obtain ⟨q3,q4⟩:=RS.xg hren se.a.r (dys se.a.cs se.x);have q6:(se.a.r.fill id (dys se.a.cs se.x)).2=es:=q3.symm.trans q1;obtain ⟨q7,q8⟩:=k2 b (Ext.refl _) κ' id hren [];rw [List.append_nil] at q7 q8;have hbl:(se.upd id (news np se.a.nx) ct.wr).bl=(Hs.fill id se.a.h es).1++Uy (se.a.gone.map id):=by
       show (Hs.fill id se.a.h (se.a.r.fill id (dys se.a.cs se.x)).2).1++_=_;rw [q6]
      have hlook:∀{i z},look (se.upd id (news np se.a.nx) ct.wr).bl i=some z->∃x0,i∈se.a.h.map (·.1)/\H (g i)=some x0/\(z.live=true->z.own=true/\x0.own=true)/\uO κ' i z:=fun {i z} hi=>by
       rw [hbl] at hi;have hm:=J6 (zaw hi);obtain ⟨c,x0,z',m1,m2,m3,m4,m5,m6,m7⟩:=q8 i _ hm;cases m3;subst m1;exact ⟨x0,m2,m4,fun hl=>by have:=Hs.zfK f4 _ _ hm hl;exact ⟨this,m5 this⟩,m7⟩
      have hrho:∀{i},κ'.ρ i=κ.ρ (g i):=rfl;refine ⟨κ',rfl,⟨fun id hid=>⟨by show (if id<np then κ0.N id else _);rw [if_pos (hN id hid)];exact hid,by show κ.ρ (g id)=_;rw [glt (hN id hid)];exact (ok.ids id hid).2⟩,fun id hid=>?_,ok.rr,fun bb hb=>?_,ok.fr,q4 _ q2,⟨fun {i z} hi=>?_,fun {i j z z' bb} hi hj l1 l2 b1 b2=>?_,fun {i z bb} hi l1 b1=>?_⟩,fun i z bb hi l1 b1=>?_,fun i hi=>?_⟩⟩
      .have hid:(if id<np then κ0.N id else κ.N (g id)):=hid
       by_cases hlt:id<np
       .rw [if_pos hlt] at hid;exact .inl hid
       .rw [if_neg hlt] at hid
        obtain ⟨a',l1,_⟩:=gge hlt hid;have:=List.all_eq_true.1 f1 _ (zcv l1);have:id<se.a.nx:=by simpa [Nat.blt_eq] using this
        exact .inr (zbl.2 ⟨Nat.le_of_not_lt hlt,by show id<np+(se.a.nx - np);omega⟩)
      .rcases ok.rb bb hb with h|h|h
       .exact .inl h
       .exact .inr (.inl h)
       .exact .inr (.inr ⟨h,ok.wd.ult bb hb⟩)
      .obtain ⟨x0,_,m2,_,m4⟩:=hlook hi
       exact ⟨(hren.go i (hH.blk m2).1).1,m4⟩
      .obtain ⟨x0,n1,m2,m3,_⟩:=hlook hi
       obtain ⟨x0',n1',m2',m3',_⟩:=hlook hj;have:=hH.inj m2 m2' (Xl (m3 l1).2) (Xl (m3' l2).2) b1 b2;obtain ⟨p1,o1,rfl⟩:=List.mem_map.1 n1;obtain ⟨p2,o2,rfl⟩:=List.mem_map.1 n1';rw [Uz f2 o1 o2 this]
      .obtain ⟨x0,n1,m2,m3,_⟩:=hlook hi
       exact hH.notR m2 (Xl (m3 l1).2) b1
      .obtain ⟨x0,n1,m2,m3,_⟩:=hlook hi
       rw [<-hH0] at m2;exact ok.own m2 (m3 l1).2 b1
      .have h4:=List.all_eq_true.1 hwr i hi
       rw [Bool.or_eq_true] at h4;rw [hbl];unfold keys;rw [List.map_append,List.mem_append];rcases h4 with h4|h4
       .left
        show i∈keys (Hs.fill id se.a.h es).1;rw [Hs.JL];exact jk h4
       .right
        show i∈keys (Uy _);rw [VW,List.map_id];exact jk h4
    .cases h
   .cases h
  .cases h
 .cases h
theorem zmc {fn:Func} {ct:Ctr} {x:TT ct.k.cs} {y:Alts ct.alts} {κ0:Kn} (hN:∀id,κ0.N id->id<ct.k.nx) (hwr:ct.alts.all (fun a=>Nat.ble ct.k.nx a.nx&&ct.wr.all fun c=>memB (a.h.map (·.1)) c||memB a.gone c)=true)
  (ok:Ok cx.nt ⟨κ0.w,Touch κ0 (look (ct.blocks x)) ct.wr,κ0.R,κ0.N,κ0.ρ,ct.k.nx⟩ κ (cx.full s) a) (h:finF cx ct.k.nx fn.results.toList ct.alts s=some y) :
  ∃v,(results fn a.tmps).run cx.P κ.w=.ok v κ.w/\∃κ',κ'.w=κ.w/\Eff κ0 κ' (look (ct.blocks x)) ((sel ct.alts y).upd id (news ct.k.nx (sel ct.alts y).a.nx) ct.wr) v:=by
 unfold finF at h;split at h
 .rename_i y' hy;cases h;exact zie hN hwr ok hy
 .obtain ⟨al,h⟩:=zhj h
  obtain ⟨s',h1,h2⟩:=Option.bind_eq_some_iff.1 h;obtain ⟨s2,h8,h2⟩:=Option.bind_eq_some_iff.1 h2;obtain ⟨κ1,h3,h4⟩:=zeV h1 ok;obtain ⟨κ2,h9,h10⟩:=zbT h8 h4;obtain ⟨v,h5,κ',h6,h7⟩:=zie hN hwr h10 h2;rw [h9,h3] at h5;exact ⟨v,h5,κ',h6.trans (h9.trans h3),h7⟩
end
theorem zmh {e:XEnv} {t:Nat} (h:t∉JI e):get e t=.one .any:=by
 have:=ZF (b:=[]) h;rwa [List.append_nil] at this
theorem zoF {P:Program} {f:FuncId} {fn:Func} {ct:Ctr} {Ct:Ctab} {Hs:Hints} {fuel:Nat} (ht:VI P Ct) (hf:P.funcs[f]?=some fn) (h:∀x,ct.m x=zdU Ct Hs fuel P fn ct x):FnC P f ct:=by
 intro κ x y hm vs hargs hH hW hN;rw [h] at hm;unfold zdU at hm;split at hm
 .rename_i c hb
  simp only at hm;cases hc:(Nat.ble ct.k.e.length fn.ntmps&&(decide (ct.k.e.map (·.1)=List.range ct.k.e.length)&&(zlp ct.wr (ct.blocks x)&&(ct.alts.all fun a=>Nat.ble ct.k.nx a.nx&&ct.wr.all fun c=>memB (a.h.map (·.1)) c||memB a.gone c))))
  .rw [hc] at hm;cases hm
  .rw [hc,cond_true] at hm
   simp only [Bool.and_eq_true] at hc;obtain ⟨c1,c2,c3,c4⟩:=hc;have c1:=Nat.le_of_ble_eq_true c1;have c2:=of_decide_eq_true c2
   let cx:Cx:=⟨P,fn.ntmps,[],[]⟩
   let B:Base:=⟨κ.w,Touch κ (look (ct.blocks x)) ct.wr,κ.R,κ.N,κ.ρ,ct.k.nx⟩
   let a0:Act:={ tmps:=vs.toArray++Array.replicate (fn.ntmps - vs.toArray.size) undef,defers:=[] }
   have hal:(ct.args x).length=vs.length:=hargs.length;have hsl:∀(ss:List SH) (ds:List Dy),(SHs.fill id ss ds).1.length=ss.length:=by
    intro ss
    induction ss with
    | nil=>intro ds;rfl
    | cons s ss ih=>intro ds;show (SHs.fill id ss _).1.length+1=_;rw [ih];rfl
   have hvl:vs.length=ct.k.e.length:=by rw [<-hal];show (SHs.fill id _ _).1.length=_;rw [hsl];simp
   have hget:∀t,t<vs.length->a0.tmps.getD t undef=vs.getD t undef:=fun t ht'=>by
    show (vs.toArray++Array.replicate _ undef).getD t undef=_;simp [Array.getD,List.getD,Array.getElem?_append,ht',Array.getElem_append];intro hh;omega
   have hvs:vs=ct.k.e.map fun p=>a0.tmps.getD p.1 undef:=by
    have e1:(ct.k.e.map fun p=>a0.tmps.getD p.1 undef)=(ct.k.e.map (·.1)).map fun t=>a0.tmps.getD t undef:=by rw [List.map_map];rfl
    rw [e1,c2];apply List.ext_getElem?;intro j
    by_cases hj:j<ct.k.e.length
    .rw [List.getElem?_map,List.getElem?_range hj]
     show _=some (a0.tmps.getD j undef);rw [hget j (by omega),List.getD_eq_getElem?_getD,List.getElem?_eq_getElem (by omega)];rfl
    .rw [List.getElem?_eq_none (by omega),List.getElem?_eq_none (by simp;omega)]
   have hzip:=zds (κ:=κ) (f:=fun t=>a0.tmps.getD t undef) (ps:=ct.k.e) (xs:=ct.args x) (by rw [<-hvs];exact hargs);have ok0:Ok fn.ntmps B κ (cx.full ⟨zipE ct.k.e (ct.args x),ct.blocks x,ct.k.nx⟩) a0:=by
    have hfull:cx.full ⟨zipE ct.k.e (ct.args x),ct.blocks x,ct.k.nx⟩=⟨zipE ct.k.e (ct.args x),ct.blocks x,ct.k.nx⟩:=by
     show (⟨_++[],_++[],_⟩:St)=_;rw [List.append_nil,List.append_nil]
    rw [hfull];refine ⟨?_,rfl,fun t=>?_,hH,hW,hN,Fr.refl _ _,fun {i z b} hi ho hb=>.inl ⟨i,z,?_,hi,ho,hb⟩,fun b h=>.inl h,fun b h=>h,fun i h=>⟨h,rfl⟩,Nat.le_refl _,fun i h=>.inl h⟩
    .show (vs.toArray++Array.replicate _ undef).size=_
     simp;omega
    .by_cases hm2:t∈ct.k.e.map (·.1)
     .exact hzip.2 t hm2
     .rw [zmh (by rw [hzip.1];exact hm2)];exact trivial
    .have:=List.all_eq_true.1 c3 _ (J6 hi)
     simp only [ho] at this;exact jk (by simpa using this)
   refine calls_of_wp hf hb (wp_mono (XL (cx:=cx) 1000 ht hm ok0) fun e a' w' hq=>?_);have key:∀{κ':Kn} {s':St},finF cx ct.k.nx fn.results.toList ct.alts s'=some y->Ok fn.ntmps B κ' (cx.full s') a'->a'.defers=[]/\∃v,(results fn a'.tmps).run P κ'.w=.ok v κ'.w/\∃v' κ2,Ending.returned v=.returned v'/\κ'.w=κ2.w/\Eff κ κ2 (look (ct.blocks x)) ((sel ct.alts y).upd id (news ct.k.nx (sel ct.alts y).a.nx) ct.wr) v':=fun {κ' s'} hfin ok'=>by
    obtain ⟨v,k1,κ2,k2,k3⟩:=zmc (cx:=cx) hN c4 ok' hfin;exact ⟨ok'.defers,v,k1,v,κ2,rfl,k2.symm,k3⟩
   cases e with
   | normal=>obtain ⟨κ',s',g1,rfl,g3⟩:=hq;exact key g1 g3
   | ret=>obtain ⟨κ',s',g1,rfl,g3⟩:=hq;exact key g1 g3
   | exit i=>obtain ⟨κ',s',g1,_⟩:=hq;cases g1
   | _=>exact hq.elim
 .cases hm
theorem zdP {P : Program} {f : FuncId} {fn : Func} (hf : P.funcs[f]? = some fn) (hn : (fn.name == "runtime.NumGoroutine") = false) (hb : fn.body.isNone = false) : ∀ (args : Array Value) (w : World), (callFunc f args).run P w = .ok (.enter f args) w := fun args w => by
 have hn' : ¬ fn.name = "runtime.NumGoroutine" := by simpa using hn
 have hb':¬fn.body=none:=fun e=>by rw [e] at hb;cases hb
 simp [callFunc,hf,hn',hb']
theorem zfN {P : Program} {f : FuncId} {fn : Func} {ct : Ctr} {Ct : Ctab} {Hs : Hints} {fuel : Nat} (ht : VI P Ct) (hf : P.funcs[f]? = some fn) (h : ∀ x, ct.m x = zdU Ct Hs fuel P fn ct x) (hn : (fn.name == "runtime.NumGoroutine") = false) (hb : fn.body.isNone = false) : FnK P f ct := ⟨zdP hf hn hb, zoF ht hf h⟩
theorem zj1 {P:Program} {f:FuncId} {ct:Ctr} (h:∀x,ct.m x=none) (he:∀(args:Array Value) (w:World),(callFunc f args).run P w=.ok (.enter f args) w):FnK P f ct :=
 ⟨he,fun κ x y hy=>by rw [h x] at hy;cases hy⟩
def noH:Hints:=⟨fun _=>none,fun _=>none,fun _=>none,fun _=>false⟩
def zb8 (f:Nat) (c:Ctr) (t:Ctab):Ctab:=⟨fun g=>bif Nat.beq f g then t.c g++[c] else t.c g,t.cl⟩
theorem zej {P:Program} {f:Nat} {c:Ctr} {t:Ctab} (ht:VI P t) (hc:FnK P f c):VI P (zb8 f c t):=⟨fun g d hd=>by
 unfold zb8 at hd;simp only at hd;cases hb:Nat.beq f g
 .rw [hb] at hd;exact ht.c g d hd
 .rw [hb,cond_true] at hd
  have:=Nat.eq_of_beq_eq_true hb;subst this;rcases List.mem_append.1 hd with h|h
  .exact ht.c f d h
  .rw [List.mem_singleton.1 h];exact hc,ht.cl⟩
theorem zjI {P:Program} {f:FuncId} {e:TypeId} {c:EC} {m0:Option (T (.sl c))} {m:List (T c)->Option (T (.sl c))} (h0:FnK P f ⟨⟨[(0,.one (.leaf .nilS))],[],[],[],0,[]⟩,[],[⟨.one (.one (.leaf (.row 0))),[(0,.row e c)],[],1,[.o (.sl c)]⟩],fun _=>m0⟩)
  (h1:FnK P f ⟨⟨[(0,.one (.leaf (.nn (.sl c))))],[],[],[],0,[.o (.sl c)]⟩,[],[⟨.one (.one (.leaf (.row 0))),[(0,.row e c)],[],1,[.o (.sl c)]⟩],fun x=>m x⟩) (e0:m0=some []) (e1:m []=some []) (hp:0<szC c)
  (h2:∀(w:World) (b off n k:Nat) (news:List Value),news.length=n*szC c->0<n->n<=4000000->(∀j u,news[j]?=some u->w.cell? ⟨b,off+j,none⟩=some u)->(∀u∈news,u.oneCell'=true) ->
   Calls P f #[.slice (some ⟨b,off,none⟩) n k] w fun ex w'=>∃v',ex=.returned v'/\w'.ownsRow w.heap.size e (szC c) v' n news/\v'≠.slice none 0 0/\Below w.heap.size w w'):Jz P f e c:=by
 refine ⟨h0.ent,fun {κ l v} hW hsrc hl=>?_⟩;have hN:∀id,(⟨fun _=>undef,fun _=>False,κ.R,κ.w⟩:Kn).N id->id<0:=fun id h=>h.elim;have hW':WOk ⟨fun _=>undef,fun _=>False,κ.R,κ.w⟩:=⟨hW.ult,hW.tab,0,fun id h=>h.elim⟩;obtain ⟨Ad,cap,news,hv,g1,g2,g3,g4,g5⟩:=hsrc;have hlook:∀{z:XB},look [(0,some z)] 0=some z:=fun {z}=>by rw [kJ];rfl
 have fin:∀{ex:Ending} {w':World},(∃(v':Value) (κ':Kn),ex=.returned v'/\w'=κ'.w/\Eff ⟨fun _=>undef,fun _=>False,κ.R,κ.w⟩ κ' (look []) ⟨.one (.own 0),[(0,some (.row e c []))],[0],[]⟩ v')->l=[] ->
   ∃v' vs,ex=.returned v'/\ku w' e (szC c) v' l.length vs/\Xq κ.R κ.w c l vs/\Below κ.w.heap.size κ.w w'/\(∀b,yV v'=some b->κ.w.heap.size<=b)/\v'.oneCell'=true:=by
  rintro ex w' ⟨v',κ',rfl,rfl,k⟩ hl0;subst hl0;obtain ⟨q1,q2,q3⟩:κ'.N 0/\v'=κ'.ρ 0/\v'.oneCell'=true:=k.val;obtain ⟨_,vs,q4,q5⟩:=k.hok.blk (id:=0) (x:=.row e c []) hlook;have hno:∀b,¬Touch (⟨fun _=>undef,fun _=>False,κ.R,κ.w⟩:Kn) (look []) [] b:=fun b hb=>JR hb;have hvs:vs=[]:=List.eq_nil_of_length_eq_zero (by rw [q4.1];simp);subst hvs;exact ⟨v',[],rfl,by rw [q2];exact q4,.nil,Fr.below (k.fr.mono fun b _ hb=>(hno b hb).elim),fun b hb=>(k.old 0 (.row e c []) b hlook rfl (by rw [<-q2];exact hb)).resolve_left (hno b),q3⟩
 rcases Nat.eq_zero_or_pos l.length with h0'|hpos
 .have hl0:l=[]:=List.eq_nil_of_length_eq_zero h0'
  rw [h0'] at hv;cases Ad with
  | none =>
   have hv:v=.slice none 0 0:=by rw [hv,g3 rfl]
   refine Calls.mono (h0.c ⟨fun _=>undef,fun _=>False,κ.R,κ.w⟩ () [] e0 [v] (.cons (show RepF κ.R κ.w (.val (.slice none 0 0)) v by rw [hv];exact RepF.val _ rfl) .nil) (HOk.nil _) hW' hN) fun ex w' hh=>fin hh hl0
  | some a =>
   refine Calls.mono (h1.c ⟨fun _=>undef,fun _=>False,κ.R,κ.w⟩ ([]:List (T c)) [] e1 [v] (.cons (show RepF κ.R κ.w (.ls (cv c) ([]:List (T c))) v/\v≠.slice none 0 0 from ⟨by rw [hv];exact RepF.empty g2 nofun,by rw [hv];nofun⟩) .nil) (HOk.nil _) hW' hN) fun ex w' hh=>fin hh hl0
 .have hn:=g5.len
  have hsz:news≠[]\/szC c=0:=by
   by_cases hz:szC c=0
   .exact .inr hz
   .refine .inl fun h=>?_
    rw [h] at hn;have:0<l.length*szC c:=Nat.mul_pos hpos (by omega);simp at hn;omega
  rcases hsz with hne|hz
  .obtain ⟨b,off,rfl,hb,hcell⟩:=g4 hne
   rw [hv];refine Calls.mono (h2 κ.w b off l.length cap news hn hpos hl hcell g5.one) ?_;rintro ex w' ⟨v',rfl,ho,_,hbel⟩;obtain ⟨A',c',hsl,_⟩:=Kit.Qq ho;exact ⟨v',news,rfl,ku.of ho,g5,hbel,fun b hb=>(ho.lt b (Wi hsl hb)).1,by rw [hsl];rfl⟩
  .exact absurd hz (Nat.pos_iff_ne_zero.1 hp)
end G
end Go.Proofs.YtbijabmjbgplbaaGreatDoor
namespace Go.Proofs.YtbijabmjbgplbaaGreatDoor
open Go.Proofs Go.Shelf
def zbs:Go.Shelf.Ren:=⟨fun|137=>117|217=>188|266=>264|n=>n,fun|9=>9|5=>5|3=>3|n=>n,fun|n=>n⟩
theorem zes:Go.Proofs.Lays.n137 Tryz.prog zbs:={
 mixed:=by kernel_rfl
 f137:=Tryz.func117.trans (congrArg some (by kernel_rfl))
 f217:=Tryz.func188.trans (congrArg some (by kernel_rfl))
 f266:=Tryz.func264.trans (congrArg some (by kernel_rfl))
 t3:=Tryz.underlying3
 a3:=Tryz.isAgg3
 z3:=Tryz.sizeOf3
 v3:=Tryz.zeroValue3
 t5:=Tryz.underlying5
 a5:=Tryz.isAgg5
 z5:=Tryz.sizeOf5
 v5:=Tryz.zeroValue5
 t9:=Tryz.underlying9
 a9:=Tryz.isAgg9
 z9:=Tryz.sizeOf9
 v9:=Tryz.zeroValue9 }
def zbc:Go.Shelf.Ren:=⟨fun|171=>319|243=>339|246=>348|283=>355|284=>356|285=>357|286=>358|129=>361|317=>360|318=>362|319=>363|320=>364|337=>366|338=>367|n=>n,fun|3=>3|9=>9|2=>2|4=>4|171=>396|0=>0|53=>176|37=>40|5=>5|173=>399|212=>401|51=>391|20=>20|213=>402|46=>245|232=>405|233=>406|n=>n,fun|17=>3|18=>4|19=>5|n=>n⟩
theorem zaY:Go.Proofs.LaysM.n171 Tryz.prog zbc:={
 mixed:=by kernel_rfl
 f129:=Tryz.func361.trans (congrArg some (by kernel_rfl))
 f171:=Tryz.func319.trans (congrArg some (by kernel_rfl))
 f243:=Tryz.func339.trans (congrArg some (by kernel_rfl))
 f246:=Tryz.func348.trans (congrArg some (by kernel_rfl))
 f283:=Tryz.func355.trans (congrArg some (by kernel_rfl))
 f284:=Tryz.func356.trans (congrArg some (by kernel_rfl))
 f285:=Tryz.func357.trans (congrArg some (by kernel_rfl))
 f286:=Tryz.func358.trans (congrArg some (by kernel_rfl))
 f317:=Tryz.func360.trans (congrArg some (by kernel_rfl))
 f318:=Tryz.func362.trans (congrArg some (by kernel_rfl))
 f319:=Tryz.func363.trans (congrArg some (by kernel_rfl))
 f320:=Tryz.func364.trans (congrArg some (by kernel_rfl))
 f337:=Tryz.func366.trans (congrArg some (by kernel_rfl))
 f338:=Tryz.func367.trans (congrArg some (by kernel_rfl))
 t0:=Tryz.underlying0
 a0:=Tryz.isAgg0
 z0:=Tryz.sizeOf0
 v0:=Tryz.zeroValue0
 t2:=Tryz.underlying2
 a2:=Tryz.isAgg2
 z2:=Tryz.sizeOf2
 v2:=Tryz.zeroValue2
 t3:=Tryz.underlying3
 a3:=Tryz.isAgg3
 z3:=Tryz.sizeOf3
 v3:=Tryz.zeroValue3
 t4:=Tryz.underlying4
 a4:=Tryz.isAgg4
 z4:=Tryz.sizeOf4
 v4:=Tryz.zeroValue4
 t5:=Tryz.underlying5
 a5:=Tryz.isAgg5
 z5:=Tryz.sizeOf5
 v5:=Tryz.zeroValue5
 t9:=Tryz.underlying9
 a9:=Tryz.isAgg9
 z9:=Tryz.sizeOf9
 v9:=Tryz.zeroValue9
 t20:=Tryz.underlying20
 a20:=Tryz.isAgg20
 z20:=Tryz.sizeOf20
 v20:=Tryz.zeroValue20
 t37:=Tryz.underlying40
 a37:=Tryz.isAgg40
 z37:=Tryz.sizeOf40
 v37:=Tryz.zeroValue40
 t46:=Tryz.underlying245
 a46:=Tryz.isAgg245
 z46:=Tryz.sizeOf245
 v46:=Tryz.zeroValue245
 t51:=Tryz.underlying391
 a51:=Tryz.isAgg391
 z51:=Tryz.sizeOf391
 v51:=Tryz.zeroValue391
 t53:=Tryz.underlying176
 a53:=Tryz.isAgg176
 z53:=Tryz.sizeOf176
 v53:=Tryz.zeroValue176
 t171:=Tryz.underlying396
 a171:=Tryz.isAgg396
 z171:=Tryz.sizeOf396
 v171:=Tryz.zeroValue396
 t173:=Tryz.underlying399
 a173:=Tryz.isAgg399
 z173:=Tryz.sizeOf399
 v173:=Tryz.zeroValue399
 t212:=Tryz.underlying401
 a212:=Tryz.isAgg401
 z212:=Tryz.sizeOf401
 v212:=Tryz.zeroValue401
 t213:=Tryz.underlying402
 a213:=Tryz.isAgg402
 z213:=Tryz.sizeOf402
 t232:=Tryz.underlying405
 a232:=Tryz.isAgg405
 z232:=Tryz.sizeOf405
 v232:=Tryz.zeroValue405
 t233:=Tryz.underlying406
 a233:=Tryz.isAgg406
 z233:=Tryz.sizeOf406
 v233:=Tryz.zeroValue406
 g17:=by kernel_rfl
 g18:=by kernel_rfl
 g19:=by kernel_rfl
 i0:=by kernel_rfl
 i2:=by kernel_rfl
 i3:=by kernel_rfl
 i4:=by kernel_rfl
 i5:=by kernel_rfl
 i9:=by kernel_rfl
 i20:=by kernel_rfl
 i37:=by kernel_rfl
 i46:=by kernel_rfl
 i51:=by kernel_rfl
 i53:=by kernel_rfl
 i171:=by kernel_rfl
 i173:=by kernel_rfl
 i212:=by kernel_rfl
 i232:=by kernel_rfl
 i233:=by kernel_rfl
 m17:=by kernel_rfl
 m18:=by kernel_rfl
 m19:=by kernel_rfl }
def zbb:Go.Shelf.Ren:=⟨fun|174=>192|247=>265|245=>266|287=>320|279=>321|280=>322|281=>323|282=>324|321=>340|322=>341|316=>342|171=>319|205=>343|243=>339|246=>348|283=>355|284=>356|285=>357|286=>358|129=>361|317=>360|318=>362|319=>363|320=>364|337=>366|338=>367|n=>n,fun|9=>9|3=>3|2=>2|75=>287|85=>288|4=>4|167=>359|5=>5|53=>176|175=>360|46=>245|168=>362|37=>40|0=>0|210=>379|21=>21|127=>386|145=>389|143=>387|171=>396|173=>399|212=>401|51=>391|20=>20|213=>402|232=>405|233=>406|80=>180|n=>n,fun|15=>1|16=>2|17=>3|18=>4|19=>5|n=>n⟩
theorem JA:Go.Proofs.LaysC.n174 Tryz.prog zbb:={
 mixed:=by kernel_rfl
 f129:=Tryz.func361.trans (congrArg some (by kernel_rfl))
 f171:=Tryz.func319.trans (congrArg some (by kernel_rfl))
 f174:=Tryz.func192.trans (congrArg some (by kernel_rfl))
 f205:=Tryz.func343.trans (congrArg some (by kernel_rfl))
 f243:=Tryz.func339.trans (congrArg some (by kernel_rfl))
 f245:=Tryz.func266.trans (congrArg some (by kernel_rfl))
 f246:=Tryz.func348.trans (congrArg some (by kernel_rfl))
 f247:=Tryz.func265.trans (congrArg some (by kernel_rfl))
 f279:=Tryz.func321.trans (congrArg some (by kernel_rfl))
 f280:=Tryz.func322.trans (congrArg some (by kernel_rfl))
 f281:=Tryz.func323.trans (congrArg some (by kernel_rfl))
 f282:=Tryz.func324.trans (congrArg some (by kernel_rfl))
 f283:=Tryz.func355.trans (congrArg some (by kernel_rfl))
 f284:=Tryz.func356.trans (congrArg some (by kernel_rfl))
 f285:=Tryz.func357.trans (congrArg some (by kernel_rfl))
 f286:=Tryz.func358.trans (congrArg some (by kernel_rfl))
 f287:=Tryz.func320.trans (congrArg some (by kernel_rfl))
 f316:=Tryz.func342.trans (congrArg some (by kernel_rfl))
 f317:=Tryz.func360.trans (congrArg some (by kernel_rfl))
 f318:=Tryz.func362.trans (congrArg some (by kernel_rfl))
 f319:=Tryz.func363.trans (congrArg some (by kernel_rfl))
 f320:=Tryz.func364.trans (congrArg some (by kernel_rfl))
 f321:=Tryz.func340.trans (congrArg some (by kernel_rfl))
 f322:=Tryz.func341.trans (congrArg some (by kernel_rfl))
 f337:=Tryz.func366.trans (congrArg some (by kernel_rfl))
 f338:=Tryz.func367.trans (congrArg some (by kernel_rfl))
 t0:=Tryz.underlying0
 a0:=Tryz.isAgg0
 z0:=Tryz.sizeOf0
 v0:=Tryz.zeroValue0
 t2:=Tryz.underlying2
 a2:=Tryz.isAgg2
 z2:=Tryz.sizeOf2
 v2:=Tryz.zeroValue2
 t3:=Tryz.underlying3
 a3:=Tryz.isAgg3
 z3:=Tryz.sizeOf3
 v3:=Tryz.zeroValue3
 t4:=Tryz.underlying4
 a4:=Tryz.isAgg4
 z4:=Tryz.sizeOf4
 v4:=Tryz.zeroValue4
 t5:=Tryz.underlying5
 a5:=Tryz.isAgg5
 z5:=Tryz.sizeOf5
 v5:=Tryz.zeroValue5
 t9:=Tryz.underlying9
 a9:=Tryz.isAgg9
 z9:=Tryz.sizeOf9
 v9:=Tryz.zeroValue9
 t20:=Tryz.underlying20
 a20:=Tryz.isAgg20
 z20:=Tryz.sizeOf20
 v20:=Tryz.zeroValue20
 t21:=Tryz.underlying21
 a21:=Tryz.isAgg21
 z21:=Tryz.sizeOf21
 v21:=Tryz.zeroValue21
 t37:=Tryz.underlying40
 a37:=Tryz.isAgg40
 z37:=Tryz.sizeOf40
 v37:=Tryz.zeroValue40
 t46:=Tryz.underlying245
 a46:=Tryz.isAgg245
 z46:=Tryz.sizeOf245
 v46:=Tryz.zeroValue245
 t51:=Tryz.underlying391
 a51:=Tryz.isAgg391
 z51:=Tryz.sizeOf391
 v51:=Tryz.zeroValue391
 t53:=Tryz.underlying176
 a53:=Tryz.isAgg176
 z53:=Tryz.sizeOf176
 v53:=Tryz.zeroValue176
 t75:=Tryz.underlying287
 a75:=Tryz.isAgg287
 z75:=Tryz.sizeOf287
 v75:=Tryz.zeroValue287
 t85:=Tryz.underlying288
 a85:=Tryz.isAgg288
 z85:=Tryz.sizeOf288
 v85:=Tryz.zeroValue288
 t127:=Tryz.underlying386
 a127:=Tryz.isAgg386
 z127:=Tryz.sizeOf386
 v127:=Tryz.zeroValue386
 t143:=Tryz.underlying387
 a143:=Tryz.isAgg387
 z143:=Tryz.sizeOf387
 v143:=Tryz.zeroValue387
 t145:=Tryz.underlying389
 a145:=Tryz.isAgg389
 z145:=Tryz.sizeOf389
 v145:=Tryz.zeroValue389
 t167:=Tryz.underlying359
 a167:=Tryz.isAgg359
 z167:=Tryz.sizeOf359
 v167:=Tryz.zeroValue359
 t168:=Tryz.underlying362
 a168:=Tryz.isAgg362
 z168:=Tryz.sizeOf362
 v168:=Tryz.zeroValue362
 t171:=Tryz.underlying396
 a171:=Tryz.isAgg396
 z171:=Tryz.sizeOf396
 v171:=Tryz.zeroValue396
 t173:=Tryz.underlying399
 a173:=Tryz.isAgg399
 z173:=Tryz.sizeOf399
 v173:=Tryz.zeroValue399
 t175:=Tryz.underlying360
 a175:=Tryz.isAgg360
 z175:=Tryz.sizeOf360
 v175:=Tryz.zeroValue360
 t210:=Tryz.underlying379
 a210:=Tryz.isAgg379
 z210:=Tryz.sizeOf379
 v210:=Tryz.zeroValue379
 t212:=Tryz.underlying401
 a212:=Tryz.isAgg401
 z212:=Tryz.sizeOf401
 v212:=Tryz.zeroValue401
 t213:=Tryz.underlying402
 a213:=Tryz.isAgg402
 z213:=Tryz.sizeOf402
 t232:=Tryz.underlying405
 a232:=Tryz.isAgg405
 z232:=Tryz.sizeOf405
 v232:=Tryz.zeroValue405
 t233:=Tryz.underlying406
 a233:=Tryz.isAgg406
 z233:=Tryz.sizeOf406
 v233:=Tryz.zeroValue406
 g15:=by kernel_rfl
 g16:=by kernel_rfl
 g17:=by kernel_rfl
 g18:=by kernel_rfl
 g19:=by kernel_rfl
 t80:=Tryz.underlying180
 a80:=Tryz.isAgg180
 z80:=Tryz.sizeOf180
 v80:=Tryz.zeroValue180
 i0:=by kernel_rfl
 i2:=by kernel_rfl
 i3:=by kernel_rfl
 i4:=by kernel_rfl
 i5:=by kernel_rfl
 i9:=by kernel_rfl
 i20:=by kernel_rfl
 i21:=by kernel_rfl
 i37:=by kernel_rfl
 i46:=by kernel_rfl
 i51:=by kernel_rfl
 i53:=by kernel_rfl
 i75:=by kernel_rfl
 i80:=by kernel_rfl
 i85:=by kernel_rfl
 i127:=by kernel_rfl
 i143:=by kernel_rfl
 i145:=by kernel_rfl
 i167:=by kernel_rfl
 i168:=by kernel_rfl
 i171:=by kernel_rfl
 i173:=by kernel_rfl
 i175:=by kernel_rfl
 i210:=by kernel_rfl
 i212:=by kernel_rfl
 i232:=by kernel_rfl
 i233:=by kernel_rfl
 m15:=by kernel_rfl
 m16:=by kernel_rfl
 m17:=by kernel_rfl
 m18:=by kernel_rfl
 m19:=by kernel_rfl
 c0:=by kernel_rfl
 c2:=by kernel_rfl
 c3:=by kernel_rfl
 c4:=by kernel_rfl
 c5:=by kernel_rfl
 c9:=by kernel_rfl
 c20:=by kernel_rfl
 c21:=by kernel_rfl
 c37:=by kernel_rfl
 c46:=by kernel_rfl
 c51:=by kernel_rfl
 c53:=by kernel_rfl
 c75:=by kernel_rfl
 c80:=by kernel_rfl
 c85:=by kernel_rfl
 c127:=by kernel_rfl
 c143:=by kernel_rfl
 c145:=by kernel_rfl
 c167:=by kernel_rfl
 c168:=by kernel_rfl
 c171:=by kernel_rfl
 c173:=by kernel_rfl
 c175:=by kernel_rfl
 c210:=by kernel_rfl
 c212:=by kernel_rfl
 c213:=by kernel_rfl
 c232:=by kernel_rfl
 c233:=by kernel_rfl }
def zbt:Go.Shelf.Ren:=⟨fun|212=>347|263=>353|264=>354|n=>n,fun|46=>245|51=>391|146=>392|53=>176|148=>394|n=>n,fun|n=>n⟩
theorem zet:Go.Proofs.Lays.n212 Tryz.prog zbt:={
 mixed:=by kernel_rfl
 f212:=Tryz.func347.trans (congrArg some (by kernel_rfl))
 f263:=Tryz.func353.trans (congrArg some (by kernel_rfl))
 f264:=Tryz.func354.trans (congrArg some (by kernel_rfl))
 t46:=Tryz.underlying245
 a46:=Tryz.isAgg245
 z46:=Tryz.sizeOf245
 v46:=Tryz.zeroValue245
 t51:=Tryz.underlying391
 a51:=Tryz.isAgg391
 z51:=Tryz.sizeOf391
 v51:=Tryz.zeroValue391
 t53:=Tryz.underlying176
 a53:=Tryz.isAgg176
 z53:=Tryz.sizeOf176
 v53:=Tryz.zeroValue176
 t146:=Tryz.underlying392
 a146:=Tryz.isAgg392
 z146:=Tryz.sizeOf392
 v146:=Tryz.zeroValue392
 t148:=Tryz.underlying394
 a148:=Tryz.isAgg394
 z148:=Tryz.sizeOf394
 v148:=Tryz.zeroValue394 }
def zdw:Go.Shelf.Ren:=⟨fun|41=>17|n=>n,fun|22=>50|23=>3|4=>4|n=>n,fun|n=>n⟩
theorem zjo:Go.Proofs.SlLaysE0.n41 Tryz.prog zdw:={
 mixed:=by kernel_rfl
 f41:=⟨Tryz.f17.name,by decide,Tryz.func17.trans (congrArg some (by kernel_rfl))⟩
 t4:=Tryz.underlying4
 a4:=Tryz.isAgg4
 z4:=Tryz.sizeOf4
 v4:=Tryz.zeroValue4
 t22:=Tryz.underlying50
 a22:=Tryz.isAgg50
 z22:=Tryz.sizeOf50
 v22:=Tryz.zeroValue50 }
def zdx:Go.Shelf.Ren:=⟨fun|41=>18|n=>n,fun|22=>51|23=>9|4=>4|n=>n,fun|n=>n⟩
theorem zjq:Go.Proofs.SlLaysE0.n41 Tryz.prog zdx:={
 mixed:=by kernel_rfl
 f41:=⟨Tryz.f18.name,by decide,Tryz.func18.trans (congrArg some (by kernel_rfl))⟩
 t4:=Tryz.underlying4
 a4:=Tryz.isAgg4
 z4:=Tryz.sizeOf4
 v4:=Tryz.zeroValue4
 t22:=Tryz.underlying51
 a22:=Tryz.isAgg51
 z22:=Tryz.sizeOf51
 v22:=Tryz.zeroValue51 }
def zdy:Go.Shelf.Ren:=⟨fun|41=>95|n=>n,fun|22=>107|23=>112|4=>4|n=>n,fun|n=>n⟩
theorem zjr:Go.Proofs.SlLaysE0.n41 Tryz.prog zdy:={
 mixed:=by kernel_rfl
 f41:=⟨Tryz.f95.name,by decide,Tryz.func95.trans (congrArg some (by kernel_rfl))⟩
 t4:=Tryz.underlying4
 a4:=Tryz.isAgg4
 z4:=Tryz.sizeOf4
 v4:=Tryz.zeroValue4
 t22:=Tryz.underlying107
 a22:=Tryz.isAgg107
 z22:=Tryz.sizeOf107
 v22:=Tryz.zeroValue107 }
def zdz:Go.Shelf.Ren:=⟨fun|41=>96|n=>n,fun|22=>22|23=>53|4=>4|n=>n,fun|n=>n⟩
theorem zjs:Go.Proofs.SlLaysE0.n41 Tryz.prog zdz:={
 mixed:=by kernel_rfl
 f41:=⟨Tryz.f96.name,by decide,Tryz.func96.trans (congrArg some (by kernel_rfl))⟩
 t4:=Tryz.underlying4
 a4:=Tryz.isAgg4
 z4:=Tryz.sizeOf4
 v4:=Tryz.zeroValue4
 t22:=Tryz.underlying22
 a22:=Tryz.isAgg22
 z22:=Tryz.sizeOf22
 v22:=Tryz.zeroValue22 }
def zgq:Go.Shelf.Ren:=⟨fun|5=>288|7=>332|n=>n,fun|23=>155|25=>9|3=>157|4=>4|20=>20|n=>n,fun|n=>n⟩
theorem zng:Go.Proofs.SlLaysW.n5 Tryz.prog zgq:={
 mixed:=by kernel_rfl
 f5:=⟨Tryz.f288.name,by decide,Tryz.func288.trans (congrArg some (by kernel_rfl))⟩
 f7:=Tryz.func332.trans (congrArg some (by kernel_rfl))
 t4:=Tryz.underlying4
 a4:=Tryz.isAgg4
 z4:=Tryz.sizeOf4
 v4:=Tryz.zeroValue4
 t20:=Tryz.underlying20
 a20:=Tryz.isAgg20
 z20:=Tryz.sizeOf20
 v20:=Tryz.zeroValue20
 t23:=Tryz.underlying155
 a23:=Tryz.isAgg155
 z23:=Tryz.sizeOf155
 v23:=Tryz.zeroValue155 }
end Go.Proofs.YtbijabmjbgplbaaGreatDoor
namespace Go.Proofs.YtbijabmjbgplbaaGreatDoor
open Go
namespace Md
def strings_IndexByte (k:Nat) (a0:List UInt8) (a1:UInt8):Option Int:=some (Lib.indexByte a0 a1)
def strconv_Itoa (k:Nat) (a0:Int):Option (List UInt8):=Md.ifp (-9223372036854775808<=a0/\a0<=9223372036854775807)<|some (Lib.itoa a0)
def parseRes (l:List UInt8):Int×Bool:=match Lib.parseIntB 64 l with
 | .ok v=>(v,false)
 | .range=>(Lib.intSat 64 l,true)
 | _=>(0,true)
def Vf (k:Nat) (a0:List UInt8) (a1 a2:Int):Option (Int×Bool):=Md.ifp (a1=10/\a2=64/\a0.length<=4000000)<|some (parseRes a0)
def kL (k:Nat) (a0:List Int) (a1:Int):Option (List Int):=Md.ifp (a0.length=1/\0<=a1/\a1<=16)<|some (List.replicate a1.toNat (a0.getD 0 0))
def xK (k:Nat) (a0:List (List UInt8×Vari)):Option (List (List UInt8×Vari)):=some a0
end Md
end Go.Proofs.YtbijabmjbgplbaaGreatDoor
namespace Go.Proofs.YtbijabmjbgplbaaGreatDoor
open Go.ChangeShapes Go.WideShapes Go.RowKit
namespace G
theorem zhT {κ:Kn} {w':World} {H:Nat->Option XB} {a:XA} {v:Value} (hb:Below κ.w.heap.size κ.w w') (hr:RepA ⟨κ.ρ,κ.N,κ.R,w'⟩ a v):Eff κ ⟨κ.ρ,κ.N,κ.R,w'⟩ H a.x v :=
 ⟨fun _ h=>⟨h,rfl⟩,fun _ h=>.inl h,fun _ h=>h,fun _ h=>.inl h,(Fr.of_below hb).mono fun _ _ h=>h.elim,hr,HOk.nil _,fun _ _ _ h=>(by cases h),fun _ h=>(by cases h)⟩
theorem zeU {P : Program} {f : FuncId} {fn : Func} {es : List (Nat × SH)} {cs : List D} {r : RS} {rs : List D} {m : TT cs -> Option (TT rs)} (hf : P.funcs[f]? = some fn) (hn : (fn.name == "runtime.NumGoroutine") = false) (hb : fn.body.isNone = false)
  (h:∀(κ:Kn) (x:TT cs) (y:TT rs),m x=some y->WOk κ->∀vs:List Value,All2 (Rep1 κ) (SHs.fill id (es.map (·.2)) (dys cs x)).1 vs->Calls P f vs.toArray κ.w fun e w'=>∃v,e=.returned v/\Below κ.w.heap.size κ.w w'/\RepA ⟨κ.ρ,κ.N,κ.R,w'⟩ (r.fill id (dys rs y)).1 v) :
  FnK P f ⟨⟨es,[],[],[],0,cs⟩,[],[⟨r,[],[],0,rs⟩],m⟩ :=
 ⟨zdP hf hn hb,fun κ x y hm vs hr hH hW hN=>(h κ x y hm hW vs hr).mono fun e w' ⟨v,he,hb,hv⟩=>⟨v,_,he,rfl,zhT hb hv⟩⟩
theorem zhg {α β:Type} {R:α->β->Prop} {a:α} {vs:List β} (h:All2 R [a] vs):∃u,vs=[u]/\R a u:=by
 cases h with|cons x t=>cases t;exact ⟨_,rfl,x⟩
theorem zhh {α β:Type} {R:α->β->Prop} {a b:α} {vs:List β} (h:All2 R [a,b] vs):∃u v,vs=[u,v]/\R a u/\R b v:=by
 cases h with|cons x t=>obtain ⟨v,rfl,y⟩:=zhg t;exact ⟨_,v,rfl,x,y⟩
theorem znn {α β:Type} {R:α->β->Prop} {a b c:α} {vs:List β} (h:All2 R [a,b,c] vs):∃u v x,vs=[u,v,x]/\R a u/\R b v/\R c x:=by
 cases h with|cons x t=>obtain ⟨v,w,rfl,y,z⟩:=zhh t;exact ⟨_,v,w,rfl,x,y,z⟩
theorem rv {κ:Kn} {u v:Value} (h:RepF κ.R κ.w (.val u) v):v=u:=by cases h;rfl
abbrev sv (c:EC):SH:=.one (.leaf (.val c))
theorem zeY (k:Nat):FnK Tryz.prog 117 ⟨⟨[(0,sv .str),(1,sv .u8)],[],[],[],0,[.o .str,.o .u8]⟩,[],[⟨.one (sv .int),[],[],0,[.o .int]⟩],fun x=>Md.strings_IndexByte k x.1 x.2⟩ :=
 zeU (fn:=Tryz.f117) (by kernel_rfl) (by kernel_rfl) (by kernel_rfl) fun κ x y hm hW vs hr=>by
  obtain ⟨u,v,rfl,h1,h2⟩:=zhh hr;obtain rfl:=rv (u:=Sv x.1) h1;obtain rfl:=rv (u:=.int .u8 (x.2.toNat:Int)) h2;cases Option.some.inj hm;refine (Any.strings_IndexByte zes ⟨x.1.toArray⟩ (x.2.toNat:Int) κ.w).mono ?_;rintro e w' ⟨rfl,rfl⟩;exact ⟨_,rfl,Below.refl _ _,show RepF _ _ (.val (.int .i64 (Lib.indexByte x.1 x.2))) _ by simpa using RepF.val _ rfl⟩
theorem zmZ {κ:Kn} {nm:String} {b:Nat} {p:Array Value->Prop} (hg:Tryz.prog.globalNamed nm=some b) (hp:zi7 b=some p) (hW:WOk κ):∃cs,κ.w.var? Tryz.prog nm=some cs/\p cs:=by
 obtain ⟨_,cs,T,x,h1,h2⟩:=hW.tab b p hp;exact ⟨cs,by simp [World.var?,hg,h1],h2⟩
theorem zgi {κ:Kn} {b:Nat} (hp:zi7 b=some (fun cs=>∃ev,cs=#[ev]/\(ev=.nilIface\/∃tp q,ev=.iface tp q))) (hW:WOk κ):∃ev,κ.w.cell? ⟨b,0,none⟩=some ev/\(ev=.nilIface\/∃tp q,ev=.iface tp q):=by
 obtain ⟨_,cs,T,x,h1,ev,rfl,h3⟩:=hW.tab b _ hp;exact ⟨ev,(cell_of_row κ.w b 0 #[ev] T x h1).trans rfl,h3⟩
theorem znP (k:Nat):FnK Tryz.prog 319 ⟨⟨[(0,sv .int)],[],[],[],0,[.o .int]⟩,[],[⟨.one (sv .str),[],[],0,[.o .str]⟩],fun x=>Md.strconv_Itoa k x⟩ :=
 zeU (fn:=Tryz.f319) (by kernel_rfl) (by kernel_rfl) (by kernel_rfl) fun κ x y hm hW vs hr=>by
  obtain ⟨u,rfl,h1⟩:=zhg hr;obtain rfl:=rv (u:=.int .i64 x) h1;obtain ⟨g,hm⟩:=Md.Xb hm;cases Option.some.inj hm;obtain ⟨cs,h1,h2⟩:=zmZ zaY.m17 rfl hW;refine (Any.strconv_Itoa zaY x g.1 g.2 κ.w (h1.trans (by rw [h2];kernel_rfl))).mono ?_;rintro e w' ⟨rfl,n,os,rfl⟩;exact ⟨_,rfl,Go.Lib.below_grow _ κ.w (Nat.le_refl _) n os,RepF.val _ rfl⟩
theorem zgL (k:Nat):FnK Tryz.prog 192 ⟨⟨[(0,sv .str),(1,sv .int),(2,sv .int)],[],[],[],0,[.o .str,.o .int,.o .int]⟩,[],[⟨.tu [sv .int,sv .err],[],[],0,[.o .int,.o .err]⟩],fun x=>Md.Vf k x.1 x.2.1 x.2.2⟩ :=
 zeU (fn:=Tryz.f192) (by kernel_rfl) (by kernel_rfl) (by kernel_rfl) fun κ x y hm hW vs hr=>by
  obtain ⟨a0,a1,a2⟩:=x;obtain ⟨u,v,v2,rfl,h1,h2,h3⟩:=znn hr;obtain rfl:=rv (u:=Sv a0) h1;obtain rfl:=rv (u:=.int .i64 a1) h2;obtain rfl:=rv (u:=.int .i64 a2) h3;obtain ⟨⟨g1,g2,g⟩,hm⟩:=Md.Xb hm;have g1:a1=10:=g1;have g2:a2=64:=g2;have g:a0.length<=4000000:=g;subst g1 g2;have hm:Md.parseRes a0=y:=Option.some.inj hm;have hsz:(⟨a0.toArray⟩:ByteArray).size<=281474976710656:=by
   show a0.length<=_;omega
  have done:∀{u w'},RepF κ.R w' (.err y.2) u->RepA ⟨κ.ρ,κ.N,κ.R,w'⟩ (.tu [.one (.i .i64 y.1),.one (.e y.2)]) (.tuple #[.int .i64 y.1,u]):=fun hu=>⟨[_,_],rfl,.cons (RepF.val _ rfl) (.cons hu .nil)⟩;rcases hp:Lib.parseIntB 64 a0 with v|_|_
  .have hr:Md.parseRes a0=(v,false):=by unfold Md.parseRes;rw [hp]
   have hy:=hm.symm.trans hr;subst hy;refine (Any.strconv_ParseInt_10_at64_ok JA ⟨a0.toArray⟩ (by omega) v hp κ.w).mono ?_;rintro e w' ⟨rfl,hw⟩;refine ⟨_,rfl,?_,done .errn⟩;rcases hw with rfl|⟨t,rfl⟩
   .exact Below.refl _ _
   .exact Lib.bytesWorld_below _ _ _
  .have hr:Md.parseRes a0=(0,true):=by unfold Md.parseRes;rw [hp]
   have hy:=hm.symm.trans hr;subst hy;obtain ⟨ev,h1,h2⟩:=zgi (b:=1) rfl hW;refine (Any.strconv_ParseInt_10_at64_syntax JA ⟨a0.toArray⟩ hsz hp ev κ.w h1 h2).mono ?_;rintro e w' ⟨N,rfl,_,_,hb⟩;exact ⟨_,rfl,hb,done (.err _ _)⟩
  .have hr:Md.parseRes a0=(Lib.intSat 64 a0,true):=by unfold Md.parseRes;rw [hp]
   have hy:=hm.symm.trans hr;subst hy;obtain ⟨ev,h1,h2⟩:=zgi (b:=2) rfl hW;refine (Any.strconv_ParseInt_10_at64_range JA ⟨a0.toArray⟩ hsz hp ev κ.w h1 h2).mono ?_;rintro e w' ⟨N,rfl,_,_,hb⟩;exact ⟨_,rfl,hb,done (.err _ _)⟩
abbrev rowC (es:List (Nat×SH)) (cs:List D) (e:TypeId) (c:EC) (m:TT cs->Option (T (.sl c))):Ctr:=⟨⟨es,[],[],[],0,cs⟩,[],[⟨.one (.one (.leaf (.row 0))),[(0,.row e c)],[],1,[.o (.sl c)]⟩],m⟩
theorem zmd {P : Program} {f : FuncId} {fn : Func} {es : List (Nat × SH)} {cs : List D} {e : TypeId} {c : EC} {m : TT cs -> Option (T (.sl c))} (hf : P.funcs[f]? = some fn) (hn : (fn.name == "runtime.NumGoroutine") = false) (hb : fn.body.isNone = false)
  (h:∀(κ:Kn) (x:TT cs) (y:T (.sl c)),m x=some y->WOk κ->∀vs:List Value,All2 (Rep1 κ) (SHs.fill id (es.map (·.2)) (dys cs x)).1 vs->Calls P f vs.toArray κ.w fun ex w'=>∃v us,ex=.returned v/\Below κ.w.heap.size κ.w w'/\ku w' e (szC c) v y.length us/\(∀b,yV v=some b->κ.w.heap.size<=b)/\v.oneCell'=true/\Xq κ.R w' c y us) :
  FnK P f (rowC es cs e c m) :=
 ⟨zdP hf hn hb,fun κ x y hm vs hr hH hW hN=>(h κ x y hm hW vs hr).mono fun ex w' ⟨v,us,he,hbe,h1,h4,h5,h2⟩=>by
  have hq:¬κ.N 0:=fun h=>absurd (hN 0 h) (Nat.lt_irrefl 0);have hfr:Fr (Touch κ (look []) []) κ.w w':=(Fr.of_below hbe).mono fun _ _ h=>h.elim;exact ⟨v,κ.bind 0 v w',he,rfl,XJ (x:=.row e c y) (v:=.one (.own 0)) (wr:=[]) (HOk.nil κ) hW hq hfr ⟨us,by rw [jH];exact h1,h2⟩ ⟨.inr rfl,jH.symm,h5⟩ fun _ b hb=>.inr (h4 b hb)⟩⟩
end G
end Go.Proofs.YtbijabmjbgplbaaGreatDoor
namespace Go.Proofs.YtbijabmjbgplbaaGreatDoor
open Go.ChangeShapes Go.WideShapes Go.RowKit
open Kit
namespace Rep
theorem wrap_u64 {n:Int} (h:0<=n) (h':n<=18446744073709551615):IntKind.u64.wrap n=n:=by rw [Md.JW];omega
theorem ziE (n:Nat) (hn:n<=16) (w:World):Calls Tryz.prog 347 #[.int .u64 1,.int .u64 n] w fun e w'=>e=.returned (.tuple #[.int .u64 0,.int .u64 n])/\w'=w:=by
 refine (Any.bits_Mul zet 1 n (by omega) (by omega) w).mono ?_;rintro e w' ⟨rfl,rfl⟩;have e1:1*n/18446744073709551616=0:=by omega
 have e2:1*n%18446744073709551616=n:=by omega
 rw [e1,e2];exact ⟨rfl,rfl⟩
theorem zoH:(Tryz.prog.info? 3).map (fun i=>(i.zero,i.size,i.bytes))=some (some (.int .i64 0),1,8):=by kernel_rfl
theorem zoe:(Tryz.prog.info? 3).map (·.size)=some 1:=by kernel_rfl
set_option maxHeartbeats 1000000 in
set_option maxRecDepth 10000 in
theorem core (b off c:Nat) (kk:Int) (n:Nat) (hn:n<=16) (w:World) (hb:b<w.heap.size) (hc:w.cell? ⟨b,off,none⟩=some (.int .i64 kk)) :
  Calls Tryz.prog 338 #[.slice (some ⟨b,off,none⟩) 1 c,.int .i64 n] w fun e w'=>∃v,e=.returned v/\w'.ownsRow w.heap.size 3 1 v n (List.replicate n (.int .i64 kk))/\Below w.heap.size w w':=by
 have e0:IntKind.u64.wrap (n:Int)=(n:Int):=wrap_u64 (by omega) (by omega);have e1:IntKind.i64.wrap (n:Int)=(n:Int):=Md.wrap_i64 (by omega) (by omega);have hmk:=run_make_row' (P:=Tryz.prog) 50 3 (.int .i64 0) 8 Tryz.underlying50 zoH rfl .i64 .i64 n (by omega) (by omega);have hml:(madeCells #[Value.int .i64 0] n).toList.length=n:=by simp [madeCells]
 go_enter Tryz.func338,Tryz.ntmps338
 go_wp2_with fail
 refine (ziE n hn w).mono ?_;rintro e w1 ⟨rfl,hw1⟩;have hb1:Below w.heap.size w w1:=by rw [hw1];exact Below.refl _ _
 clear hw1;have hc1:=ziq hb1 hc;have hz1:=hb1.size;have hcopy:=run_copy_row (P:=Tryz.prog) (w1.alloc (.cells (madeCells #[.int .i64 0] n) 3)) 50 50 3 3 w1.heap.size 0 n n ⟨b,off,none⟩ 1 c (madeCells #[.int .i64 0] n) 3 (List.replicate (min 1 n) (.int .i64 kk)) Tryz.underlying50 zoe (heap_alloc_new _ _) (by simp) (fun j v hv=>by
  have hj:=(List.getElem?_eq_some_iff.1 hv).1;have hj0:j=0:=by simp at hj;omega
  subst hj0;rw [List.getElem?_replicate] at hv;split at hv
  .injection hv with hv
   subst hv;exact (World.cell?_of_block (Below.heap_alloc _ _ _ (by simp [Addr.add];omega))).trans hc1
  .cases hv) (by simp [madeCells];omega) (fun v hv=>by rw [List.eq_of_mem_replicate hv];rfl)
 generalize hcur:((madeCells #[Value.int .i64 0] n).toList.take 0++List.replicate (min 1 n) (Value.int .i64 kk)++(madeCells #[Value.int .i64 0] n).toList.drop (0+(List.replicate (min 1 n) (Value.int .i64 kk)).length))=cur0 at hcopy;have hcl:cur0.length=n:=by rw [<-hcur];simp [madeCells];omega
 have hct:cur0.take (min 1 n)=List.replicate (min 1 n) (.int .i64 kk):=by rw [<-hcur];simp
 have hg0:((w1.alloc (.cells (madeCells #[.int .i64 0] n) 3)).setRow w1.heap.size cur0.toArray).heap[w1.heap.size]?=some (.cells cur0.toArray 3 (0,0)):=setRow_heap _ _ _ _ _ _ (heap_alloc_new _ _);have hb0:Below w.heap.size w ((w1.alloc (.cells (madeCells #[.int .i64 0] n) 3)).setRow w1.heap.size cur0.toArray):=below_setRow (Below.alloc hb1 hz1 _) hz1 _;clear hcur;have G:=Lib.hid hg0;clear hg0
 go_wp2_with fail
 go_loopw [8] (fun v wr=>∃(q:Nat) (cur:List Value),q<=n/\(0<n->0<q)/\v=.int .i64 q/\cur.length=n/\cur.take q=List.replicate q (.int .i64 kk)/\Hid (wr.heap[w1.heap.size]?=some (.cells cur.toArray 3 (0,0)))/\Below w.heap.size w wr) (fun v _=>n - (intOf v).toNat)
 case atStart=>exact ⟨min 1 n,cur0,by omega,by omega,by simp [goInt],hcl,hct,G,hb0⟩
 case round =>
  obtain ⟨q,cur,hq,hq0,rfl,hl,ht,hg,hbr⟩:=hrel;clear G hb0 hcopy hmk
  by_cases hlt:q<n
  .have hsrc:∀(w4:World),w4.heap[w1.heap.size]?=some (.cells cur.toArray 3 (0,0))->∀j v,(List.replicate (min q (n - q)) (Value.int .i64 kk))[j]?=some v->w4.cell? ((⟨w1.heap.size,0,none⟩:Addr).add j)=some v:=fun w4 h4 j v hv=>by
    have hj:=(List.getElem?_eq_some_iff.1 hv).1;simp at hj;rw [List.getElem?_replicate,if_pos (by omega)] at hv;have h5:cur[j]?=some (.int .i64 kk):=by
     have h6:(cur.take q)[j]?=some (.int .i64 kk):=by rw [ht,List.getElem?_replicate,if_pos (by omega)]
     rw [List.getElem?_take] at h6;split at h6
     .exact h6
     .cases h6
    injection hv with hv
    subst hv;have h7:(⟨w1.heap.size,0,none⟩:Addr).add j=⟨w1.heap.size,j,none⟩:=by unfold Addr.add;split<;>simp_all
    rw [h7,Lib.cell_of_heap h4];simpa using h5
   have hnq:¬n=q:=by omega
   have hcp:=run_copy_row (P:=Tryz.prog) wr.drew 50 50 3 3 w1.heap.size q (n - q) (n - q) ⟨w1.heap.size,0,none⟩ q n cur.toArray 3 (List.replicate (min q (n - q)) (.int .i64 kk)) Tryz.underlying50 zoe hg.out (by simp [Nat.min_def]) (hsrc _ hg.out) (by simp [hl];omega) (fun v hv=>by rw [List.eq_of_mem_replicate hv];rfl);generalize hcu:(cur.toArray.toList.take q++List.replicate (min q (n - q)) (Value.int .i64 kk)++cur.toArray.toList.drop (q+(List.replicate (min q (n - q)) (Value.int .i64 kk)).length))=cur' at hcp;have hcl':cur'.length=n:=by rw [<-hcu];simp [hl];omega
   have hct':cur'.take (q+min q (n - q))=List.replicate (q+min q (n - q)) (.int .i64 kk):=by
    rw [<-hcu,List.take_left' (by simp [hl];omega),List.toList_toArray,ht,List.replicate_append_replicate]
   have hg':(wr.drew.setRow w1.heap.size cur'.toArray).heap[w1.heap.size]?=some (.cells cur'.toArray 3 (0,0)):=setRow_heap _ _ _ _ _ _ hg.out;have hb':Below w.heap.size w (wr.drew.setRow w1.heap.size cur'.toArray):=below_setRow (Below.drew hbr) hz1 _;clear hcu;have eq1:IntKind.i64.wrap ((q:Int)+((min q (n - q):Nat):Int))=((q+min q (n - q):Nat):Int):=(Md.wrap_i64 (by omega) (by omega)).trans (by omega)
   go_wp2_with fail
   go_region_law (fail)
   simp [Act.put]
   go_wp2_with fail
   go_roundw
   case rel=>exact ⟨q+min q (n - q),cur',by omega,by omega,by simp [goInt,eq1],hcl',hct',Lib.hid hg',hb'⟩
   case measure=>simp [intOf,goInt,eq1];omega
  .obtain rfl:q=n:=by omega
   go_wp2_with fail
   go_ret
   refine ⟨_,rfl,⟨by simp,.inr ⟨w1.heap.size,q,cur.toArray,rfl,hz1,hg.out,Nat.le_refl _,by unfold maxLen;omega,by simp [hl],?_⟩⟩,hbr⟩;simpa using ht
end Rep
namespace G
theorem zaZ {w:World} {base:Nat} {e:TypeId} {size n:Nat} {v:Value} {xs:List Value} (h:w.ownsRow base e size v n xs):(∀b,yV v=some b->base<=b)/\v.oneCell'=true:=by
 rcases h.2 with ⟨rfl,_⟩|⟨g,cap,cur,rfl,hbg,_⟩
 .exact ⟨fun b hb=>(by cases hb),rfl⟩
 .refine ⟨fun b hb=>?_,rfl⟩
  cases cap with
  | zero=>cases hb
  | succ cap=>cases hb;exact hbg
theorem zkc (k:Nat):FnK Tryz.prog 338 (rowC [(0,sv (.sl .int)),(1,sv .int)] [.o (.sl .int),.o .int] 3 .int fun x=>Md.kL k x.1 x.2) :=
 zmd (fn:=Tryz.f338) (by kernel_rfl) (by kernel_rfl) (by kernel_rfl) fun κ x y hm hW vs hr=>by
  obtain ⟨a0,a1⟩:=x;obtain ⟨u,v,rfl,h1,h2⟩:=zhh hr;obtain rfl:=rv (u:=.int .i64 a1) h2;obtain ⟨⟨g1,g2,g3⟩,hm⟩:=Md.Xb hm;have g1:a0.length=1:=g1;have g2:0<=a1:=g2;have g3:a1<=16:=g3;have hm:List.replicate a1.toNat (a0.getD 0 0)=y:=Option.some.inj hm;subst hm;obtain ⟨kk,rfl⟩:∃kk,a0=[kk]:=by
   cases a0 with
   | nil=>cases g1
   | cons c l=>cases l with
    | nil=>exact ⟨c,rfl⟩
    | cons d l=>simp at g1
  have h1:RepF κ.R κ.w (.slc 1 (lsEl (cv .int) [kk])) u:=h1;rcases h1.QV with ⟨h,_⟩|⟨size,b,off,cap,vals,rfl,q1,q2,q3,q4,q5,q6,q7⟩
  .cases h
  .have hj:(lsEl (cv .int) [kk] 0)[0]?=some (.val (.int .i64 kk)):=rfl
   have hc:=q6 0 0 _ (by omega) hj;have hv:=q7 0 0 _ (by omega) hj;rw [rv hv] at hc;have hn:(⟨a1.toNat,by omega⟩:Fin 17).val=a1.toNat:=rfl;have:=Rep.core b off cap kk a1.toNat (by omega) κ.w q2 (by simpa using hc);rw [show ((a1.toNat:Nat):Int)=a1 by omega] at this;refine this.mono ?_;rintro e w' ⟨v,rfl,ho,hb⟩;have hl:(List.replicate a1.toNat ([kk].getD 0 0)).length=a1.toNat:=by simp
   refine ⟨v,_,rfl,hb,by rw [hl];exact ku.of ho,(zaZ ho).1,(zaZ ho).2,?_⟩;show All2 _ (flat .int (List.replicate a1.toNat kk)) _;generalize a1.toNat=m;clear this ho hl hn
   induction m with
   | zero=>exact .nil
   | succ m ih=>exact .cons (RepF.val _ rfl) ih
end G
end Go.Proofs.YtbijabmjbgplbaaGreatDoor
namespace Go.Proofs.YtbijabmjbgplbaaGreatDoor
open Go.ChangeShapes Go.WideShapes Go.RowKit
namespace G
abbrev mV:BS:=.mp .str (.st .Vari)
theorem znQ (k:Nat):FnK Tryz.prog 288 ⟨⟨[(0,.one (.leaf (.map 0)))],[(0,.rd mV)],[],[],1,[.o (.mp .str (.st .Vari))]⟩,[],[⟨.one (.one (.leaf (.map 1))),[(1,mV)],[],2,[.o (.mp .str (.st .Vari))]⟩],fun x=>Md.xK k x⟩ :=
 ⟨zdP (fn:=Tryz.f288) (by kernel_rfl) (by kernel_rfl) (by kernel_rfl),fun κ x y hm vs hr hH hW hN=>by
  have hm:x=y:=Option.some.inj hm;subst hm;obtain ⟨u,rfl,h1⟩:=zhg (show All2 (Rep1 κ) [.one (.m 0)] vs from hr);obtain ⟨_,rfl,_⟩:κ.N 0/\u=κ.ρ 0/\u.oneCell'=true:=h1;have hlook:look [(0,some (.rd (.mp .str (.st .Vari) x)))] 0=some (.rd (.mp .str (.st .Vari) x)):=by rw [kJ];rfl
  obtain ⟨b,es,clock,h2,h3,h4⟩:uO κ 0 (.mp .str (.st .Vari) x):=(hH.blk (id:=0) hlook).2;rw [h2];refine (AnyW.maps_Clone zng b es.toArray clock κ.w h3).mono ?_;rintro e w' ⟨rfl,rfl⟩;have hq:¬κ.N 1:=fun h=>absurd (hN 1 h) (Nat.lt_irrefl 1);have hB:Below κ.w.heap.size κ.w (κ.w.alloc (.map es.toArray clock)):=(Below.refl _ κ.w).alloc (Nat.le_refl _) _;have hfr:Fr (Touch κ (look [(0,some (.rd (.mp .str (.st .Vari) x)))]) []) κ.w (κ.w.alloc (.map es.toArray clock)):=(Fr.of_below hB).mono fun _ _ h=>h.elim;exact ⟨_,κ.bind 1 (.map (some κ.w.heap.size)) _,rfl,rfl,XJ (x:=.mp .str (.st .Vari) x) (v:=.one (.m 1)) (wr:=[]) hH hW hq hfr ⟨_,es,clock,by rw [jH],(MapKept.heap_alloc κ.w _).1,h4⟩ ⟨.inr rfl,jH.symm,rfl⟩ fun _ b hb=>.inr (by cases hb;exact Nat.le_refl _)⟩⟩
def T0:Ctab:=⟨fun _=>[],fun _=>none⟩
theorem znk (P:Program):VI P T0:=⟨fun _ _ h=>(by cases h),fun _ _ _ h=>(by cases h)⟩
def znN (P:Program) (e:TypeId) (n:Nat):Bool:=match P.info? e with
 | some i=>(match i.zero with
  | some z=>z.cells.size==n&&(i.size==n&&Nat.ble i.bytes 35184372)
  | none=>false)
 | none=>false
theorem zbg {P:Program} {ρ:Go.Shelf.Ren} {c:EC} (L:SlLaysE0.n41 P ρ) (hi:znN P (ρ.t 23) (szC c)=true) (hp:0<szC c) (hs:∀w,(Go.sizeOf (ρ.t 23)).run P w=.ok (szC c) w) :
  ∀(w:World) (b off n k:Nat) (news:List Value),news.length=n*szC c->0<n->n<=4000000->(∀j u,news[j]?=some u->w.cell? ⟨b,off+j,none⟩=some u)->(∀u∈news,u.oneCell'=true) ->
   Calls P (ρ.f 41) #[.slice (some ⟨b,off,none⟩) n k] w fun ex w'=>∃v',ex=.returned v'/\w'.ownsRow w.heap.size (ρ.t 23) (szC c) v' n news/\v'≠.slice none 0 0/\Below w.heap.size w w':=by
 intro w b off n k news h1 h2 h3 h4 h5;unfold znN at hi;split at hi
 .rename_i i0 hi0
  split at hi
  .rename_i z hz
   simp only [Bool.and_eq_true,beq_iff_eq,Nat.ble_eq] at hi;obtain ⟨a1,a2,a3⟩:=hi;have hb:n*i0.bytes<=140737488355328:=Nat.le_trans (Nat.mul_le_mul h3 a3) (by decide);exact AnyE.slices_Clone L i0 z (szC c) i0.bytes hi0 hz a2 rfl a1 hp hs b off n k news w h1 (by unfold maxLen;omega) hb h4 h5
  .cases hi
 .cases hi
abbrev clA (c:EC) (e:TypeId):List Alt:=[⟨.one (.one (.leaf (.row 0))),[(0,.row e c)],[],1,[.o (.sl c)]⟩]
theorem zcP {P : Program} {f : FuncId} {fn : Func} {e : TypeId} {c : EC} (hf : P.funcs[f]? = some fn) (hn : (fn.name == "runtime.NumGoroutine") = false) (hb : fn.body.isNone = false) (hp : 0 < szC c)
  (h0:(some []:Option (T (.sl c)))=zdU T0 noH 0 P fn ⟨⟨[(0,.one (.leaf .nilS))],[],[],[],0,[]⟩,[],clA c e,fun _=>some []⟩ ())
  (h1:∀x:T (.sl c),(Md.ifp (([]:List (T c)).length+x.length<=4000000) (some (([]:List (T c))++x)):Option (T (.sl c)))=zdU T0 noH 0 P fn ⟨⟨[(0,.one (.leaf (.nn (.sl c))))],[],[],[],0,[.o (.sl c)]⟩,[],clA c e,fun x=>Md.ifp (([]:List (T c)).length+x.length<=4000000) (some (([]:List (T c))++x))⟩ x)
  (h2:∀(w:World) (b off n k:Nat) (news:List Value),news.length=n*szC c->0<n->n<=4000000->(∀j u,news[j]?=some u->w.cell? ⟨b,off+j,none⟩=some u)->(∀u∈news,u.oneCell'=true) ->
   Calls P f #[.slice (some ⟨b,off,none⟩) n k] w fun ex w'=>∃v',ex=.returned v'/\w'.ownsRow w.heap.size e (szC c) v' n news/\v'≠.slice none 0 0/\Below w.heap.size w w'):Jz P f e c :=
 zjI (m0:=some []) (m:=fun x=>Md.ifp (([]:List (T c)).length+x.length<=4000000) (some (([]:List (T c))++x))) (zfN (znk P) hf (fun x=>h0) hn hb) (zfN (znk P) hf (fun x=>h1 x) hn hb) rfl rfl hp h2
theorem cl17:Jz Tryz.prog 17 3 .int:=zcP (fn:=Tryz.f17) (by kernel_rfl) (by kernel_rfl) (by kernel_rfl) (by decide) (by kernel_rfl) (by intro x;kernel_rfl) (zbg zjo (by kernel_rfl) (by decide) Tryz.sizeOf3)
theorem cl18:Jz Tryz.prog 18 9 .str:=zcP (fn:=Tryz.f18) (by kernel_rfl) (by kernel_rfl) (by kernel_rfl) (by decide) (by kernel_rfl) (by intro x;kernel_rfl) (zbg zjq (by kernel_rfl) (by decide) Tryz.sizeOf9)
theorem cl95:Jz Tryz.prog 95 112 (.st .Param):=zcP (fn:=Tryz.f95) (by kernel_rfl) (by kernel_rfl) (by kernel_rfl) (by decide) (by kernel_rfl) (by intro x;kernel_rfl) (zbg zjr (by kernel_rfl) (by decide) Tryz.sizeOf112)
theorem cl96:Jz Tryz.prog 96 53 (.st .Value):=zcP (fn:=Tryz.f96) (by kernel_rfl) (by kernel_rfl) (by kernel_rfl) (by decide) (by kernel_rfl) (by intro x;kernel_rfl) (zbg zjs (by kernel_rfl) (by decide) Tryz.sizeOf53)
def TC:Ctab:=⟨fun _=>[],fun f=>bif Nat.beq f 17 then some (3,.int) else bif Nat.beq f 18 then some (9,.str) else bif Nat.beq f 95 then some (112,.st .Param) else bif Nat.beq f 96 then some (53,.st .Value) else none⟩
theorem zox:VI Tryz.prog TC:=⟨fun _ _ h=>(by cases h),fun f e c h=>by
 have h:(bif Nat.beq f 17 then some (3,EC.int) else bif Nat.beq f 18 then some (9,.str) else bif Nat.beq f 95 then some (112,.st .Param) else bif Nat.beq f 96 then some (53,.st .Value) else none)=some (e,c):=h;cases h17:Nat.beq f 17
 .rw [h17,cond_false] at h
  cases h18:Nat.beq f 18
  .rw [h18,cond_false] at h
   cases h95:Nat.beq f 95
   .rw [h95,cond_false] at h
    cases h96:Nat.beq f 96
    .rw [h96,cond_false] at h;cases h
    .rw [h96,cond_true] at h;cases h;rw [Nat.eq_of_beq_eq_true h96];exact cl96
   .rw [h95,cond_true] at h;cases h;rw [Nat.eq_of_beq_eq_true h95];exact cl95
  .rw [h18,cond_true] at h;cases h;rw [Nat.eq_of_beq_eq_true h18];exact cl18
 .rw [h17,cond_true] at h;cases h;rw [Nat.eq_of_beq_eq_true h17];exact cl17⟩
structure TB where
 t:Ctab
 ok:VI Tryz.prog t
def TB.ad (T:TB) {f:FuncId} {ct:Ctr} (h:FnK Tryz.prog f ct):TB:=⟨zb8 f ct T.t,zej T.ok h⟩
def zn2 (k:Nat):TB:=(((((TB.mk TC zox).ad (zeY k)).ad (znP k)).ad (zgL k)).ad (zkc k)).ad (znQ k)
theorem TB.k (T : TB) (k : Nat) (f : FuncId) (fn : Func) (ct : Ctr) (hs : Hints) (h : ∀ x, ct.m x = zdU T.t hs k Tryz.prog fn ct x := by intro x; kernel_rfl) (hf : Tryz.prog.funcs[f]? = some fn := by kernel_rfl) (hn : (fn.name == "runtime.NumGoroutine") = false := by kernel_rfl) (hb : fn.body.isNone = false := by kernel_rfl) : FnK Tryz.prog f ct := zfN T.ok hf h hn hb
structure Mem (S:Type) where
 f:FuncId
 c:S->Ctr
def tabs {S:Type} (T:Ctab) (l:List (Mem S)) (r:S):Ctab:=l.foldl (fun t m=>zb8 m.f (m.c r) t) T
section
variable {S:Type} {T:Ctab} {k:Nat} {z:S} {step:S->S} {l0:List (Mem S)}
structure znf (T:Ctab) (k:Nat) (z:S) (step:S->S) (l0:List (Mem S)) (m:Mem S) (fn:Func) (h:Hints):Prop where
 z:∀x,(m.c z).m x=none
 h:∀r x,(m.c (step r)).m x=zdU (tabs T l0 r) h k Tryz.prog fn (m.c (step r)) x
 f:Tryz.prog.funcs[m.f]?=some fn
 n : (fn.name == "runtime.NumGoroutine") = false
 b:fn.body.isNone=false
def zdv (T:Ctab) (k:Nat) (z:S) (step:S->S) (l0:List (Mem S)):List (Mem S)->Prop
 | []=>True
 | m::l=>(∃fn h,znf T k z step l0 m fn h)/\zdv T k z step l0 l
theorem gn:zdv T k z step l0 []:=trivial
theorem gc {m:Mem S} {l:List (Mem S)} (t:zdv T k z step l0 l) (fn:Func) (hs:Hints) (h0:∀x,(m.c z).m x=none:=by intro x;kernel_rfl) (h:∀r x,(m.c (step r)).m x=zdU (tabs T l0 r) hs k Tryz.prog fn (m.c (step r)) x:=by intro r x;kernel_rfl)
  (hf : Tryz.prog.funcs[m.f]? = some fn := by kernel_rfl) (hn : (fn.name == "runtime.NumGoroutine") = false := by kernel_rfl) (hb : fn.body.isNone = false := by kernel_rfl) : zdv T k z step l0 (m :: l) := ⟨⟨fn, hs, h0, h, hf, hn, hb⟩, t⟩
theorem zdv.mem:∀{l:List (Mem S)},zdv T k z step l0 l->∀m,m∈l->∃fn h,znf T k z step l0 m fn h
 | [],_,m,hm=>by cases hm
 | a::l,h,m,hm=>by
  rcases List.mem_cons.1 hm with rfl|hm
  .exact h.1
  .exact zdv.mem h.2 m hm
theorem zfi {r:S}:∀{l:List (Mem S)} {T:Ctab},VI Tryz.prog T->(∀m,m∈l->FnK Tryz.prog m.f (m.c r))->VI Tryz.prog (tabs T l r)
 | [],T,ht,_=>ht
 | a::l,T,ht,h=>zfi (l:=l) (zej ht (h a (List.mem_cons_self ..))) fun m hm=>h m (List.mem_cons_of_mem _ hm)
end
def TB.scc {S:Type} (T:TB) (k:Nat) (z:S) (step:S->S) (l:List (Mem S)) (hg:zdv T.t k z step l l):TB:=⟨tabs T.t l (Nat.rec z (fun _ r=>step r) k),by
 have key:∀n:Nat,VI Tryz.prog (tabs T.t l (Nat.rec z (fun _ r=>step r) n)):=fun n=>by
  induction n with
  | zero=>exact zfi T.ok fun m hm=>(hg.mem m hm).elim fun _ ⟨_,g⟩=>zj1 g.z (zdP g.f g.n g.b)
  | succ n ih=>exact zfi T.ok fun m hm=>(hg.mem m hm).elim fun _ ⟨_,g⟩=>zfN ih g.f (fun x=>g.h _ x) g.n g.b
 exact key k⟩
end G
end Go.Proofs.YtbijabmjbgplbaaGreatDoor
