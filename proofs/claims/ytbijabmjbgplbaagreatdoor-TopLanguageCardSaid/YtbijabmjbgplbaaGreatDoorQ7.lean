import Derived.Test.YtbijabmjbgplbaaGreatDoorQ6
import Derived.Test.YtbijabmjbgplbaaGreatDoorQ4
import Derived.Test.YtbijabmjbgplbaaGreatDoorQ5
import Derived.KernelRfl
set_option linter.unusedVariables false
set_option linter.unusedSimpArgs false
namespace Go.Proofs.YtbijabmjbgplbaaGreatDoor
namespace Md
abbrev ST1:=zL×zH×Bool×(List Value)×(List Value)×(List Effect)×(List zi)
abbrev ST2:=zL×(List Value)×(List Effect)×zH×(List Value)×(List zi)
abbrev SV1:=Value×zL×zH×Bool×(List Value)×(List Effect)×(List zi)
abbrev SV2:=Value×zL×(List Value)×(List Effect)×zH×(List zi)
def BOk (B:zH):Prop:=B.limit=300/\0<=B.rounds/\B.rounds<=300
def mua (ins:List Input) (A:zL) (B:zH):Nat:=((ins.length:Int) - A.next).toNat*301+B.rounds.toNat
structure Rl (X:VX) (t:zq) (st:List State) (b:Body) (ns:List Node) (ins:List Input) (A:zL) (B:zH) (sg:List zi) (s:VS) (A':zL) (B':zH) (sg':List zi) (s':VS):Prop where
 a:TA X b ns ins A'
 bo:BOk B'
 len:(sg'.length:Int)+1=A'.next
 w:WT X t st s'
 mu:mua ins A' B'<=mua ins A B
 ok:∃new,sg'=sg++new/\∀l,OKs X ins A'.next.toNat s' l->OKs X ins A.next.toNat s (new++l)
def Dn (X:VX) (ins:List Input) (A:zL) (sg:List zi) (s:VS) (sg':List zi):Prop:=∃new,sg'=sg++new/\OKs X ins A.next.toNat s new
section
variable {X:VX} {t:zq} {st:List State} {p:Program} {b:Body} {ns:List Node} {ins:List Input} {D:Int->Prop} {A A' A'':zL} {B B' B'':zH} {s s' s'':VS} {sg sg' sg'':List zi} {i:Int} {z m:Nat}
theorem Rl.self (ha:TA X b ns ins A) (hb:BOk B) (hl:(sg.length:Int)+1=A.next) (w:WT X t st s):Rl X t st b ns ins A B sg s A B sg s:=⟨ha,hb,hl,w,Nat.le_refl _,[],by simp,fun l h=>h⟩
theorem Rl.tr (h:Rl X t st b ns ins A B sg s A' B' sg' s') (k:Rl X t st b ns ins A' B' sg' s' A'' B'' sg'' s''):Rl X t st b ns ins A B sg s A'' B'' sg'' s'':=by
 obtain ⟨n1,e1,o1⟩:=h.ok;obtain ⟨n2,e2,o2⟩:=k.ok;exact ⟨k.a,k.bo,k.len,k.w,Nat.le_trans k.mu h.mu,n1++n2,by rw [e2,e1,List.append_assoc],fun l hl=>by rw [List.append_assoc];exact o1 _ (o2 _ hl)⟩
theorem Rl.go (hC:VC X t st) (h:Rl X t st b ns ins A B sg s A' B' sg' s') (k:Steps X s' s''):Rl X t st b ns ins A B sg s A' B' sg' s'':=by
 obtain ⟨n1,e1,o1⟩:=h.ok;exact ⟨h.a,h.bo,h.len,k.wt hC h.w,h.mu,n1,e1,fun l hl=>o1 _ (hl.steps k)⟩
theorem Rl.dn (h:Rl X t st b ns ins A B sg s A' B' sg' s') (k:Dn X ins A' sg' s' sg''):Dn X ins A sg s sg'':=by
 obtain ⟨n1,e1,o1⟩:=h.ok;obtain ⟨n2,e2,o2⟩:=k;exact ⟨n1++n2,by rw [e2,e1,List.append_assoc],o1 _ o2⟩
theorem Rl.sl (h:Rl X t st b ns ins A B sg s A' B' sg' s') (hl:ins.length<=8):sg'.length<=1000:=by
 have:=h.len;have:=h.a.nx;omega
theorem zdK {e:Int} (h:Steps X s s') (x:Ex X s' (.er e)):Dn X ins A sg s (sg++[zfj ins A e]):=⟨_,rfl,.steps h (.er x)⟩
def VQ (X:VX) (t:zq) (st:List State) (b:Body) (ns:List Node) (ins:List Input) (A:zL) (B:zH) (sg:List zi) (s:VS) (z:Nat) (K:Int->Prop) (o:SV1 ⊕ SV2):Prop:=(∃v k A' B' fi ef sg',o=.inl (v,A',B',false,fi,ef,sg')/\K k/\Rl X t st b ns ins A B sg s A' B' sg' ⟨z,s.lo,fi,rpl k v,ef⟩)\/(∃v A' B' fi ef sg',o=.inl (v,A',B',true,fi,ef,sg')/\Dn X ins A sg s sg')\/∃v A' fi ef B' sg',o=.inr (v,A',fi,ef,B',sg')/\Dn X ins A sg s sg'
structure PC (X:VX) (p:Program) (b:Body) (ns:List Node) (D:Int->Prop):Prop where
 ki:∀j,D j->opAt ns j=7->∃m,zcd p (nd ns j).Name (nd ns j).Value.S=some m/\kdOf b j=m.Result
 cp:∀nm mn m,zcd p nm mn=some m->∀x:Instr,x.A=tyI p.Types nm->x.B=meI (p.Types.getD (tyI p.Types nm).toNat default).Methods mn->(X.c.Types.getD x.A.toNat default).Name=nm/\(xJ X.c x).Name=mn/\(xJ X.c x).Params.length=m.Params.length/\(xJ X.c x).Result=m.Result
theorem ze1 (hp:PK X t st p b ns ins D) (hA:TA X b ns ins A) (hsg:sg.length<=1000) (w:WT X t st s) {ks:List Int} (hk:∀k∈ks,∀n,2*k.toNat+2<=n->EvT X t st p b ns ins k n) (hkl:∀k∈ks,k.toNat<=1500) (hl:ks.length<=6100) (hc:CL p ns b X.m.Code ks s.pc z):Tot (xY K ks A B false s.fi s.lo s.ef sg) (LQ X ins A B sg s z ks.length) :=
 zlk (m:=4999999) hp hA hsg w (fun k h=>hk k h _ (by have:=hkl k h;omega)) hl hc
theorem zhE (hp:PK X t st p b ns ins D) (hpc:PC X p b ns D) (hA:TA X b ns ins A) (hB:BOk B) (hsg:(sg.length:Int)+1=A.next) (w:WT X t st s) (hst:s.st=[]) (h0:0<=i) (h1:i<(ns.length:Int)) (ho:opAt ns i=7) (htw:TW p ns D i) (hce:CE p ns b X.m.Code i s.pc z):Tot (ZL K i A B false s.fi s.lo s.ef sg) (VQ X t st b ns ins A B sg s z fun k=>k=kdOf b i):=by
 have hC:=hp.xc.v;have hcl:=hC.c.len;have hil:=hp.il;have hnx:=hA.nx;have hir:0<=i/\i<(ns.length:Int):=⟨h0,h1⟩;have ko:KO ns (nd ns i):=hp.vn.b.ko i.toNat (by omega);have hkl:=hp.vn.kl h0 h1;have hnl:=hp.vn.l;obtain ⟨hlc,htk⟩:LC p ns D i/\∀k∈(nd ns i).Kids,TW p ns D k:=by cases htw with|mk h k=>exact ⟨h,k⟩
 have o2:∀{j:Int},opAt ns i=j->(nd ns i).Op=j:=fun h=>h;have kk:∀k∈(nd ns i).Kids,exK ns k:=by cases ko<;>first|assumption|(exfalso;have:=o2 ho;omega)
 obtain ⟨mt,hlook,hkn,hDi⟩:=hlc.1 ho;obtain ⟨mt',hlook',hkd⟩:=hpc.ki i hDi ho;obtain rfl:mt=mt':=Option.some.inj (hlook.symm.trans hlook');unfold ZL;rw [zc7 hA hir];have hop:(A.nodes.getD i.toNat default)=nd ns i:=by rw [hA.nsE]
 simp only [hop];cases hce with
 | @call _ _ z o k h =>
  obtain ⟨e1,e2⟩:=at_e h;obtain ⟨c1,c2,c3,c4⟩:=hpc.cp _ _ _ hlook (X.at_ z) (by rw [e1]) (by rw [e1]);have hok:okI X.c t X.m (X.at_ z):=hC.c.ok.i _ (getD_mem e2);have hAB:=hok.call (by rw [e1]);refine tB (ze1 hp hA (by omega) w (fun k hk n hn=>by
   have:=hp.vn.kid h0 h1 hk;exact zfI hp (k.toNat+1) k (by omega) this.1 (by omega) (kk k hk) (htk k hk) n hn) (fun k hk=>by have:=hp.vn.kid h0 h1 hk;omega) hkl k) fun y hy=>?_
  rcases hy with ⟨l,rfl,hl,hs⟩|⟨v,e,s',rfl,hv,hx⟩
  rotate_left
  .exact tTt rfl (tS (.inr (.inl ⟨_,_,_,_,_,_,rfl,zdK hv hx⟩)))
  refine tFf rfl ?_;rw [hst,List.nil_append] at hs;have w':=hs.wt hC w;cases l with
  | nil =>
   have hl':0=(nd ns i).Kids.length:=hl;omega
  | cons v args =>
   have hl':args.length+1=(nd ns i).Kids.length:=hl;have hal:args.length=(xJ X.c (X.at_ z)).Params.length:=by rw [c3];omega
   have hcp:∀u∈args,cpOk u:=fun u hu=>w'.stk.cp u (List.mem_cons_of_mem _ hu);have h40:=w'.s40 hC;simp only [List.length_cons] at h40;have hx:=zh6 (X:=X) (lo:=s.lo) (fi:=s.fi) (S:=[]) (ef:=s.ef) (v:=v) e2 hcl (by simp) (by rw [e1]) hAB.1 hAB.2 hal (by omega) hcp;rw [List.nil_append,c1,c2] at hx;refine tB (P:=fun o=>(v.S.length<=32/\o=.inl (v::args))\/(v.S.length>32/\o=.inr (.inl (vz,A,B,true,s.fi,s.ef,sg++[zfj ins A 5])))) (tI (by simp) fun _=>tI (by simp) fun _=>tD (fun q=>?_) fun q=>tS (.inl ⟨by simp at q;omega,rfl⟩)) fun o ho=>?_
   .rw [zem hp hA (show sg.length<=1000 by omega),zu]
    exact tS (.inr ⟨by simp at q;omega,rfl⟩)
   rcases ho with ⟨q,rfl⟩|⟨q,rfl⟩
   rotate_left
   .rw [if_pos q] at hx
    exact tS (.inr (.inl ⟨_,_,_,_,_,_,rfl,zdK hs hx⟩))
   rw [if_neg (by omega)] at hx;have hclx:∀(n:Nat),OKs X ins n s [seg 2 vz ⟨⟨(nd ns i).Name,v.S⟩,(nd ns i).Value.S,args⟩ 0 s.fi s.ef]:=fun n=>.steps hs (OKs.clx (s':=⟨z+1,s.lo,s.fi,[],s.ef⟩) hx);refine tI (by simp) fun _=>tI (by simp) fun _=>?_;rw [show yM K ((v::args).drop 1)=some args from Qk (l:=args) (by omega) hcp,zu];refine tI (by simp;omega) fun _=>?_;refine tE (fun e=>tS (.inr (.inr ⟨_,_,_,_,_,_,rfl,_,rfl,hclx _⟩))) fun e=>?_;rw [hA.inE] at e ⊢;have hlt:A.next.toNat<ins.length:=by simp only at e;omega
   refine tI (by simp only;omega) fun _=>?_;refine tB (P:=fun k=>k=kdOf b i) ?_ fun k hk=>?_
   .unfold XO Yx
    simp only [hA.bE,zu];exact tS rfl
   subst hk;refine tB (zcG (l:=[(inp ins A.next.toNat).vY]) (by simp)) fun fb hfb=>?_;refine tC (fun e=>tS (.inr (.inr ⟨_,_,_,_,_,_,rfl,_,rfl,hclx _⟩))) fun e=>?_;have hfit:=hfb.1 (by simpa using e);have hre:=hfit.2 0 (by simp);have hri:=hp.ii.r A.next.toNat hlt;have hfi:=hp.ii.f A.next.toNat hlt;have hf1:=hfi.1;have hfl:=hC.fl;rw [List.length_map] at hf1;refine tI (by simp only;omega) fun _=>?_;rw [show yM K [_]=some [(inp ins A.next.toNat).vY] from zfy hre.2.cp,zu];refine tI (by simp) fun _=>tI (by simp) fun _=>?_;unfold YX;rw [hA.inE];refine tB (P:=fun y=>y=(⟨A.info,A.typ,A.at_,A.nodes,A.key,ins,A.next+1⟩,⟨B.limit,B.limit⟩,false,(inp ins A.next.toNat).Fields)) (tI (by simp only;omega) fun _=>?_) fun y hy=>?_
   .rw [show yM K (ins.getD A.next.toNat default).Fields=_ from Qk (show (inp ins A.next.toNat).Fields.length<=4000000 by omega) hfi.cp,zu]
    refine tS ?_;rw [W_id (by omega) (by omega)]
   subst hy;refine tS (.inl ⟨_,_,_,_,_,_,_,rfl,rfl,?_⟩);have hfit':FitL [(inp ins A.next.toNat).vY] [(xJ X.c (X.at_ z)).Result]:=by rw [c4,<-hkd];exact hfit
   have hw:WT X t st ⟨z+1,s.lo,(inp ins A.next.toNat).Fields,rpl (kdOf b i) (inp ins A.next.toNat).vY,[]⟩:=by
    cases sound hC w' with
    | go a y w=>cases hx.det y
    | er e y=>cases hx.det y
    | fi a v y=>cases hx.det y
    | cl a c' y o hp' w3 =>
     cases hx.det y;have:=w3 _ _ hfi (zn8 hp.ii hlt hfit' rfl);rw [show (xJ X.c (X.at_ z)).Result=kdOf b i by rw [c4,hkd]] at this;exact this
   have hnn:(A.next+1).toNat=A.next.toNat+1:=by omega
   refine ⟨⟨hA.nsE,hA.keyE,rfl,by simp only;omega,hA.bE⟩,⟨hB.1,by simp only;have:=hB.1;omega,by simp only;have:=hB.1;omega⟩,by simp;omega,hw,?_,_,rfl,fun l hl=>?_⟩
   .unfold mua
    simp only [hB.1];rw [show ((ins.length:Int) - (A.next+1)).toNat=((ins.length:Int) - A.next).toNat - 1 by omega];have:1<=((ins.length:Int) - A.next).toNat:=by omega
    generalize ((ins.length:Int) - A.next).toNat=q at *;have:(q - 1)*301+301=q*301:=by omega
    show (q - 1)*301+300<=_;omega
   .refine .steps hs ?_
    rw [hnn] at hl;have:=OKs.cl (ins:=ins) (n:=A.next.toNat) (l:=l) hx hlt hfit' (by rw [show (xJ X.c (X.at_ z)).Result=kdOf b i by rw [c4,hkd]];exact hl);exact this
 | _=>exfalso;omega
end
end Md
end Go.Proofs.YtbijabmjbgplbaaGreatDoor
namespace Go.Proofs.YtbijabmjbgplbaaGreatDoor
namespace Md
def SQ (X:VX) (t:zq) (st:List State) (b:Body) (ns:List Node) (ins:List Input) (A:zL) (B:zH) (sg:List zi) (s:VS) (z:Nat) (E:Prop) (o:ST1 ⊕ ST2):Prop:=(∃A' B' fi lo ef sg',o=.inl (A',B',false,fi,lo,ef,sg')/\¬E/\Rl X t st b ns ins A B sg s A' B' sg' ⟨z,lo,fi,[],ef⟩)\/(∃A' B' fi lo ef sg',o=.inl (A',B',true,fi,lo,ef,sg')/\Dn X ins A sg s sg')\/∃A' fi ef B' lo sg',o=.inr (A',fi,ef,B',lo,sg')/\Dn X ins A sg s sg'
section
variable {X:VX} {t:zq} {st:List State} {p:Program} {b:Body} {ns:List Node} {ins:List Input} {D:Int->Prop} {A A' A'':zL} {B B' B'':zH} {s s' s'':VS} {sg sg' sg'':List zi} {i:Int} {z m:Nat} {E E':Prop} {o:ST1 ⊕ ST2}
theorem SQ.up (h:Rl X t st b ns ins A B sg s A' B' sg' s') (k:SQ X t st b ns ins A' B' sg' s' z E o):SQ X t st b ns ins A B sg s z E o:=by
 rcases k with ⟨a1,a2,a3,a4,a5,a6,e,ne,hr⟩|⟨a1,a2,a3,a4,a5,a6,e,hd⟩|⟨a1,a2,a3,a4,a5,a6,e,hd⟩
 .exact .inl ⟨a1,a2,a3,a4,a5,a6,e,ne,h.tr hr⟩
 .exact .inr (.inl ⟨a1,a2,a3,a4,a5,a6,e,h.dn hd⟩)
 .exact .inr (.inr ⟨a1,a2,a3,a4,a5,a6,e,h.dn hd⟩)
theorem zhV (h:EN ns i):opAt ns i=13\/opAt ns i=14\/(opAt ns i=11/\(nd ns i).Kids.length=3)\/opAt ns i=18:=by
 cases h with
 | fin h=>omega
 | br h l=>exact .inr (.inr (.inl ⟨h,l⟩))
 | blk h=>omega
theorem zo3 (hC:VC X t st) {S:List Value} (w:WT X t st ⟨z,s.lo,s.fi,S,s.ef⟩) (h:(X.at_ z).Op=3\/(X.at_ z).Op=5\/(X.at_ z).Op=31):S≠[]:=by
 obtain ⟨r,⟨⟨S',a,q,he,h1,h2,h3⟩,hl40⟩,hj⟩:=(hC.f.inv.done z (by rw [hC.f.inv.len];exact w.pc) w.re (by simp)).ex;have he':Ef X.c t X.m (X.at_ z) a q:=he;have hl:=w.stk.1;intro e;rw [h1] at hl;simp only [e,List.length_nil,List.length_append] at hl;have ha:a.length=0:=by omega
 cases he'<;>first|(simp at ha;done)|(exfalso;omega)|(rename_i h';exfalso;omega)|(rename_i h' _;exfalso;omega)|(rename_i _ h';exfalso;omega)
theorem zoR {k:Int} {v:Value} (h:rpl k v≠[]):rpl k v=[v]:=by
 unfold rpl at *;split
 .rename_i e;rw [if_pos e] at h;exact absurd rfl h
 .rfl
structure At (p:Program) (b:Body) (ns:List Node) (D:Int->Prop) (i:Int):Prop where
 h0:0<=i
 h1:i<(ns.length:Int)
 tw:TW p ns D i
theorem At.kid (hp:PK X t st p b ns ins D) (h:At p b ns D i) {k:Int} (hk:k∈(nd ns i).Kids):At p b ns D k/\k<i:=by
 have:=hp.vn.kid h.h0 h.h1 hk;have htk:∀k∈(nd ns i).Kids,TW p ns D k:=by cases h.tw with|mk h k=>exact k
 exact ⟨⟨this.1,by have:=h.h1;omega,htk k hk⟩,this.2⟩
theorem At.ev (hp:PK X t st p b ns ins D) (h:At p b ns D i) (hx:exK ns i):∀n,2*i.toNat+2<=n->EvT X t st p b ns ins i n:=zfI hp (i.toNat+1) i (by omega) h.h0 h.h1 hx h.tw
theorem At.le (hp:PK X t st p b ns ins D) (h:At p b ns D i):i.toNat<=1500:=by
 have:=hp.vn.l;have:=h.h1;omega
theorem zm8 (hp:PK X t st p b ns ins D) (hpc:PC X p b ns D) (hA:TA X b ns ins A) (hB:BOk B) (hsg:(sg.length:Int)+1=A.next) (w:WT X t st s) (hst:s.st=[]) (ha:At p b ns D i) (ho:exK ns i\/opAt ns i=7) (hce:CE p ns b X.m.Code i s.pc z):Tot (Zn K i A B false s.fi s.lo s.ef sg) (VQ X t st b ns ins A B sg s z fun _=>True):=by
 unfold Zn;rw [zc7 hA ⟨ha.h0,ha.h1⟩];have hop:(A.nodes.getD i.toNat default).Op=opAt ns i:=by rw [hA.nsE];rfl
 rw [hop];have hil:=hp.il;have hnx:=hA.nx;refine tE (fun e=>?_) fun e=>?_
 .refine tB (zhE hp hpc hA hB hsg w hst ha.h0 ha.h1 e ha.tw hce) fun o h=>?_
  rcases h with ⟨v,k,a1,a2,a3,a4,a5,rfl,hk,hr⟩|⟨v,a1,a2,a3,a4,a5,rfl,hd⟩|⟨v,a1,a2,a3,a4,a5,rfl,hd⟩
  .exact tS (.inl ⟨v,k,a1,a2,a3,a4,a5,rfl,trivial,hr⟩)
  .exact tS (.inr (.inl ⟨v,a1,a2,a3,a4,a5,rfl,hd⟩))
  .exact tS (.inr (.inr ⟨v,a1,a2,a3,a4,a5,rfl,hd⟩))
 .have hx:=ho.resolve_right e
  show Tot ((zD K i A B false s.fi s.lo s.ef sg).bind fun x=>dis (zx.at K K) A B false s.fi s.lo s.ef sg x fun y=>some ((.inl (y.1,y.2.1,y.2.2.1,y.2.2.2.1,s.fi,s.ef,y.2.2.2.2)):SV1 ⊕ SV2)) _;refine zaN (ha.ev hp hx K (by have:=ha.le hp;show _<=5000000;omega) A B sg s z hA (by omega) w hce) fun y hy=>?_;rcases hy with ⟨v,rfl,hv⟩|⟨v,e,s',rfl,hv,hx⟩
  .rw [hst] at hv
   exact tS (.inl ⟨v,1,_,_,_,_,_,rfl,trivial,(Rl.self hA hB hsg w).go hp.xc.v hv⟩)
  .exact tS (.inr (.inl ⟨v,_,_,_,_,_,rfl,zdK hv hx⟩))
theorem cl1 {c:List Instr} {ks:List Int} {a:Nat} (h:CL p ns b c ks a z) (hl:ks.length=1):CE p ns b c (ks.getD 0 default) a z:=by
 match ks,hl with
 | [k],_ =>
  cases h with
  | cons h t=>cases t;exact h
theorem zoB (hp:PK X t st p b ns ins D) (hpc:PC X p b ns D) (hA:TA X b ns ins A) (hB:BOk B) (hsg:(sg.length:Int)+1=A.next) (w:WT X t st s) (hst:s.st=[]) (ha:At p b ns D i) (ho:opAt ns i=8\/opAt ns i=9) (hk1:(nd ns i).Kids.length=1) (hk:∀k∈(nd ns i).Kids,exK ns k\/opAt ns k=7) {C:List Instr} (k:CL p ns b X.m.Code (nd ns i).Kids s.pc z) (h:X.m.Code[z]?=some (mkI (if (vaOf b i).field then 5 else 3) (vaOf b i).slot 0)) :
  Tot ((Zn K ((nd ns i).Kids.getD 0 default) A B false s.fi s.lo s.ef sg).bind fun x2=>onS x2 (fun x3=>bif (!x3.2.2.2.1) then ((uH K i x3.2.1 x3.2.2.1 x3.2.2.2.1 x3.2.2.2.2.1 s.lo x3.2.2.2.2.2.1 x3.2.2.2.2.2.2).bind fun x5=>onS x5 (fun x6=>ifp (x6<x3.2.2.2.2.1.length)<|some ((.inl (x3.2.1,x3.2.2.1,x3.2.2.2.1,(x3.2.2.2.2.1.set x6 x3.1),s.lo,x3.2.2.2.2.2.1,x3.2.2.2.2.2.2)):ST1 ⊕ ST2)) (fun x7=>ifp (x7<s.lo.length)<|some (.inl (x3.2.1,x3.2.2.1,x3.2.2.2.1,x3.2.2.2.2.1,(s.lo.set x7 x3.1),x3.2.2.2.2.2.1,x3.2.2.2.2.2.2)))) else (some (.inl (x3.2.1,x3.2.2.1,x3.2.2.2.1,x3.2.2.2.2.1,s.lo,x3.2.2.2.2.2.1,x3.2.2.2.2.2.2)))) (fun x4=>some (.inr (x4.2.1,x4.2.2.1,x4.2.2.2.1,x4.2.2.2.2.1,s.lo,x4.2.2.2.2.2)))) (SQ X t st b ns ins A B sg s (z+1) (EN ns i)):=by
 have hC:=hp.xc.v;have hm:=getD_mem (l:=(nd ns i).Kids) (i:=0) (by omega);obtain ⟨hak,_⟩:=ha.kid hp hm;obtain ⟨e1,e2⟩:=at_e h;have hok:okI X.c t X.m (X.at_ z):=hC.c.ok.i _ (getD_mem e2);refine tB (zm8 hp hpc hA hB hsg w hst hak (hk _ hm) (cl1 k hk1)) fun o hv=>?_;rcases hv with ⟨v,k,a1,a2,a3,a4,a5,rfl,hk,hr⟩|⟨v,a1,a2,a3,a4,a5,rfl,hd⟩|⟨v,a1,a2,a3,a4,a5,rfl,hd⟩
 rotate_left
 .dsimp only [onS]
  exact tFf rfl (tS (.inr (.inl ⟨_,_,_,_,_,_,rfl,hd⟩)))
 .exact tS (.inr (.inr ⟨_,_,_,_,_,_,rfl,hd⟩))
 have hw:=hr.w;have hne:rpl k v=[v]:=zoR (zo3 (s:=⟨z,s.lo,a3,rpl k v,a4⟩) hC hw (by rw [e1];show (if _ then (5:Int) else 3)=3\/_;split<;>simp));rw [hne] at hr hw;have hcp:cpOk v:=hw.stk.cp v (by simp);have hnen:¬EN ns i:=fun e=>by have:=zhV e;omega
 dsimp only [onS];refine tTt rfl ?_;have hl1:s.lo.length=X.m.zK.length:=hw.lo;have hl2:a3.length=t.Fields.length:=by have:=hw.fi.1;rw [List.length_map] at this;exact this
 simp only [zon hr.a];cases hfd:(vaOf b i).field with
 | true =>
  rw [hfd] at e1;have hA':=hok.fld (.inr (by rw [e1];rfl));rw [e1] at hA';have hA2:0<=(vaOf b i).slot/\(vaOf b i).slot<(t.Fields.length:Int):=hA';have hx:=zlc (X:=X) (lo:=s.lo) (fi:=a3) (S:=[]) (ef:=a4) (v:=v) e2 hC.c.len (by simp) (by rw [e1];rfl) (by rw [e1];show 0<=(vaOf b i).slot/\_;omega) hcp;rw [e1,List.nil_append] at hx;rw [cond_true,zy (by omega),zu];refine tI (by omega) fun _=>tS (.inl ⟨_,_,_,_,_,_,rfl,hnen,hr.go hC (.tl hx .rfl)⟩)
 | false =>
  rw [hfd] at e1;have hA':=hok.loc (.inr (by rw [e1];rfl));rw [e1] at hA';have hA2:0<=(vaOf b i).slot/\(vaOf b i).slot<(X.m.zK.length:Int):=hA';have hx:=zfJ (X:=X) (lo:=s.lo) (fi:=a3) (S:=[]) (ef:=a4) (v:=v) e2 hC.c.len (by simp) (by rw [e1];rfl) (by rw [e1];show 0<=(vaOf b i).slot/\_;omega) hcp;rw [e1,List.nil_append] at hx;rw [cond_false,zy (by omega),zu];refine tI (by omega) fun _=>tS (.inl ⟨_,_,_,_,_,_,rfl,hnen,hr.go hC (.tl hx .rfl)⟩)
theorem zlP (hp:PK X t st p b ns ins D) (hA:TA X b ns ins A) (hB:BOk B) (hsg:(sg.length:Int)+1=A.next) (w:WT X t st s) (hst:s.st=[]) (ha:At p b ns D i) {kd:Int} (ho:(kd=1/\(nd ns i).Kids.length=2)\/(kd=2/\(nd ns i).Kids.length=3)\/(kd=3/\(nd ns i).Kids.length=1)) (hk:∀k∈(nd ns i).Kids,exK ns k) (k:CL p ns b X.m.Code (nd ns i).Kids s.pc z) (h:X.m.Code[z]?=some (mkI (33+kd) 0 0)) (hE:¬E) :
  Tot ((Zm K (nd ns i) kd A B false s.fi s.lo s.ef sg).bind fun x20=>some ((.inl (x20.1,x20.2.1,x20.2.2.1,s.fi,s.lo,x20.2.2.2.1,x20.2.2.2.2)):ST1 ⊕ ST2)) (SQ X t st b ns ins A B sg s (z+1) E):=by
 have hC:=hp.xc.v;have hil:=hp.il;have hnx:=hA.nx;obtain ⟨e1,e2⟩:=at_e h;unfold Zm;refine tB (P:=fun r=>(∃g,r=(A,B,false,s.ef++[g],sg)/\Steps X s ⟨z+1,s.lo,s.fi,[],s.ef++[g]⟩)\/∃e s',r=(A,B,true,s.ef,sg++[zfj ins A e])/\Steps X s s'/\Ex X s' (.er e)) (tB (ze1 hp hA (by omega) w (fun k hk'=>(ha.kid hp hk').1.ev hp (hk k hk')) (fun k hk'=>(ha.kid hp hk').1.le hp) (by omega) k) fun y hy=>?_) fun r hr=>?_
 .rcases hy with ⟨l,rfl,hl,hs⟩|⟨v,e,s',rfl,hv,hx⟩
  rotate_left
  .exact tTt rfl (tS (.inr ⟨e,s',rfl,hv,hx⟩))
  refine tFf rfl ?_;rw [hst,List.nil_append] at hs;have w':=hs.wt hC w;have hef:s.ef.length<=16:=w'.ef;have hll:l.length=(nd ns i).Kids.length:=hl;obtain ⟨⟨g,e⟩,hg,q⟩:=zjl (k:=kd) (n:=((s.ef.length:Nat):Int)) (l:=l) (by omega);rw [hg,zu];have hx:Ex X ⟨z,s.lo,s.fi,l,s.ef⟩ (if e=0 then .go ⟨z+1,s.lo,s.fi,[],s.ef++[g]⟩ else .er e):=by
   rcases ho with ⟨rfl,q⟩|⟨rfl,q⟩|⟨rfl,q⟩
   .exact zh8 (S:=[]) e2 hC.c.len (by simp) (by rw [e1];rfl) (by omega) hg (by omega)
   .exact zdT (S:=[]) e2 hC.c.len (by simp) (by rw [e1];rfl) (by omega) hg (by omega)
   .exact zdS (S:=[]) e2 hC.c.len (by simp) (by rw [e1];rfl) (by omega) hg (by omega)
  by_cases q:e=0
  .rw [if_pos q] at hx
   exact tFf (by rw [q];rfl) (tI (by simp;omega) fun _=>tS (.inl ⟨g,rfl,hs.sn hx⟩))
  .rw [if_neg q] at hx
   refine tTt (bne_iff_ne.2 q) ?_;rw [zem hp hA (show sg.length<=1000 by omega),zu];exact tS (.inr ⟨e,_,rfl,hs,hx⟩)
 .rcases hr with ⟨g,rfl,hs⟩|⟨e,s',rfl,hv,hx⟩
  .exact tS (.inl ⟨_,_,_,_,_,_,rfl,hE,(Rl.self hA hB hsg w).go hC hs⟩)
  .exact tS (.inr (.inl ⟨_,_,_,_,_,_,rfl,zdK hv hx⟩))
theorem zfL {v:Value} {C:Bool} {fi lo:List Value} {ef:List Effect} (hv:cpOk v) (hsg:sg.length<=1000):um K v A B C fi lo ef sg=some (A,fi,ef,B,sg++[seg 1 v zc 0 fi ef]):=by
 unfold um;rw [zfy hv,zu,zy (by simp),zy (by simp),zy (by simp;omega)];rfl
theorem zov (hC:VC X t st) {S:List Value} (w:WT X t st ⟨z,s.lo,s.fi,S,s.ef⟩) (h:(X.at_ z).Op=32):(S.length:Int)=resN X.m:=by
 obtain ⟨r,⟨⟨S',a,q,he,h1,h2,h3⟩,hl40⟩,hj⟩:=(hC.f.inv.done z (by rw [hC.f.inv.len];exact w.pc) w.re (by simp)).ex;have he':Ef X.c t X.m (X.at_ z) a q:=he;have e0:S'=[]:=h3 (.inl h);have hl:=w.stk.1;rw [h1,e0,List.nil_append] at hl;have ha:a=resK X.m:=by cases he'<;>first|rfl|(exfalso;omega)|(rename_i h';exfalso;omega)|(rename_i h' _;exfalso;omega)|(rename_i _ h';exfalso;omega)
 rw [ha] at hl;simp only at hl;rw [hl];unfold resK resN;split<;>rfl
theorem zn4 (hC:VC X t st) {S:List Value} (w:WT X t st ⟨z,s.lo,s.fi,S,s.ef⟩) (h:X.m.Code[z]?=some (mkI 32 0 0)):Ex X ⟨z,s.lo,s.fi,S,s.ef⟩ (.fi ⟨z+1,s.lo,s.fi,[],s.ef⟩ (S.getD 0 vz)):=by
 obtain ⟨e1,e2⟩:=at_e h;have:=zld (X:=X) (lo:=s.lo) (fi:=s.fi) (S:=[]) (ef:=s.ef) (a:=S) e2 hC.c.len (by simp) (by rw [e1]) (zov hC w (by rw [e1])) w.stk.cp;rw [List.nil_append] at this;exact this
theorem zoQ (hp:PK X t st p b ns ins D) (hA:TA X b ns ins A) (hB:BOk B) (hsg:(sg.length:Int)+1=A.next) (w:WT X t st s) (hst:s.st=[]) (ha:At p b ns D i) (hk1:(nd ns i).Kids.length<=1) (hk:∀k∈(nd ns i).Kids,exK ns k) (k:CL p ns b X.m.Code (nd ns i).Kids s.pc z) (h:X.m.Code[z]?=some (mkI 32 0 0)) :
  Tot ((xY K (nd ns i).Kids A B false s.fi s.lo s.ef sg).bind fun x17=>bif (!x17.2.2.2.1) then (ifp (x17.1.length+[vz].length<=4000000)<|ifp (0<(x17.1++[vz]).length)<|ifp (0<(x17.1++[vz]).length)<|(um K ((x17.1++[vz]).getD 0 default) x17.2.1 x17.2.2.1 x17.2.2.2.1 s.fi s.lo s.ef x17.2.2.2.2).bind fun x18=>some ((.inr (x18.1,x18.2.1,x18.2.2.1,x18.2.2.2.1,s.lo,x18.2.2.2.2)):ST1 ⊕ ST2)) else (some (.inl (x17.2.1,x17.2.2.1,x17.2.2.2.1,s.fi,s.lo,s.ef,x17.2.2.2.2)))) (SQ X t st b ns ins A B sg s (z+1) E):=by
 have hC:=hp.xc.v;have hil:=hp.il;have hnx:=hA.nx;refine tB (ze1 hp hA (by omega) w (fun k hk'=>(ha.kid hp hk').1.ev hp (hk k hk')) (fun k hk'=>(ha.kid hp hk').1.le hp) (by omega) k) fun y hy=>?_;rcases hy with ⟨l,rfl,hl,hs⟩|⟨v,e,s',rfl,hv,hx⟩
 rotate_left
 .exact tFf rfl (tS (.inr (.inl ⟨_,_,_,_,_,_,rfl,zdK hv hx⟩)))
 rw [hst,List.nil_append] at hs;have w':=hs.wt hC w;have hx:=zn4 hC w' h;have hg:(l++[vz]).getD 0 default=l.getD 0 vz:=by cases l<;>rfl
 have hcp:cpOk (l.getD 0 vz):=by
  cases l with
  | nil=>exact zbB
  | cons v l=>exact w'.stk.cp v (by simp)
 refine tTt rfl (tI (by simp;omega) fun _=>tI (by simp) fun _=>tI (by simp) fun _=>?_);rw [show (l,A,B,false,sg).1++[vz]=l++[vz] from rfl,hg,zfL hcp (by simp only;omega),zu];exact tS (.inr (.inr ⟨_,_,_,_,_,_,rfl,_,rfl,.steps hs (OKs.fi (s':=⟨z+1,s.lo,s.fi,[],s.ef⟩) hx)⟩))
end
end Md
end Go.Proofs.YtbijabmjbgplbaaGreatDoor
namespace Go.Proofs.YtbijabmjbgplbaaGreatDoor
namespace Md
def StT (X:VX) (t:zq) (st:List State) (p:Program) (b:Body) (ns:List Node) (ins:List Input) (i:Int) (n:Nat):Prop:=∀(A:zL) (B:zH) (sg:List zi) (s:VS) (z:Nat),TA X b ns ins A->BOk B->(sg.length:Int)+1=A.next->WT X t st s->s.st=[]->CE p ns b X.m.Code i s.pc z->Tot ((zl.at K n).zo i A B false s.fi s.lo s.ef sg) (SQ X t st b ns ins A B sg s z (EN ns i))
section
variable {X:VX} {t:zq} {st:List State} {p:Program} {b:Body} {ns:List Node} {ins:List Input} {D:Int->Prop} {A A' A'':zL} {B B' B'':zH} {s s' s'':VS} {sg sg' sg'':List zi} {i:Int} {z m:Nat} {E E':Prop} {o:ST1 ⊕ ST2}
theorem zi4 {fi lo:List Value} {ef:List Effect}:(zl.at K (m+1)).zo i A B true fi lo ef sg=some (.inl (A,B,true,fi,lo,ef,sg)):=rfl
theorem SQ.on {f:Option (ST1 ⊕ ST2)} (h:Tot f (SQ X t st b ns ins A B sg s z E)):Tot (f.bind fun x=>onS x (fun y=>some ((.inl (y.1,y.2.1,y.2.2.1,y.2.2.2.1,y.2.2.2.2.1,y.2.2.2.2.2.1,y.2.2.2.2.2.2)):ST1 ⊕ ST2)) (fun y=>some (.inr (y.1,y.2.1,y.2.2.1,y.2.2.2.1,y.2.2.2.2.1,y.2.2.2.2.2)))) (SQ X t st b ns ins A B sg s z E):=by
 refine tB h fun o ho=>?_;rcases o with o|o
 .exact tS ho
 .exact tS ho
theorem SQ.im (h:SQ X t st b ns ins A B sg s z E o) (k:E'->E):SQ X t st b ns ins A B sg s z E' o:=by
 rcases h with ⟨a1,a2,a3,a4,a5,a6,e,ne,hr⟩|h
 .exact .inl ⟨a1,a2,a3,a4,a5,a6,e,fun q=>ne (k q),hr⟩
 .exact .inr h
theorem SQ.fw (h:SQ X t st b ns ins A B sg s z E o) {z':Nat} (hC:VC X t st) (k:∀lo fi ef,WT X t st ⟨z,lo,fi,[],ef⟩->¬E->Steps X ⟨z,lo,fi,[],ef⟩ ⟨z',lo,fi,[],ef⟩):SQ X t st b ns ins A B sg s z' E o:=by
 rcases h with ⟨a1,a2,a3,a4,a5,a6,e,ne,hr⟩|h
 .exact .inl ⟨a1,a2,a3,a4,a5,a6,e,ne,hr.go hC (k _ _ _ hr.w ne)⟩
 .exact .inr h
theorem zcO (hp:PK X t st p b ns ins D) (hA:TA X b ns ins A) (hB:BOk B) (hsg:(sg.length:Int)+1=A.next) (w:WT X t st s) (hst:s.st=[]) (ha:At p b ns D i) (hk2:2<=(nd ns i).Kids.length/\(nd ns i).Kids.length<=3) (hx:exK ns (kd ns i 0)) {d y:Nat} (k:CE p ns b X.m.Code (kd ns i 0) s.pc d) (h:X.m.Code[d]?=some (mkI 29 (y:Int) 0))
  (hs1:∀s1:VS,s1.st=[]->s1.pc=d+1->WT X t st s1->Tot ((zl.at K m).zo (kd ns i 1) A B false s1.fi s1.lo s1.ef sg) (SQ X t st b ns ins A B sg s1 z E))
  (hs2:(nd ns i).Kids.length=3->∀s1:VS,s1.st=[]->s1.pc=y->WT X t st s1->Tot ((zl.at K m).zo (kd ns i 2) A B false s1.fi s1.lo s1.ef sg) (SQ X t st b ns ins A B sg s1 z E))
  (hs3:(nd ns i).Kids.length≠3->y=z/\¬E) :
  Tot (YZ K (zl.at K m) (nd ns i) A B false s.fi s.lo s.ef sg) (SQ X t st b ns ins A B sg s z E):=by
 have hC:=hp.xc.v;have hil:=hp.il;have hnx:=hA.nx;have hm:=getD_mem (l:=(nd ns i).Kids) (i:=0) (by omega);obtain ⟨hak,_⟩:=ha.kid hp hm;unfold YZ;refine tI (by omega) fun _=>?_;show Tot ((zD K (kd ns i 0) A B false s.fi s.lo s.ef sg).bind fun x=>dis (zx.at K K) A B false s.fi s.lo s.ef sg x fun y=>bif y.2.2.2.1 then (some ((.inl (y.2.1,y.2.2.1,y.2.2.2.1,s.fi,s.lo,s.ef,y.2.2.2.2)):ST1 ⊕ ST2)) else (bif (y.1.N==(1:Int)) then (ifp (1<(nd ns i).Kids.length)<|((zl.at K m).zo (kd ns i 1) y.2.1 y.2.2.1 y.2.2.2.1 s.fi s.lo s.ef y.2.2.2.2).bind fun x=>onS x (fun y=>some ((.inl (y.1,y.2.1,y.2.2.1,y.2.2.2.1,y.2.2.2.2.1,y.2.2.2.2.2.1,y.2.2.2.2.2.2)):ST1 ⊕ ST2)) (fun y=>some (.inr (y.1,y.2.1,y.2.2.1,y.2.2.2.1,y.2.2.2.2.1,y.2.2.2.2.2)))) else (bif ((((nd ns i).Kids.length:Nat):Int)==(3:Int)) then (ifp (2<(nd ns i).Kids.length)<|((zl.at K m).zo (kd ns i 2) y.2.1 y.2.2.1 y.2.2.2.1 s.fi s.lo s.ef y.2.2.2.2).bind fun x=>onS x (fun y=>some ((.inl (y.1,y.2.1,y.2.2.1,y.2.2.2.1,y.2.2.2.2.1,y.2.2.2.2.2.1,y.2.2.2.2.2.2)):ST1 ⊕ ST2)) (fun y=>some (.inr (y.1,y.2.1,y.2.2.1,y.2.2.2.1,y.2.2.2.2.1,y.2.2.2.2.2)))) else (some (.inl (y.2.1,y.2.2.1,y.2.2.2.1,s.fi,s.lo,s.ef,y.2.2.2.2)))))) _;refine zaN (hak.ev hp hx K (by have:=hak.le hp;show _<=5000000;omega) A B sg s d hA (by omega) w k) fun r hr=>?_;rcases hr with ⟨v,rfl,hv⟩|⟨v,e,s',rfl,hv,hx⟩
 rotate_left
 .exact tTt rfl (tS (.inr (.inl ⟨_,_,_,_,_,_,rfl,zdK hv hx⟩)))
 rw [hst] at hv;have hr0:=Rl.self hA hB hsg w;obtain ⟨j1,j2,j3,j4⟩:=zj_ hC (s:=s) (S:=[]) (hv.wt hC w) h;refine tFf rfl (tE (fun e=>tI (by omega) fun _=>?_) fun e=>?_)
 .have h1:=hv.tr (j2 (by simp only at e;omega))
  exact SQ.on ((hs1 ⟨d+1,s.lo,s.fi,[],s.ef⟩ rfl rfl (h1.wt hC w)).mono fun o ho=>ho.up (hr0.go hC h1))
 .have h1:=hv.tr (j1 (by simp only at e;omega))
  refine tE (fun e3=>tI (by omega) fun _=>SQ.on ((hs2 (by omega) ⟨y,s.lo,s.fi,[],s.ef⟩ rfl rfl (h1.wt hC w)).mono fun o ho=>ho.up (hr0.go hC h1))) fun e3=>?_;obtain ⟨rfl,q⟩:=hs3 (by omega);exact tS (.inl ⟨_,_,_,_,_,_,rfl,q,hr0.go hC h1⟩)
abbrev LS:=ST1 ⊕ ST2
def flat (o:LS ⊕ LS):LS:=match o with
 | .inl x=>x
 | .inr x=>x
theorem zll (hp:PK X t st p b ns ins D) (hA:TA X b ns ins A) (hB:BOk B) (hsg:(sg.length:Int)+1=A.next) (w:WT X t st s) (hst:s.st=[]) (ha:At p b ns D i) (hk2:2<=(nd ns i).Kids.length) (hx:exK ns (kd ns i 0)) {d:Nat} (k:CE p ns b X.m.Code (kd ns i 0) s.pc d) (h:X.m.Code[d]?=some (mkI 29 (z:Int) 0)) (hE:¬E)
  (hs1:∀(A1:zL) (B1:zH) (sg1:List zi) (s1:VS),TA X b ns ins A1->BOk B1->(sg1.length:Int)+1=A1.next->s1.st=[]->s1.pc=d+1->WT X t st s1->Tot ((zl.at K (m+1)).zo (kd ns i 1) A1 B1 false s1.fi s1.lo s1.ef sg1) (SQ X t st b ns ins A1 B1 sg1 s1 s.pc False)) :
  Tot (XM K (zl.at K (m+1)) (nd ns i) A B false s.fi s.lo s.ef sg) (SQ X t st b ns ins A B sg s z E):=by
 have hC:=hp.xc.v;have hil:=hp.il;have hm:=getD_mem (l:=(nd ns i).Kids) (i:=0) (by omega);obtain ⟨hak,_⟩:=ha.kid hp hm;unfold XM;have key:Tot (ZW K (zl.at K (m+1)) (nd ns i) K (.inl (A,B,false,s.fi,s.lo,s.ef,sg))) fun o=>SQ X t st b ns ins A B sg s z E (flat o):=by
  unfold ZW;refine tK (fun x=>SQ X t st b ns ins A B sg s s.pc False x) (fun x=>match x with
   | .inl y=>bif y.2.2.1 then 0 else mua ins y.1 y.2.1+1
   | .inr y=>0) (fun F x hx' hF=>?_) (.inl ⟨_,_,_,_,_,_,rfl,not_false,by have:=Rl.self hA hB hsg w;rw [<-hst];exact this⟩) ?_
  rotate_left
  .show mua ins A B+1<5000000
   unfold mua;have h1:=hA.nx;have h2:=hB.2.2;have:((ins.length:Int) - A.next).toNat<=8:=by omega
   omega
  rcases hx' with ⟨A1,B1,fi,lo,ef,sg1,rfl,_,hr⟩|⟨A1,B1,fi,lo,ef,sg1,rfl,hd⟩|⟨A1,fi,ef,B1,lo,sg1,rfl,hd⟩
  rotate_left
  .exact tS (.inr (.inl ⟨_,_,_,_,_,_,rfl,hd⟩))
  .exact tS (.inr (.inr ⟨_,_,_,_,_,_,rfl,hd⟩))
  have hsl:=hr.sl hil;have hA1:=hr.a;obtain ⟨b1,b2,b3⟩:=hr.bo;dsimp only [onS];refine tTt rfl (tE (fun e=>?_) fun e=>tI (by omega) fun _=>?_)
  .rw [zem hp hA1 hsl,zu]
   exact tS (.inr (.inl ⟨_,_,_,_,_,_,rfl,hr.dn ⟨_,rfl,.fu⟩⟩))
  have hw1:W (B1.rounds - 1)=B1.rounds - 1:=W_id (by omega) (by omega);have hB2:BOk ⟨B1.limit,B1.rounds - 1⟩:=⟨b1,by simp only at e ⊢;omega,by simp only;omega⟩;have hm2:mua ins A1 ⟨B1.limit,B1.rounds - 1⟩+1<=mua ins A1 B1:=by
   unfold mua;simp only at e ⊢;omega
  have hr2:Rl X t st b ns ins A B sg s A1 ⟨B1.limit,B1.rounds - 1⟩ sg1 ⟨s.pc,lo,fi,[],ef⟩:=⟨hA1,hB2,hr.len,hr.w,by have:=hr.mu;omega,hr.ok⟩;show Tot ((zD K (kd ns i 0) A1 ⟨B1.limit,W (B1.rounds - 1)⟩ false fi lo ef sg1).bind fun x=>dis (zx.at K K) A1 ⟨B1.limit,W (B1.rounds - 1)⟩ false fi lo ef sg1 x fun y=>bif (y.2.2.2.1||(y.1.N==(0:Int))) then (some (.inr (.inl (y.2.1,y.2.2.1,y.2.2.2.1,fi,lo,ef,y.2.2.2.2)))) else (ifp (1<(nd ns i).Kids.length)<|((zl.at K (m+1)).zo (kd ns i 1) y.2.1 y.2.2.1 y.2.2.2.1 fi lo ef y.2.2.2.2).bind fun x=>onS x (fun y=>F (.inl (y.1,y.2.1,y.2.2.1,y.2.2.2.1,y.2.2.2.2.1,y.2.2.2.2.2.1,y.2.2.2.2.2.2))) (fun y=>F (.inr (y.1,y.2.1,y.2.2.1,y.2.2.2.1,y.2.2.2.2.1,y.2.2.2.2.2))))) _;rw [hw1];refine zaN (hak.ev hp hx K (by have:=hak.le hp;show _<=5000000;omega) A1 ⟨B1.limit,B1.rounds - 1⟩ sg1 ⟨s.pc,lo,fi,[],ef⟩ d hA1 hsl hr.w k) fun y hy=>?_;rcases hy with ⟨v,rfl,hv⟩|⟨v,e,s',rfl,hv,hx⟩
  rotate_left
  .exact tTt rfl (tS (.inr (.inl ⟨_,_,_,_,_,_,rfl,hr2.dn (zdK hv hx)⟩)))
  have hv':Steps X ⟨s.pc,lo,fi,[],ef⟩ ⟨d,lo,fi,[]++[v],ef⟩:=hv;obtain ⟨j1,j2,j3,j4⟩:=zj_ hC (s:=⟨s.pc,lo,fi,[],ef⟩) (S:=[]) (hv'.wt hC hr.w) h
  by_cases e0:v.N=0
  .exact tTt (by simpa using e0) (tS (.inl ⟨_,_,_,_,_,_,rfl,hE,hr2.go hC (hv'.tr (j1 e0))⟩))
  .refine tFf (by simpa using e0) (tI (by omega) fun _=>?_)
   have hr3:=hr2.go hC (hv'.tr (j2 e0));refine tB (hs1 A1 ⟨B1.limit,B1.rounds - 1⟩ sg1 ⟨d+1,lo,fi,[],ef⟩ hA1 hB2 hr.len rfl rfl hr3.w) fun o ho=>?_;rcases ho with ⟨A2,B2,fi2,lo2,ef2,sg2,rfl,_,hr4⟩|⟨A2,B2,fi2,lo2,ef2,sg2,rfl,hd⟩|⟨A2,fi2,ef2,B2,lo2,sg2,rfl,hd⟩
   .refine hF _ (.inl ⟨_,_,_,_,_,_,rfl,not_false,hr3.tr hr4⟩) ?_
    show mua ins A2 B2+1<mua ins A1 B1+1;have:=hr4.mu;omega
   .exact hF _ (.inr (.inl ⟨_,_,_,_,_,_,rfl,hr3.dn hd⟩)) (Nat.zero_lt_succ _)
   .exact hF _ (.inr (.inr ⟨_,_,_,_,_,_,rfl,hr3.dn hd⟩)) (Nat.zero_lt_succ _)
 refine tB key fun o ho=>?_;rcases o with o|o
 .rcases o with o|o
  .exact tS ho
  .exact tS ho
 .exact tS ho
theorem SQ.nv (h:SQ X t st b ns ins A B sg s z E o) (he:E) {z':Nat}:SQ X t st b ns ins A B sg s z' E' o:=by
 rcases h with ⟨a1,a2,a3,a4,a5,a6,e,ne,hr⟩|h
 .exact absurd he ne
 .exact .inr h
theorem zlR (hp:PK X t st p b ns ins D) (hA:TA X b ns ins A) (hB:BOk B) (hsg:(sg.length:Int)+1=A.next) (w:WT X t st s) (hst:s.st=[]) (hkl:(nd ns i).Kids.length<=6100) (ho:opAt ns i=18) (hk:∀k∈(nd ns i).Kids,StT X t st p b ns ins k (m+1)) (hc:CL p ns b X.m.Code (nd ns i).Kids s.pc z) :
  Tot (uS K (zl.at K (m+1)) A i K (.inl (0,A,B,false,s.fi,s.lo,s.ef,sg))) (SQ X t st b ns ins A B sg s z (EN ns i)):=by
 have hC:=hp.xc.v;unfold uS;have hop:(A.nodes.getD i.toNat default)=nd ns i:=by rw [hA.nsE]
 rw [hop];generalize hks:(nd ns i).Kids=ks at *;refine tK (fun x=>(∃j y A' B' fi lo ef sg',x=.inl (j,A',B',false,fi,lo,ef,sg')/\j<=ks.length/\CL p ns b X.m.Code (ks.drop j) y z/\(0<j->¬EN ns (ks.getD (j - 1) default))/\Rl X t st b ns ins A B sg s A' B' sg' ⟨y,lo,fi,[],ef⟩)\/(∃j A' B' fi lo ef sg',x=.inl (j,A',B',true,fi,lo,ef,sg')/\j<=ks.length/\Dn X ins A sg s sg')\/∃j A' fi ef B' lo sg',x=.inr (j,A',fi,ef,B',lo,sg')/\j<=ks.length/\Dn X ins A sg s sg') (fun x=>match x with
  | .inl y=>ks.length - y.1
  | .inr y=>ks.length - y.1) (fun F x hx hF=>?_) (.inl ⟨0,s.pc,A,B,s.fi,s.lo,s.ef,sg,rfl,Nat.zero_le _,hc,fun h=>absurd h (by omega),by have:=Rl.self hA hB hsg w;rw [<-hst];exact this⟩) (by show ks.length - 0<_;omega)
 rcases hx with ⟨j,y,A1,B1,fi,lo,ef,sg1,rfl,hj,hcl,hen,hr⟩|⟨j,A1,B1,fi,lo,ef,sg1,rfl,hj,hd⟩|⟨j,A1,fi,ef,B1,lo,sg1,rfl,hj,hd⟩
 .dsimp only [onS]
  refine tD (fun e=>?_) fun e=>?_
  .have e1:j<ks.length:=by simpa using e
   rw [List.drop_eq_getElem_cons e1] at hcl;cases hcl with
   | cons hce hcl =>
    have hg:ks.getD j default=ks[j]:=gd e1;refine tI e1 fun _=>?_;have hkj:=hk _ (getD_mem e1);refine tB (hkj A1 B1 sg1 ⟨y,lo,fi,[],ef⟩ _ hr.a hr.bo hr.len hr.w rfl (by rw [hg];exact hce)) fun o ho=>?_;rcases ho with ⟨A2,B2,fi2,lo2,ef2,sg2,rfl,ne,hr2⟩|⟨A2,B2,fi2,lo2,ef2,sg2,rfl,hd⟩|⟨A2,fi2,ef2,B2,lo2,sg2,rfl,hd⟩
    .exact tI (by omega) fun _=>hF _ (.inl ⟨j+1,_,_,_,_,_,_,_,rfl,by omega,hcl,fun _=>by rw [Nat.add_sub_cancel];exact ne,hr.tr hr2⟩) (by show ks.length - (j+1)<ks.length - j;omega)
    .exact tI (by omega) fun _=>hF _ (.inr (.inl ⟨j+1,_,_,_,_,_,_,rfl,by omega,hr.dn hd⟩)) (by show ks.length - (j+1)<ks.length - j;omega)
    .exact tI (by omega) fun _=>hF _ (.inr (.inr ⟨j+1,_,_,_,_,_,_,rfl,by omega,hr.dn hd⟩)) (by show ks.length - (j+1)<ks.length - j;omega)
  .have e1:j=ks.length:=by simp at e;omega
   subst e1;rw [List.drop_length] at hcl;cases hcl;refine tS (.inl ⟨_,_,_,_,_,_,rfl,fun q=>?_,hr⟩);cases q with
   | fin h=>omega
   | br h=>omega
   | blk h l a =>
    have hks':(ns.getD i.toNat default).Kids=ks:=hks;rw [hks'] at l a;exact hen l a
 .dsimp only [onS]
  refine tD (fun e=>?_) fun e=>tS (.inr (.inl ⟨_,_,_,_,_,_,rfl,hd⟩));have e1:j<ks.length:=by simpa using e
  refine tI e1 fun _=>?_;rw [zi4,zu];exact tI (by omega) fun _=>hF _ (.inr (.inl ⟨j+1,_,_,_,_,_,_,rfl,by omega,hd⟩)) (by show ks.length - (j+1)<ks.length - j;omega)
 .dsimp only [onS]
  refine tD (fun e=>?_) fun e=>tS (.inr (.inr ⟨_,_,_,_,_,_,rfl,hd⟩));have e1:j<ks.length:=by simpa using e
  refine tI e1 fun _=>?_;exact tI (by omega) fun _=>hF _ (.inr (.inr ⟨j+1,_,_,_,_,_,_,rfl,by omega,hd⟩)) (by show ks.length - (j+1)<ks.length - j;omega)
theorem br_k (ko:KO ns (nd ns i)) (h:opAt ns i=11\/opAt ns i=12):exK ns (kd ns i 0)/\2<=(nd ns i).Kids.length/\((opAt ns i=11/\(nd ns i).Kids.length<=3)\/(opAt ns i=12/\(nd ns i).Kids.length<=2))/\∀j,1<=j->j<(nd ns i).Kids.length->opAt ns (kd ns i j)=18:=by
 have o2:(nd ns i).Op=opAt ns i:=rfl;cases ko with
 | br h' l c k =>
  refine ⟨c,l,h',fun j h1 h2=>k _ ?_⟩;unfold kd;rw [gd h2];obtain ⟨j,rfl⟩:∃q,j=q+1:=⟨j - 1,by omega⟩;have:((nd ns i).Kids.drop 1)[j]'(by rw [List.length_drop];omega)=(nd ns i).Kids[j+1]:=by rw [List.getElem_drop];congr 1;omega
  rw [<-this];exact List.getElem_mem _
 | _=>exfalso;omega
theorem zkH (hp:PK X t st p b ns ins D) (hpc:PC X p b ns D):∀(N:Nat) (i:Int),i.toNat<N->At p b ns D i->8<=opAt ns i->∀n,2*i.toNat+4<=n->StT X t st p b ns ins i n:=by
 intro N
 induction N with
 | zero=>intro i h;omega
 | succ N ih =>
  intro i hN ha h8 n hn A B sg s z hA hB hsg w hst hce;have hC:=hp.xc.v;have h0:=ha.h0;have h1:=ha.h1;have hkl:=hp.vn.kl h0 h1;have ko:KO ns (nd ns i):=hp.vn.b.ko i.toNat (by omega);obtain ⟨m,rfl⟩:∃m,n=m+4:=⟨n - 4,by omega⟩;have o2:∀{j:Int},opAt ns i=j->(nd ns i).Op=j:=fun h=>h;have hop:(A.nodes.getD i.toNat default)=nd ns i:=by rw [hA.nsE]
  have hOp:(nd ns i).Op=opAt ns i:=rfl;have kid:∀(j m':Nat),j<(nd ns i).Kids.length->8<=opAt ns (kd ns i j)->2*i.toNat+2<=m'->StT X t st p b ns ins (kd ns i j) m':=fun j m' hj h8' hm=>by
   obtain ⟨h1,h2⟩:=ha.kid hp (getD_mem hj);have h3:=h1.h0;exact ih (kd ns i j) (by show (kd ns i j).toNat<N;unfold kd;omega) h1 h8' m' (by unfold kd;omega)
  have ex:∀{k:Int} {α:Type} {Y Z:Option α},opAt ns i≠k->(bif (nd ns i).Op==k then Y else Z)=Z:=fun h=>by rw [hOp,beq_eq_false_iff_ne.2 h,cond_false]
  have ey:∀{k:Int} {α:Type} {Y Z:Option α},opAt ns i=k->(bif (nd ns i).Op==k then Y else Z)=Y:=fun h=>by rw [hOp,beq_iff_eq.2 h,cond_true]
  have nEN:∀{j:Int},opAt ns i=j->j≠11->j≠13->j≠14->j≠18->¬EN ns i:=fun h h1 h2 h3 h4 e=>by have:=zhV e;omega
  show Tot (kF K (zl.at K (m+3)) i A B false s.fi s.lo s.ef sg) _;unfold kF;rw [zc7 hA ⟨h0,h1⟩];simp only [hop];refine tFf rfl ?_;refine tB (P:=fun x=>x=decide (opAt ns i=8\/opAt ns i=9)) (tE (fun e=>tS ?_) fun e=>tS ?_) fun x hx=>?_
  .have e':opAt ns i=8:=e
   rw [beq_iff_eq.2 e,decide_eq_true (Or.inl e')]
  .have e':opAt ns i≠8:=e
   by_cases q:opAt ns i=9
   .rw [show ((nd ns i).Op==9)=true from beq_iff_eq.2 q,decide_eq_true (Or.inr q)]
   .rw [show ((nd ns i).Op==9)=false from beq_eq_false_iff_ne.2 q,decide_eq_false (by omega)]
  subst hx;have no:¬(opAt ns i=8\/opAt ns i=9)->decide (opAt ns i=8\/opAt ns i=9)=false:=decide_eq_false;cases hce with
  | asg o k h =>
   have kk:∀k∈(nd ns i).Kids,exK ns k\/opAt ns k=7:=by cases ko<;>first|assumption|(exfalso;omega)
   have kl:(nd ns i).Kids.length=1:=by cases ko<;>first|assumption|(exfalso;omega)
   refine tTt (decide_eq_true o) (tI (by omega) fun _=>?_);exact zoB (C:=X.m.Code) hp hpc hA hB hsg w hst ha o kl kk k h
  | drop o k n h =>
   have kk:∀k∈(nd ns i).Kids,opAt ns k=7:=by cases ko<;>first|assumption|(exfalso;have:=o2 o;omega)
   have kl:(nd ns i).Kids.length=1:=by cases ko<;>first|assumption|(exfalso;have:=o2 o;omega)
   have hm:=getD_mem (l:=(nd ns i).Kids) (i:=0) (by omega);obtain ⟨hak,_⟩:=ha.kid hp hm;refine tFf (no (by omega)) ?_;rw [ey o];refine tI (by omega) fun _=>tB (zhE hp hpc hA hB hsg w hst hak.h0 hak.h1 (kk _ hm) hak.tw (cl1 k kl)) fun o' hv=>?_;rcases hv with ⟨v,k,a1,a2,a3,a4,a5,rfl,hk,hr⟩|⟨v,a1,a2,a3,a4,a5,rfl,hd⟩|⟨v,a1,a2,a3,a4,a5,rfl,hd⟩
   .obtain ⟨e1,e2⟩:=at_e h
    have hne:rpl k v=[v]:=by unfold rpl;rw [if_neg (by rw [hk];exact n)]
    rw [hne] at hr;have hx:=zh7 (X:=X) (lo:=s.lo) (fi:=a3) (S:=[]) (ef:=a4) (v:=v) e2 hC.c.len (by simp) (by rw [e1]);exact tS (.inl ⟨_,_,_,_,_,_,rfl,nEN o (by decide) (by decide) (by decide) (by decide),hr.go hC (.tl hx .rfl)⟩)
   .exact tS (.inr (.inl ⟨_,_,_,_,_,_,rfl,hd⟩))
   .exact tS (.inr (.inr ⟨_,_,_,_,_,_,rfl,hd⟩))
  | do_ o k n =>
   have kk:∀k∈(nd ns i).Kids,opAt ns k=7:=by cases ko<;>first|assumption|(exfalso;have:=o2 o;omega)
   have kl:(nd ns i).Kids.length=1:=by cases ko<;>first|assumption|(exfalso;have:=o2 o;omega)
   have hm:=getD_mem (l:=(nd ns i).Kids) (i:=0) (by omega);obtain ⟨hak,_⟩:=ha.kid hp hm;refine tFf (no (by omega)) ?_;rw [ey o];refine tI (by omega) fun _=>tB (zhE hp hpc hA hB hsg w hst hak.h0 hak.h1 (kk _ hm) hak.tw (cl1 k kl)) fun o' hv=>?_;rcases hv with ⟨v,k,a1,a2,a3,a4,a5,rfl,hk,hr⟩|⟨v,a1,a2,a3,a4,a5,rfl,hd⟩|⟨v,a1,a2,a3,a4,a5,rfl,hd⟩
   .have hne:rpl k v=[]:=by unfold rpl;rw [if_pos (by rw [hk];exact n)]
    rw [hne] at hr;exact tS (.inl ⟨_,_,_,_,_,_,rfl,nEN o (by decide) (by decide) (by decide) (by decide),hr⟩)
   .exact tS (.inr (.inl ⟨_,_,_,_,_,_,rfl,hd⟩))
   .exact tS (.inr (.inr ⟨_,_,_,_,_,_,rfl,hd⟩))
  | @if2 _ _ d _ o n k h l =>
   obtain ⟨kx,k2,k3,kb⟩:=br_k ko (.inl o);have b1:=kb 1 (by omega) (by omega);refine tFf (no (by omega)) ?_;rw [ex (by omega),ey o];refine SQ.on (zcO (m:=m+2) hp hA hB hsg w hst ha (by omega) kx k h (fun s1 q1 q2 w1=>?_) (fun q=>by omega) fun _=>⟨rfl,fun e=>by have:=zhV e;omega⟩);exact (kid 1 (m+2) (by omega) (by omega) (by omega) A B sg s1 _ hA hB hsg w1 q1 (by rw [q2];exact l)).mono fun o ho=>ho.im fun e=>by have:=zhV e;omega
  | @ifE _ _ d y _ o n k h l e m' =>
   obtain ⟨kx,k2,k3,kb⟩:=br_k ko (.inl o);have b1:=kb 1 (by omega) (by omega);have b2:=kb 2 (by omega) (by omega);refine tFf (no (by omega)) ?_;rw [ex (by omega),ey o];refine SQ.on (zcO (m:=m+2) hp hA hB hsg w hst ha (by omega) kx k h (fun s1 q1 q2 w1=>?_) (fun q s1 q1 q2 w1=>?_) fun q=>by omega)
   .exact (kid 1 (m+2) (by omega) (by omega) (by omega) A B sg s1 _ hA hB hsg w1 q1 (by rw [q2];exact l)).mono fun o ho=>ho.nv e
   .refine (kid 2 (m+2) (by omega) (by omega) (by omega) A B sg s1 _ hA hB hsg w1 q1 (by rw [q2];exact m')).mono fun o' ho=>ho.im fun e=>?_
    cases e with
    | fin h=>omega
    | blk h=>omega
    | br h l a b=>exact b
  | @if3 _ _ d y _ o n k h l j m' =>
   obtain ⟨kx,k2,k3,kb⟩:=br_k ko (.inl o);have b1:=kb 1 (by omega) (by omega);have b2:=kb 2 (by omega) (by omega);refine tFf (no (by omega)) ?_;rw [ex (by omega),ey o];refine SQ.on (zcO (m:=m+2) hp hA hB hsg w hst ha (by omega) kx k h (fun s1 q1 q2 w1=>?_) (fun q s1 q1 q2 w1=>?_) fun q=>by omega)
   .refine (kid 1 (m+2) (by omega) (by omega) (by omega) A B sg s1 _ hA hB hsg w1 q1 (by rw [q2];exact l)).mono fun o' ho=>(ho.fw hC fun lo fi ef w2 _=>zka (s:=⟨y,lo,fi,[],ef⟩) hC w2 j).im fun e=>?_
    cases e with
    | fin h=>omega
    | blk h=>omega
    | br h l a b=>exact a
   .refine (kid 2 (m+2) (by omega) (by omega) (by omega) A B sg s1 _ hA hB hsg w1 q1 (by rw [q2];exact m')).mono fun o' ho=>ho.im fun e=>?_
    cases e with
    | fin h=>omega
    | blk h=>omega
    | br h l a b=>exact b
  | @whE _ _ d _ o k h l e =>
   obtain ⟨kx,k2,k3,kb⟩:=br_k ko (.inr o);have b1:=kb 1 (by omega) (by omega);refine tFf (no (by omega)) ?_;rw [ex (by omega),ex (by omega),ey o];refine SQ.on (zll (m:=m+1) hp hA hB hsg w hst ha k2 kx k h (nEN o (by decide) (by decide) (by decide) (by decide)) fun A1 B1 sg1 s1 ha1 hb1 hl1 q1 q2 w1=>?_);exact (kid 1 (m+2) (by omega) (by omega) (by omega) A1 B1 sg1 s1 _ ha1 hb1 hl1 w1 q1 (by rw [q2];exact l)).mono fun o ho=>ho.nv e
  | @wh _ _ d y o k h l j =>
   obtain ⟨kx,k2,k3,kb⟩:=br_k ko (.inr o);have b1:=kb 1 (by omega) (by omega);refine tFf (no (by omega)) ?_;rw [ex (by omega),ex (by omega),ey o];refine SQ.on (zll (m:=m+1) hp hA hB hsg w hst ha k2 kx k h (nEN o (by decide) (by decide) (by decide) (by decide)) fun A1 B1 sg1 s1 ha1 hb1 hl1 q1 q2 w1=>?_);exact (kid 1 (m+2) (by omega) (by omega) (by omega) A1 B1 sg1 s1 _ ha1 hb1 hl1 w1 q1 (by rw [q2];exact l)).mono fun o ho=>(ho.fw hC fun lo fi ef w2 _=>zka (s:=⟨y,lo,fi,[],ef⟩) hC w2 j).im False.elim
  | ret o k h =>
   have kk:∀k∈(nd ns i).Kids,exK ns k:=by cases ko<;>first|assumption|(exfalso;have:=o2 o;omega)
   have kl:(nd ns i).Kids.length<=1:=by cases ko<;>first|assumption|(exfalso;have:=o2 o;omega)
   refine tFf (no (by omega)) ?_;rw [ex (by omega),ex (by omega),ex (by omega),ey o];exact zoQ hp hA hB hsg w hst ha kl kk k h
  | fail o k h =>
   have kl:(nd ns i).Kids.length=0:=by cases ko<;>first|assumption|(exfalso;have:=o2 o;omega)
   refine tFf (no (by omega)) ?_;rw [ex (by omega),ex (by omega),ex (by omega),ex (by omega),ey o];rw [List.length_eq_zero_iff.1 kl] at k;cases k;obtain ⟨e1,e2⟩:=at_e h;have hil:=hp.il;have hnx:=hA.nx;have hx:=zh9 (X:=X) (lo:=s.lo) (fi:=s.fi) (S:=s.st) (ef:=s.ef) e2 hC.c.len (by rw [hst];simp) (by rw [e1]);rw [zem hp hA (show sg.length<=1000 by omega),zu];exact tS (.inr (.inl ⟨_,_,_,_,_,_,rfl,zdK .rfl hx⟩))
  | eff o k h =>
   have kk:∀k∈(nd ns i).Kids,exK ns k:=by cases ko<;>first|assumption|(exfalso;omega)
   refine tFf (no (by omega)) ?_;rw [ex (by omega),ex (by omega),ex (by omega),ex (by omega),ex (by omega)];have hE:¬EN ns i:=fun e=>by have:=zhV e;omega
   by_cases q:opAt ns i=15
   .have kl:(nd ns i).Kids.length=2:=by cases ko<;>first|assumption|(exfalso;omega)
    rw [ey q];exact zlP hp hA hB hsg w hst ha (kd:=1) (.inl ⟨rfl,kl⟩) kk k (by rw [h,q];rfl) hE
   .rw [ex q]
    by_cases q:opAt ns i=16
    .have kl:(nd ns i).Kids.length=3:=by cases ko<;>first|assumption|(exfalso;omega)
     rw [ey q];exact zlP hp hA hB hsg w hst ha (kd:=2) (.inr (.inl ⟨rfl,kl⟩)) kk k (by rw [h,q];rfl) hE
    .have q3:opAt ns i=17:=by omega
     have kl:(nd ns i).Kids.length=1:=by cases ko<;>first|assumption|(exfalso;omega)
     rw [ex q,ey q3];exact zlP hp hA hB hsg w hst ha (kd:=3) (.inr (.inr ⟨rfl,kl⟩)) kk k (by rw [h,q3];rfl) hE
  | blk o k =>
   have kk:∀k∈(nd ns i).Kids,8<=opAt ns k/\opAt ns k<=17:=by cases ko<;>first|assumption|(exfalso;have:=o2 o;omega)
   refine tFf (no (by omega)) ?_;rw [ex (by omega),ex (by omega),ex (by omega),ex (by omega),ex (by omega),ex (by omega),ex (by omega),ex (by omega),ey o];refine SQ.on (zlR (m:=m+2) hp hA hB hsg w hst hkl o (fun k' hk'=>?_) k);obtain ⟨h1,h2⟩:=ha.kid hp hk';have h3:=h1.h0;exact ih k' (by omega) h1 (kk k' hk').1 (m+3) (by omega)
  | _=>exfalso;omega
end
end Md
end Go.Proofs.YtbijabmjbgplbaaGreatDoor
namespace Go.Proofs.YtbijabmjbgplbaaGreatDoor
namespace Md
theorem zfS {α:Type} [Inhabited α] {q:α->Bool} {l:List α} (h:0<=idx q l):q (l.getD (idx q l).toNat default)=true:=by
 unfold idx at *;cases e:l.findIdx? q with
 | none=>rw [e] at h;simp at h
 | some j =>
  obtain ⟨h1,h2,_⟩:=List.findIdx?_eq_some_iff_getElem.1 e;simp only [Int.toNat_natCast];rw [gd h1];exact h2
theorem noB' {x:Bool} (h:(!x)=true):x=false:=by cases x<;>simp_all
theorem zkL {l:List zF} {s:List UInt8} (h:0<=tyI l s):(l.getD (tyI l s).toNat default).Name=s:=of_decide_eq_true (zfS (q:=fun t=>decide (zF.Name t=s)) h)
theorem zkl {l:List Method} {s:List UInt8} (h:0<=meI l s):(l.getD (meI l s).toNat default).Name=s:=of_decide_eq_true (zfS (q:=fun t=>decide (Method.Name t=s)) h)
theorem ziB {α β γ:Type} [Inhabited α] [Inhabited β] {l:List α} {l':List β} {f:α->γ} {g:β->γ} (h:l'.length=l.length) (k:∀i,i<l.length->g (l'.getD i default)=f (l.getD i default)):l'.map g=l.map f:=by
 apply List.ext_getElem (by simp [h]);intro i h1 h2;simp only [List.length_map] at h1 h2;have:=k i h2;rw [gd h1,gd h2] at this;simpa using this
def viI (v:Value):Prop:=I64 v.N/\∀x∈v.I,I64 x
def inI (x:Input):Prop:=(∀v∈x.Fields,viI v)/\viI x.vY
theorem zlf {l:List Value} {ks:List Int} (h:FitL l ks) (k:∀v∈l,viI v):TL ks l:=⟨h.1,fun i hi=>⟨(h.2 i hi).1,(h.2 i hi).2,(k _ (getD_mem hi)).1,(k _ (getD_mem hi)).2⟩⟩
section
variable {p:Program} {x:Info} {c:Code} {typ me key:List UInt8} {args:List Value} {ins:List Input}
theorem CP.ty (h:CP p x c):c.Types.map zq.Name=p.Types.map zF.Name:=ziB h.l fun i hi=>(h.t i hi).1
theorem zgH (h:CP p x c) (hl:p.Types.length<=8):YE K c typ=some (max (tyI p.Types typ) 0,decide (tyI p.Types typ>=0)):=by
 unfold YE kC;have hcl:=h.l;have e:idx (fun t=>decide (zq.Name t=typ)) c.Types=tyI p.Types typ:=by
  unfold tyI;rw [zcY zq.Name (fun n=>decide (n=typ)),zcY zF.Name (fun n=>decide (n=typ)),h.ty]
 rw [show xH K c.Types typ=some (idx (fun t=>decide (zq.Name t=typ)) c.Types) from zcc (f:=fun x=>Xr K x typ) (fun _=>rfl) (by omega) fun _ _=>rfl,e];rfl
theorem zdW {t:zq} {at_:zF} (hl:t.Methods.length=at_.Methods.length) (hm:∀j,j<at_.Methods.length->(t.Methods.getD j default).Name=(at_.Methods.getD j default).Name) (h16:at_.Methods.length<=16):Zz K t me=some (max (meI at_.Methods me) 0,decide (meI at_.Methods me>=0)):=by
 unfold Zz je;have e:idx (fun t=>decide (zk.Name t=me)) t.Methods=meI at_.Methods me:=by
  unfold meI;rw [zcY zk.Name (fun n=>decide (n=me)),zcY Method.Name (fun n=>decide (n=me)),ziB hl hm]
 rw [show xE K t.Methods me=some (idx (fun t=>decide (zk.Name t=me)) t.Methods) from zcc (f:=fun x=>Yk K x me) (fun _=>rfl) (by omega) fun _ _=>rfl,e];rfl
theorem zki (h8:p.Types.length<=8) (h16:∀t∈p.Types,t.Methods.length<=16):Vy K p typ me=some (bif decide (tyI p.Types typ<0) then (⟨0,0,0⟩,false) else (⟨tyI p.Types typ,meI (p.Types.getD (tyI p.Types typ).toNat default).Methods me,0⟩,decide (meI (p.Types.getD (tyI p.Types typ).toNat default).Methods me>=0))):=by
 unfold Vy;rw [show xB K p.Types typ=some (tyI p.Types typ) from zcc (f:=fun x=>VR K x typ) (fun _=>rfl) (by omega) fun _ _=>rfl,zu]
 by_cases h:tyI p.Types typ<0
 .rw [decide_eq_true h];rfl
 .rw [decide_eq_false h,cond_false,cond_false]
  have hr:tyI p.Types typ=-1\/(0<=tyI p.Types typ/\tyI p.Types typ<(p.Types.length:Int)):=zeX _ _;have hlt:0<=tyI p.Types typ/\tyI p.Types typ<(p.Types.length:Int):=by omega
  have:=h16 _ (getD_mem (l:=p.Types) (i:=(tyI p.Types typ).toNat) (by omega));rw [zy hlt,show wC K (p.Types.getD (tyI p.Types typ).toNat default).Methods me=some (meI (p.Types.getD (tyI p.Types typ).toNat default).Methods me) from zcc (f:=fun x=>VU K x me) (fun _=>rfl) (by omega) fun _ _=>rfl];rfl
theorem zd3 {α:Type} [Inhabited α] {f:α->Int} {l:List α} (hl:l.length<=100) {body:(Nat×List Int->Option (List Int))->Nat×List Int->Option (List Int)} (hb:∀F x5,body F x5=bif (decide (((x5.1:Nat):Int)<((l.length:Nat):Int))) then (ifp (x5.1<l.length)<|ifp (x5.2.length+[f (l.getD x5.1 default)].length<=4000000)<|ifp (x5.1+1<=9223372036854775807)<|F ((x5.1+1),(x5.2++[f (l.getD x5.1 default)]))) else (some x5.2)):rounds body K (0,[])=some (l.map f):=by
 have:Tot (rounds body K (0,[])) fun r=>r=l.map f:=by
  refine tK (fun x=>x.1<=l.length/\x.2=(l.take x.1).map f) (fun x=>l.length - x.1) (fun F x hx hF=>?_) ⟨Nat.zero_le _,rfl⟩ (by simp only;omega);obtain ⟨x1,x2⟩:=hx;rw [hb];refine tD (fun e=>?_) fun e=>tS (by rw [x2,List.take_of_length_le (by omega)]);have e1:x.1<l.length:=by omega
  exact tI e1 fun _=>tI (by rw [x2];simp;omega) fun _=>tI (by omega) fun _=>hF _ ⟨by simp only;omega,by simp only;rw [x2,zbo e1]⟩ (by simp only;omega)
 obtain ⟨r,e,rfl⟩:=this;exact e
theorem zm6 {at_:zF} (hf:at_.Fields.length<=8) (hin:ins.length<=8):Tot (Yd K at_ ins) fun b=>b=true->0<ins.length/\(inp ins 0).vY=vz/\∀y∈ins,FitL y.Fields (at_.Fields.map Field.Kind):=by
 unfold Yd;refine tB (P:=fun b=>b=false->0<ins.length/\(inp ins 0).vY=vz) (tE (fun e=>tS fun h=>by cases h) fun e=>tI (by omega) fun _=>?_) fun b hb=>tC (fun _=>tS fun h=>by cases h) fun e=>?_
 .rw [show wQ K _ vz=some (decide ((inp ins 0).vY=vz)) from zbu (.inr (by decide)) (.inr (by decide)),zu]
  exact tS fun h=>⟨by omega,of_decide_eq_true (noB h)⟩
 .rw [show Xx K at_ K (0,[])=some (at_.Fields.map Field.Kind) from zd3 (f:=Field.Kind) (by omega) fun _ _=>rfl,zu]
  unfold wK;refine tB (ziF (l:=ins) (f:=fun y=>kY K y (at_.Fields.map Field.Kind)) (P:=fun y=>FitL y.Fields (at_.Fields.map Field.Kind)) (by omega) (fun y hy=>?_) fun _ _=>rfl) fun b' hb'=>tS fun h=>?_
  .unfold kY
   exact tB (zcG (by simp;omega)) fun b hb=>tS fun e=>hb.1 (noB e)
  .exact ⟨(hb e).1,(hb e).2,hb' (noB' h)⟩
theorem OKs.ne {X:VX} {n:Nat} {s:VS} {l:List zi} (h:OKs X ins n s l):l≠[]:=by
 induction h with
 | go _ _ ih=>exact ih
 | _=>simp
theorem vv_z:VV vz:=⟨by decide,.inl rfl,.inl rfl,.inl rfl,.inl rfl,by decide,by decide,by decide,by simp⟩
theorem zkG {X:VX} {t:zq} {st:List State} (hC:VC X t st) {n:Nat} (hn:n=X.m.zK.length) (ha:TL X.m.Params args) {fi:List Value} (hf:TL (t.Fields.map Field.Kind) fi):WT X t st ⟨0,args.take (List.replicate n vz).length++(List.replicate n vz).drop args.length,fi,[],[]⟩:=by
 have ok:=hC.c.ok;have hpl:=ok.pl;have hp4:=ok.p;have hl8:=ok.l;have hal:=ha.1;have hz:=hC.f.inv.zero;have e:args.take (List.replicate n vz).length++(List.replicate n vz).drop args.length=args++List.replicate (n - args.length) vz:=by
  rw [List.length_replicate,List.take_of_length_le (by omega),List.drop_replicate]
 rw [e];refine ⟨ok.cl,hz.1,by show TL (st.getD 0 default).stack [];rw [hz.2.1];exact .nil,by simp;omega,fun i hi=>?_,hf,by simp⟩;simp only [List.length_append,List.length_replicate] at hi
 by_cases hi2:i<args.length
 .left
  have h1:(args++List.replicate (n - args.length) vz).getD i default=args.getD i default:=by
   rw [gd (by simp;omega),gd hi2,List.getElem_append_left hi2]
  have h2:X.m.zK.getD i default=X.m.Params.getD i default:=by
   have hip:i<X.m.Params.length:=by omega
   have h3:(X.m.zK.take X.m.Params.length)[i]?=X.m.Params[i]?:=by rw [ok.pe]
   rw [List.getElem?_take_of_lt hip] at h3;simp only [List.getD,h3]
  show TV _ ((args++List.replicate (n - args.length) vz).getD i default);rw [h1,h2];exact ha.2 i hi2
 .right
  refine ⟨?_,?_⟩
  .show bit (st.getD 0 default).set i=false
   cases hb:bit (st.getD 0 default).set i with
   | false=>rfl
   | true =>
    have:=zhA hz.2.2 (by omega) hb;rw [zhz X.m.Params.length (by omega) i (by omega) (by omega)] at this;cases this
  .show (args++List.replicate (n - args.length) vz).getD i default=vz
   rw [gd (by simp;omega),List.getElem_append_right (by omega),List.getElem_replicate]
theorem zoN {ti mi:Int} {m:zk} {mt:Method} {bdy:Body} (h:CP p x c) (bo:BO p mt bdy):PC ⟨c,m,ti,mi,key⟩ p bdy mt.Nodes (DK bdy.kinds):=by
 refine ⟨fun j hj ho=>?_,fun nm mn m hm y hA hB=>?_⟩
 .unfold DK at hj
  cases e:mget bdy.kinds j with
  | none=>rw [e] at hj;cases hj
  | some v =>
   obtain ⟨m,h1,h2⟩:=bo.k j v e ho;exact ⟨m,h1,by unfold kdOf;rw [e,<-h2];rfl⟩
 .obtain ⟨h1,h2,h3⟩:=ziz hm
  have hlt:(tyI p.Types nm).toNat<p.Types.length:=by omega
  obtain ⟨c1,c2,c3,c4⟩:=h.t _ hlt;have mc:=c4 (meI (p.Types.getD (tyI p.Types nm).toNat default).Methods mn).toNat (by omega);unfold xJ;rw [hA,hB];refine ⟨c1.trans (zkL h1.1),mc.n.trans ?_,?_,mc.r.trans ?_⟩
  .exact zkl h2.1
  .rw [mc.pk,List.length_map,<-h3]
  .rw [<-h3]
theorem zlQ (hp:okPr p) (co:zkW p x c) (hin:ins.length<=8) (hal:args.length<=8) (h4:∀v∈args,viI v) (h5:∀y∈ins,inI y):∃h segs m i,YH K p typ me key args ins 300=some (h,segs)/\X0 K c typ me args=some (m,i)/\(h=1\/(h≠0/\i=h)\/(h=0/\i=0/\∃X t st lo,X.c=c/\X.key=key/\XC X t st/\InI t ins/\m=⟨X.ti,X.mi,((0:Nat):Int),lo⟩/\Bg X t st ins 0 0 lo segs)):=by
 have hv:=co.io.v;have hl8:=hv.l;have hcl:=co.cp.l;obtain ⟨l0,han⟩:=co.an;have hlo:=zki (p:=p) (typ:=typ) (me:=me) hl8 fun t ht=>(hv.t t ht).m;have hft:=zgH (typ:=typ) co.cp hl8;have htr:tyI p.Types typ=-1\/(0<=tyI p.Types typ/\tyI p.Types typ<(p.Types.length:Int)):=zeX _ _;have lift:∀{Q1:Int×List zi->Prop} {Q2:Machine×Int->Prop},Tot (YH K p typ me key args ins 300) Q1->Tot (X0 K c typ me args) Q2->(∀h segs m i,Q1 (h,segs)->Q2 (m,i)->(h=1\/(h≠0/\i=h)\/(h=0/\i=0/\∃X t st lo,X.c=c/\X.key=key/\XC X t st/\InI t ins/\m=⟨X.ti,X.mi,((0:Nat):Int),lo⟩/\Bg X t st ins 0 0 lo segs)))->∃h segs m i,YH K p typ me key args ins 300=some (h,segs)/\X0 K c typ me args=some (m,i)/\(h=1\/(h≠0/\i=h)\/(h=0/\i=0/\∃X t st lo,X.c=c/\X.key=key/\XC X t st/\InI t ins/\m=⟨X.ti,X.mi,((0:Nat):Int),lo⟩/\Bg X t st ins 0 0 lo segs)):=fun {Q1 Q2} ⟨⟨h,segs⟩,e1,q1⟩ ⟨⟨m,i⟩,e2,q2⟩ k=>⟨h,segs,m,i,e1,e2,k h segs m i q1 q2⟩
 by_cases hti:tyI p.Types typ<0
 .refine lift (Q1:=fun r=>r.1=14) (Q2:=fun r=>r.2=14) ?_ ?_ fun h segs m i q1 q2=>.inr (.inl ⟨by simp only at q1;omega,by simp only at q1 q2;omega⟩)
  .unfold YH
   rw [han,zu];dsimp only [onS];rw [hlo,zu,decide_eq_true hti];exact tFf rfl (tTt rfl (tS rfl))
  .unfold X0
   rw [co.vr,zu];refine tFf rfl ?_;rw [hft,zu,decide_eq_false (by omega)];exact tTt rfl (tS rfl)
 have htr:=htr.resolve_left (by omega);have hmax:max (tyI p.Types typ) 0=tyI p.Types typ:=by omega
 have hlt:(tyI p.Types typ).toNat<p.Types.length:=by omega
 obtain ⟨c1,c2,c3,c4⟩:=co.cp.t _ hlt;have hat:=hv.t _ (getD_mem hlt);have hbo:=co.io.m _ hlt;have hszt:=co.sz.t _ (getD_mem (l:=c.Types) (i:=(tyI p.Types typ).toNat) (by omega));have htc:0<=tyI p.Types typ/\tyI p.Types typ<(c.Types.length:Int):=by omega
 have hfm:=zdW (me:=me) c3 (fun j hj=>(c4 j hj).n) hat.m;have hmm:=getD_mem (l:=c.Types) (i:=(tyI p.Types typ).toNat) (by omega);rw [decide_eq_false hti,cond_false] at hlo;have hxl:=co.io.l;generalize hta:p.Types.getD (tyI p.Types typ).toNat default=ta at *;generalize htc':c.Types.getD (tyI p.Types typ).toNat default=tc at *;generalize hbd:x.bodies.getD (tyI p.Types typ).toNat default=bd at *;have hmr:meI ta.Methods me=-1\/(0<=meI ta.Methods me/\meI ta.Methods me<(ta.Methods.length:Int)):=zeX _ _
 by_cases hmi:meI ta.Methods me<0
 .refine lift (Q1:=fun r=>r.1=14) (Q2:=fun r=>r.2=14) ?_ ?_ fun h segs m i q1 q2=>.inr (.inl ⟨by simp only at q1;omega,by simp only at q1 q2;omega⟩)
  .unfold YH
   rw [han,zu];dsimp only [onS];rw [hlo,zu,decide_eq_false (show ¬(meI ta.Methods me>=0) by omega)];exact tFf rfl (tTt rfl (tS rfl))
  .unfold X0
   rw [co.vr,zu];refine tFf rfl ?_;rw [hft,zu,decide_eq_true (show tyI p.Types typ>=0 by omega),hmax];refine tFf rfl (tI htc fun _=>?_);rw [htc',hfm,zu,decide_eq_false (show ¬(meI ta.Methods me>=0) by omega)];exact tTt rfl (tS rfl)
 have hmr:=hmr.resolve_left (by omega);have hmx:max (meI ta.Methods me) 0=meI ta.Methods me:=by omega
 have hml:(meI ta.Methods me).toNat<ta.Methods.length:=by omega
 have hmc:0<=meI ta.Methods me/\meI ta.Methods me<(tc.Methods.length:Int):=by omega
 have mc:=c4 _ hml;have vm:=hat.b _ (getD_mem hml);have bo:=hbo.2 _ hml;have hcm:=getD_mem (l:=tc.Methods) (i:=(meI ta.Methods me).toNat) (by omega);have hbody:vI K x (tyI p.Types typ) (meI ta.Methods me)=some (bd.getD (meI ta.Methods me).toNat default,true):=by
  have:=zk2 (x:=x) (t:=tyI p.Types typ) (m:=meI ta.Methods me) ⟨by omega,by omega⟩ ⟨by omega,by rw [hbd];have:=hbo.1;omega⟩;rwa [hbd] at this
 generalize hmt:ta.Methods.getD (meI ta.Methods me).toNat default=mt at *;generalize hcm':tc.Methods.getD (meI ta.Methods me).toNat default=cm at *;generalize hbdy:bd.getD (meI ta.Methods me).toNat default=bdy at *;have hp4:=vm.p;have hpk:cm.Params=mt.Params.map Param.Kind:=mc.pk;obtain ⟨fb,hfb,hfit⟩:=zcG (l:=args) (ks:=mt.Params.map Param.Kind) (by simp;omega);have hkr:Ql K p (⟨tyI p.Types typ,meI ta.Methods me,0⟩,true) K (0,[])=some (mt.Params.map Param.Kind):=by
  refine zd3 (f:=Param.Kind) (l:=mt.Params) (by omega) fun F x5=>?_;show (bif decide (((x5.1:Nat):Int)<((((p.Types.getD (tyI p.Types typ).toNat default).Methods.getD (meI ta.Methods me).toNat default).Params.length:Nat):Int)) then _ else _)=_;simp only [hta,hmt]
 cases fb with
 | false =>
  refine lift (Q1:=fun r=>r.1=15) (Q2:=fun r=>r.2=15) ?_ ?_ fun h segs m i q1 q2=>.inr (.inl ⟨by simp only at q1;omega,by simp only at q1 q2;omega⟩)
  .unfold YH
   rw [han,zu];dsimp only [onS];rw [hlo,zu,decide_eq_true (show meI ta.Methods me>=0 by omega)];refine tFf rfl (tFf rfl (tI htr fun _=>tI (by rw [hta];exact hmr) fun _=>?_));rw [hkr,zu,hfb,zu];exact tTt rfl (tS rfl)
  .unfold X0
   rw [co.vr,zu];refine tFf rfl ?_;rw [hft,zu,decide_eq_true (show tyI p.Types typ>=0 by omega),hmax];refine tFf rfl (tI htc fun _=>?_);rw [htc',hfm,zu,decide_eq_true (show meI ta.Methods me>=0 by omega),hmx];refine tFf rfl (tI htc fun _=>tI hmc fun _=>?_);rw [hcm',hpk,hfb,zu];exact tTt rfl (tS rfl)
 | true =>
  have hF:=hfit.1 rfl;have hcpa:∀v∈args,cpOk v:=fun v hv=>by
   obtain ⟨i,hi,rfl⟩:=List.getElem_of_mem hv;have:=(hF.2 i hi).2.cp;rwa [gd hi] at this
  have hlen:cm.zK.length=bdy.locals.length:=by rw [mc.lk,List.length_map]
  have hbl:=bo.l;refine lift (Q1:=fun r=>r.1=1\/(r.1=0/\∃X t st,X.c=c/\X.key=key/\XC X t st/\InI t ins/\X.ti=tyI p.Types typ/\X.mi=meI ta.Methods me/\Bg X t st ins 0 0 (args.take (List.replicate bdy.locals.length vz).length++(List.replicate bdy.locals.length vz).drop args.length) r.2)) (Q2:=fun r=>r=(⟨tyI p.Types typ,meI ta.Methods me,0,args.take (List.replicate bdy.locals.length vz).length++(List.replicate bdy.locals.length vz).drop args.length⟩,0)) ?_ ?_ fun h segs m i q1 q2=>?_
  .unfold YH
   rw [han,zu];dsimp only [onS];rw [hlo,zu,decide_eq_true (show meI ta.Methods me>=0 by omega)];refine tFf rfl (tFf rfl (tI htr fun _=>tI (by rw [hta];exact hmr) fun _=>?_));rw [hkr,zu,hfb,zu];dsimp only;rw [hta,hmt];refine tFf rfl (tB (P:=fun b=>b=false->key.length<=32/\0<ins.length/\(inp ins 0).vY=vz/\∀y∈ins,FitL y.Fields (ta.Fields.map Field.Kind)) (tD (fun _=>tS fun h=>by cases h) fun e=>tB (zm6 hat.f hin) fun b hb=>tS fun h=>⟨by omega,hb (noB h)⟩) fun x9 h9=>tC (fun _=>tS (.inl rfl)) fun e9=>?_);obtain ⟨hkey,hpos,hrep,hfits⟩:=h9 (by cases x9<;>simp_all);refine tB (P:=fun l=>l=bdy.locals) (by unfold Zu;rw [hbody,zu];exact tI (show bdy.locals.length<=4000000 by omega) fun _=>tS rfl) fun l hl=>?_;subst hl;refine tI (by omega) fun _=>?_;rw [Qk (by omega) hcpa,zu];obtain ⟨st,hst,hfin⟩:=co.ver.an tc hmm cm hcm;have hfl:tc.Fields.length<=8:=by rw [c2];exact hat.f
   have ii:InI tc ins:=⟨fun n hn=>by rw [c2];exact zlf (hfits _ (getD_mem hn)) (h5 _ (getD_mem hn)).1,fun n hn=>(h5 _ (getD_mem hn)).2⟩;have xc:XC ⟨c,cm,tyI p.Types typ,meI ta.Methods me,key⟩ tc st:=⟨⟨hkey,hfl,mc.s.v,zk4 co.ver.ok hmm hcm,hfin⟩,co.vr,htc,htc'.symm,hmc,hcm'.symm,hst,by have:=hat.m;omega,show c.Types.length<=8 by omega⟩;have pk:PK ⟨c,cm,tyI p.Types typ,meI ta.Methods me,key⟩ tc st p bdy mt.Nodes ins (DK bdy.kinds):=⟨xc,⟨vm.b,vm.ok.k,vm.l⟩,ii,hin⟩;have pc:=zoN (ti:=tyI p.Types typ) (mi:=meI ta.Methods me) (key:=key) (m:=cm) co.cp bo;have w0:=zkG xc.v (n:=bdy.locals.length) hlen.symm (args:=args) (by show TL cm.Params args;rw [hpk];exact zlf hF h4) (ii.f 0 hpos);generalize hlo':args.take (List.replicate bdy.locals.length vz).length++(List.replicate bdy.locals.length vz).drop args.length=lo at *;refine tB (P:=fun y=>y=((⟨x,ta,⟨tyI p.Types typ,meI ta.Methods me,0⟩,mt.Nodes,key,ins,1⟩:zL),(⟨300,300⟩:zH),false,(inp ins 0).Fields)) ?_ fun y hy=>?_
   .unfold Wq
    refine tI (show (0:Int)<=0/\(0:Int)<(ins.length:Int) by omega) fun _=>?_;have hf0:=ii.f 0 hpos;have:=hf0.1;rw [List.length_map] at this;show Tot ((yM K (inp ins 0).Fields).bind _) _;rw [Qk (by omega) hf0.cp,zu];exact tS rfl
   subst hy;obtain ⟨z,hce,hend⟩:=mc.c;have hlenN:=vm.b.len;have hroot:=vm.b.root;have hl15:=vm.l;rw [show W ((((mt.Nodes.length:Nat):Int)) - 1)=(mt.Nodes.length:Int) - 1 from W_id (by omega) (by omega)];have hA:TA ⟨c,cm,tyI p.Types typ,meI ta.Methods me,key⟩ bdy mt.Nodes ins (⟨x,ta,⟨tyI p.Types typ,meI ta.Methods me,0⟩,mt.Nodes,key,ins,1⟩:zL):=⟨rfl,rfl,rfl,⟨Int.le_refl 1,by show (1:Int)<=_;omega⟩,hbody⟩;have bg:∀{l:List zi},OKs ⟨c,cm,tyI p.Types typ,meI ta.Methods me,key⟩ ins 1 ⟨0,lo,(inp ins 0).Fields,[],[]⟩ l->Bg ⟨c,cm,tyI p.Types typ,meI ta.Methods me,key⟩ tc st ins 0 0 lo l:=fun {l} h=>⟨hpos,0,.inl ⟨rfl,rfl⟩,⟨rfl,fun i hi=>by
    have:i=0:=by simp at hi;omega
    subst this;exact ⟨by show (inp ins 0).vY.Kind=0;rw [hrep],by show VV (inp ins 0).vY;rw [hrep];exact vv_z⟩⟩,w0,h⟩
   refine tB (zkH pk pc (((mt.Nodes.length:Int) - 1).toNat+1) ((mt.Nodes.length:Int) - 1) (by omega) ⟨by omega,by omega,bo.t⟩ (by omega) K (by show _<=5000000;omega) (⟨x,ta,⟨tyI p.Types typ,meI ta.Methods me,0⟩,mt.Nodes,key,ins,1⟩:zL) (⟨300,300⟩:zH) [] ⟨0,lo,(inp ins 0).Fields,[],[]⟩ z hA ⟨rfl,by decide,by decide⟩ rfl w0 rfl hce) fun o ho=>?_;rcases ho with ⟨A1,B1,fi,lo1,ef,sg1,rfl,ne,hr⟩|⟨A1,B1,fi,lo1,ef,sg1,rfl,new,e,hd⟩|⟨A1,fi,ef,B1,lo1,sg1,rfl,new,e,hd⟩
   .dsimp only [onS]
    have h32:cm.Code[z]?=some (mkI 32 0 0):=hend.elim (fun h=>absurd h.2 ne) fun h=>h.1;obtain ⟨new,e,hok⟩:=hr.ok;have hx:=zn4 (s:=⟨z,lo1,fi,[],ef⟩) xc.v hr.w h32;have hfinal:=hok _ (OKs.fi hx);refine tB (P:=fun o=>o=.inl (A1,fi,ef,B1,sg1++[seg 1 vz zc 0 fi ef])) (tTt rfl ?_) fun o ho=>?_
    .rw [show um K vz A1 B1 false fi lo1 ef sg1=_ from zfL zbB (hr.sl hin),zu]
     exact tS rfl
    .subst ho
     exact tS (.inr ⟨rfl,_,tc,st,rfl,rfl,xc,ii,rfl,rfl,bg (by rw [e,List.nil_append];exact hfinal)⟩)
   .dsimp only [onS]
    refine tB (P:=fun o=>o=.inr ()) (tFf rfl (tS rfl)) fun o ho=>?_;subst ho;exact tS (.inr ⟨rfl,_,tc,st,rfl,rfl,xc,ii,rfl,rfl,bg (by rw [e,List.nil_append];exact hd)⟩)
   .exact tS (.inr ⟨rfl,_,tc,st,rfl,rfl,xc,ii,rfl,rfl,bg (by rw [e,List.nil_append];exact hd)⟩)
  .unfold X0
   rw [co.vr,zu];refine tFf rfl ?_;rw [hft,zu,decide_eq_true (show tyI p.Types typ>=0 by omega),hmax];refine tFf rfl (tI htc fun _=>?_);rw [htc',hfm,zu,decide_eq_true (show meI ta.Methods me>=0 by omega),hmx];refine tFf rfl (tI htc fun _=>tI hmc fun _=>?_);rw [hcm',hpk,hfb,zu];refine tFf rfl (tI (by omega) fun _=>?_);rw [zal (by omega) hcpa,zu,hlen];exact tS rfl
  .rcases q1 with q1|⟨q1,X,t,st,x1,x2,x3,x4,x5,x6,x7⟩
   .exact .inl q1
   .injection q2 with q2 q3
    exact .inr (.inr ⟨q1,q3,X,t,st,_,x1,x2,x3,x4,by rw [q2,x5,x6];rfl,x7⟩)
end
end Md
end Go.Proofs.YtbijabmjbgplbaaGreatDoor
namespace Go.Proofs.YtbijabmjbgplbaaGreatDoor
namespace Md
theorem cpOk.s {v:Value} (h:cpOk v):v.I.length<5000000/\v.L.length<5000000:=⟨by have:=h.1;omega,by have:=h.2;omega⟩
theorem zfb {l:List Int} (h:l.length<5000000):wX K l l=some true:=by
 unfold wX ZY;rw [bne_self_eq_false,cond_false,uq (L:=l.length) (y:=.inl ()) (fun i=>i) h (fun F i hi=>?_) fun F=>lt_f]
 .rfl
 .rw [lt_t hi,zy hi,zy hi,bne_self_eq_false,cond_false,zy (by omega)]
theorem zmP {l:List (List UInt8)} (h:l.length<5000000):uY K l l=some true:=by
 unfold uY Ze;rw [bne_self_eq_false,cond_false,uq (L:=l.length) (y:=.inl ()) (fun i=>i) h (fun F i hi=>?_) fun F=>lt_f]
 .rfl
 .rw [lt_t hi,zy hi,zy hi]
  simp only [decide_true,Bool.not_true,cond_false];rw [zy (by omega)]
theorem zdh {v:Value} (h:cpOk v):yR K v v=some true:=by
 unfold yR;rw [zfb h.s.1,zmP h.s.2];simp
theorem zf_ {l:List Value} (hl:l.length<5000000) (h:∀v∈l,cpOk v):vk K l l=some true:=by
 unfold vk Zh;rw [bne_self_eq_false,cond_false,uq (L:=l.length) (y:=.inl ()) (fun i=>i) hl (fun F i hi=>?_) fun F=>lt_f]
 .rfl
 .rw [lt_t hi,zy hi,zy hi,zdh (h _ (getD_mem hi)),zu,Bool.not_true,cond_false,zy (by omega)]
theorem zmO {r h:zi} (g:sgS h) (e1:r.Kind=h.Kind) (e2:r.Value=h.Value) (e3:r.Call=h.Call) (e4:r.Err=h.Err) (e5:r.Fields=h.Fields) (e6:r.qw=h.qw):qg K r h=some true:=by
 obtain ⟨g1,g2,g3,g4⟩:=g;unfold qg Zg;rw [e1,e2,e3,e4,e5,e6,zdh g1,zf_ (by omega) g2.2,zf_ (by omega) g3.2];simp only [bne_self_eq_false,cond_false,zu,Bool.not_true,decide_true,Bool.and_self,Bool.or_self];rw [uq (L:=h.qw.length) (y:=.inl ()) (fun i=>i) (by omega) (fun F i hi=>?_) fun F=>lt_f]
 .rfl
 .rw [lt_t hi,zy hi,zy hi]
  simp only [beq_self_eq_true,decide_true,Bool.and_self,Bool.not_true,cond_false];rw [zy (by omega)]
theorem zmM {l:List Field} (hl:l.length<=1000) (h:∀f∈l,V6 f.Init):uX K l l=some true:=by
 unfold uX Zd;rw [bne_self_eq_false,cond_false,uq (L:=l.length) (y:=.inl ()) (fun i=>i) (by omega) (fun F i hi=>?_) fun F=>lt_f]
 .rfl
 .rw [lt_t hi]
  simp only [zy hi,decide_true,Bool.not_true,cond_false,bne_self_eq_false];rw [show yR K (l.getD i default).Init (l.getD i default).Init=_ from zdh (h _ (getD_mem hi)).vv.cp,zu,Bool.not_true,cond_false,zy (by omega)]
theorem zmN {m:zk} (h:W7 m):uZ K m m=some true:=by
 have hc:=h.c;have hp:=h.p.1;have hl:=h.l.1;unfold uZ Zf;rw [zfb (by omega),zfb (by omega)];simp only [bne_self_eq_false,cond_false,zu,Bool.not_true,decide_true,Bool.or_self];rw [uq (L:=m.Code.length) (y:=.inl ()) (fun i=>i) (by omega) (fun F i hi=>?_) fun F=>lt_f]
 .rfl
 .have hv:cpOk (m.Code.getD i default).Value:=by
   rcases (h.x _ (getD_mem hi)).v with ⟨_,q⟩|⟨_,q⟩
   .exact q.vv.cp
   .rw [q];exact zbB
  rw [lt_t hi];simp only [zy hi,cond_false,bne_self_eq_false];rw [show yR K (m.Code.getD i default).Value (m.Code.getD i default).Value=_ from zdh hv,zu,Bool.not_true,cond_false,zy (by omega)]
theorem znj {c:Code} (hl:c.Types.length<=8) (h:∀t∈c.Types,Ty7 t):jG K c c=some true:=by
 unfold jG Y7;rw [bne_self_eq_false,cond_false,uq (L:=c.Types.length) (y:=.inl ()) (fun i=>i) (by omega) (fun F i hi=>?_) fun F=>lt_f]
 .rfl
 .have ht:=h _ (getD_mem hi)
  rw [lt_t hi,zy hi,zy hi];unfold YP;generalize c.Types.getD i default=t at *;have hf:=ht.f.1;have hm:=ht.m.1;rw [zmM (by omega) fun f hf=>(ht.f.2 f hf).2.2];simp only [decide_true,Bool.not_true,cond_false,zu,bne_self_eq_false,Bool.or_self];rw [uq (L:=t.Methods.length) (y:=.inl ()) (fun i=>i) (by omega) (fun G j hj=>?_) fun F=>lt_f,zu]
  .exact zy (by omega)
  .rw [lt_t hj,zy hj,zy hj,zmN (ht.m.2 _ (getD_mem hj)),zu,Bool.not_true,cond_false,zy (by omega)]
theorem zo2 {c:Code} {t:zq} {m:zk} (hs:szM m) (h:okMt c t m/\m.Code.length<=3000) (hn:m.Name.length<=32) (hf:t.Fields.length<=8) (hc:c.Types.length<=8) (hm:∀t∈c.Types,t.Methods.length<=16):W7 m:=by
 obtain ⟨ok,hl⟩:=h;have hl8:=ok.l;have hI:∀y∈m.zK,I64 y:=fun y hy=>by have:=ok.lk y hy;exact ⟨by omega,by omega⟩
 refine ⟨hn,⟨ok.p,fun y hy=>?_⟩,⟨hl8,hI⟩,ok.r,hl,fun x hx=>?_⟩
 .rw [<-ok.pe] at hy
  exact hI y (List.mem_of_mem_take hy)
 .have hi:=ok.i x hx
  have ho:=hi.o;have hv:=hs.v x hx;have hca:x.Op=30->((c.Types.getD x.A.toNat default).Methods.length:Int)<=16:=fun e=>by
   have:=(hi.call e).1;have:=hm _ (getD_mem (l:=c.Types) (i:=x.A.toNat) (by omega));omega
  refine ⟨by omega,?_,?_,?_⟩
  .rcases hi.a with q|q|q|q|q
   .by_cases q2:x.Op=2\/x.Op=3
    .have:=hi.loc q2;omega
    .have:=hi.fld (by omega);omega
   .have:=hi.mak (.inl q);omega
   .have:=hi.mak (.inr q);omega
   .by_cases q2:x.Op=30
    .have:=(hi.call q2).1;omega
    .have:=hi.jmp (by omega);omega
   .omega
  .rcases hi.b with q|q
   .have:=(hi.call q).2;have:=hca q;omega
   .omega
  .by_cases q:x.Op=1
   .exact .inl ⟨q,(hi.push q).1,hv.n,hv.ii⟩
   .exact .inr ⟨q,hi.v.resolve_left q⟩
theorem zoV {c:Code} (hs:szC c) (h:okC c):∀t∈c.Types,Ty7 t:=fun t ht=>by
 have s:=hs.t t ht;have o:=h.t t ht;refine ⟨h.n t ht,⟨s.f,fun f hf=>?_⟩,⟨s.m,fun m hm=>zo2 (s.mi m hm) (h.m t ht m hm) (o.m m hm) s.f hs.l fun t ht=>(hs.t t ht).m⟩⟩;obtain ⟨f1,f2,f3,f4⟩:=o.f f hf;have fi:=(s.fi f hf).2;exact ⟨f1,by omega,f4,fi.n,fi.ii⟩
theorem Ty7.t6 {t:zq} (h:Ty7 t):Ty6 t:=⟨⟨by have:=h.f.1;omega,fun f hf=>(h.f.2 f hf).2.2⟩,⟨by have:=h.m.1;omega,fun m hm=>by
 have w:=h.m.2 m hm;exact ⟨⟨by have:=w.p.1;omega,w.p.2⟩,⟨by have:=w.l.1;omega,w.l.2⟩,by have:=w.c;omega,fun x hx e=>by
  rcases (w.x x hx).v with q|q
  .exact q.2
  .exact absurd e q.1⟩⟩⟩
theorem zgI {α:Type} (f:α->List UInt8) (B:Nat) (l:List α) (h:∀x∈l,(f x).length<=B):(l.flatMap f).length<=B*l.length:=by
 induction l with
 | nil=>simp
 | cons y l ih =>
  have h1:=h y (List.mem_cons_self ..);have h2:=ih fun y hy=>h y (List.mem_cons_of_mem _ hy);rw [List.flatMap_cons,List.length_append,List.length_cons,Nat.mul_add];omega
theorem zdN {n:Nat} (h:n<128):(enc n).length<=1:=zeR 0 _ (by omega)
theorem znG {n:Int} (h:0<=n) (h2:n<128):(encN n).length<=1:=by
 unfold encN;rw [zax];exact zdN (by omega)
theorem zk6 {v:Value} (h:VV v):(encV v).length<=1042:=by
 have h1:=h.sl;have h2:=h.il;have h3:=h.ll;have a1:=QM v.N;have a2:=zgI encI 10 v.I fun x _=>QM x;have a3:=zgI encS 65 v.L fun x hx=>by
  have:=h.lx x hx;have:=zdN (n:=x.length) (by omega);unfold encS;rw [List.length_append];omega
 have b1:=zdN (n:=v.S.length) (by omega);have b2:=zdN (n:=v.I.length) (by omega);have b3:=zdN (n:=v.L.length) (by omega);unfold encV encB encL;rw [show encS v.S=enc v.S.length++v.S from rfl];simp only [List.length_cons];split
 .omega
 split
 .simp
 split
 .simp only [List.length_append];omega
 split
 .simp only [List.length_append];omega
 split
 .simp only [List.length_append];omega
 .simp
theorem znI {x:Instr} (h:I7 x):(encX x).length<=1063:=by
 have h1:=Vw x.A;have h2:=Vw x.B;have ho:=h.o;have h4:=znG (n:=x.Op) (by omega) (by omega);unfold encX;simp only [List.length_append];split
 .rename_i e
  rcases h.v with q|q
  .have:=zk6 q.2.vv;omega
  .exact absurd e q.1
 .simp;omega
theorem zhX {s:List UInt8} (h:s.length<=32):(encS s).length<=33:=by
 have:=zdN (n:=s.length) (by omega);unfold encS;rw [List.length_append];omega
theorem znF {m:zk} (h:W7 m):(encM m).length<=200+1063*m.Code.length:=by
 have h1:=zhX h.n;have hp:=h.p.1;have hl:=h.l.1;have h2:=zdN (n:=m.Params.length) (by omega);have h3:=zdN (n:=m.zK.length) (by omega);have h4:=zgI encI 10 m.Params fun x _=>QM x;have h5:=zgI encI 10 m.zK fun x _=>QM x;have h6:=Vw m.Result;have h7:=Vw (m.Code.length:Nat);have h8:=zgI encX 1063 m.Code fun x hx=>znI (h.x x hx);unfold encM encL;simp only [List.length_append];omega
theorem zhW:∀(l:List zk),(∀m∈l,W7 m)->(l.flatMap encM).length<=200*l.length+1063*(l.map (·.Code.length)).sum
 | [],_=>by simp
 | m::r,h=>by
  have h1:=zhW r fun x hx=>h x (List.mem_cons_of_mem _ hx);have h2:=znF (h m (List.mem_cons_self ..));rw [List.flatMap_cons,List.length_append,List.length_cons,List.map_cons,List.sum_cons];omega
theorem znH {t:zq} (h:Ty7 t):(encT t).length<=13000+1063*cnt t:=by
 have h1:=zhX h.n;have hf:=h.f.1;have hm:=h.m.1;have h2:=Vw (t.Fields.length:Nat);have h3:=Vw (t.Methods.length:Nat);have h4:=zgI encF 1100 t.Fields fun f hf=>by
  obtain ⟨f1,f2,f3⟩:=h.f.2 f hf;have a1:=zhX f1;have a2:=Vw f.Kind;have a3:=zk6 f3.vv;unfold encF;simp only [List.length_append];omega
 have h5:=zhW t.Methods h.m.2;unfold encT cnt;simp only [List.length_append];omega
theorem zhY:∀(l:List zq),(∀t∈l,Ty7 t)->(l.flatMap encT).length<=13000*l.length+1063*(l.map cnt).sum
 | [],_=>by simp
 | m::r,h=>by
  have h1:=zhY r fun x hx=>h x (List.mem_cons_of_mem _ hx);have h2:=znH (h m (List.mem_cons_self ..));rw [List.flatMap_cons,List.length_append,List.length_cons,List.map_cons,List.sum_cons];omega
theorem znE {c:Code} (hl:c.Types.length<=8) (h:∀t∈c.Types,Ty7 t) (ht:(c.Types.map cnt).sum<=3000):(encC c).length<=3400000:=by
 have h1:=zhY c.Types h;have h2:=Vw (c.Types.length:Nat);unfold encC;rw [List.length_append];omega
end Md
end Go.Proofs.YtbijabmjbgplbaaGreatDoor
namespace Go.Proofs.YtbijabmjbgplbaaGreatDoor
namespace Md
theorem zmG:XF K=some true:=by kernel_rfl
end Md
end Go.Proofs.YtbijabmjbgplbaaGreatDoor
namespace Go.Proofs.YtbijabmjbgplbaaGreatDoor
namespace Md
theorem OKs.len {X:VX} {ins:List Input} {n:Nat} {s:VS} {l:List zi} (h:OKs X ins n s l):n<=ins.length->l.length+n<=ins.length+1:=by
 induction h with
 | go _ _ ih=>exact ih
 | cl x hn hf k ih=>intro h;have:=ih (by omega);simp only [List.length_cons];omega
 | _=>intro h;simp only [List.length_cons,List.length_nil];omega
theorem zke {X:VX} {t:zq} {st:List State} {ins:List Input} {want:List zi} {lo:List Value} {e1 e2 e3:Int} (h:XC X t st) (hi:InI t ins) (hl:ins.length<=8) (b:Bg X t st ins 0 0 lo want):Tot (uQ K (e1,want) ins (X.c,e2,e3) X.key K (0,⟨X.ti,X.mi,((0:Nat):Int),lo⟩)) fun o=>o=.inl ()\/o=.inr true:=by
 have hwl:want.length<=100:=by
  obtain ⟨hn,k,_,_,_,ok⟩:=b;have:=ok.len (by omega);omega
 unfold uQ;refine tK (fun x=>x.1<=want.length/\(x.1=want.length\/∃pc lo,x.2=⟨X.ti,X.mi,((pc:Nat):Int),lo⟩/\Bg X t st ins x.1 pc lo (want.drop x.1))) (fun x=>want.length - x.1) (fun F x hx hF=>?_) ⟨Nat.zero_le _,.inr ⟨0,lo,rfl,b⟩⟩ (by simp only;omega);obtain ⟨i,m⟩:=x;obtain ⟨h1,h2⟩:=hx;dsimp only at h1 h2 ⊢;refine tD (fun e=>?_) fun e=>tS (.inl rfl);have hiw:i<want.length:=by omega
 obtain ⟨pc,lo,rfl,bg⟩:=h2.resolve_left (by omega);have hii:=bg.hn;refine tI hii fun _=>tI hii fun _=>tB (zm_ h hi bg) fun r hr=>?_;obtain ⟨hr0,hm⟩:=hr;rw [hr0];refine tFf rfl ?_;have hd:want.drop i=want.getD i default::want.drop (i+1):=by rw [List.drop_eq_getElem_cons hiw,gd hiw]
 have stop:Tot (some (Sum.inr true):Option (Unit ⊕ Bool)) fun o=>o=.inl ()\/o=.inr true:=tS (.inr rfl);rcases hm with e17|⟨hd',l',hc,hm⟩
 .exact tB (P:=fun b=>b=true) (tTt (beq_iff_eq.2 e17) (tS rfl)) fun b hb=>tTt hb stop
 rw [hd] at hc;injection hc with hc1 hc2
 subst hc1 hc2
 by_cases e17:r.1.Err=17
 .exact tB (P:=fun b=>b=true) (tTt (beq_iff_eq.2 e17) (tS rfl)) fun b hb=>tTt hb stop
 rcases hm with w17|⟨g,q1,q2,q3,q4,q5,q6,q7⟩
 .exact tB (P:=fun b=>b=true) (tFf (beq_eq_false_iff_ne.2 e17) (tI hiw fun _=>tI hiw fun _=>tS (beq_iff_eq.2 w17))) fun b hb=>tTt hb stop
 refine tB (P:=fun b=>b=false) (tFf (beq_eq_false_iff_ne.2 e17) (tI hiw fun _=>tI hiw fun _=>tS (beq_eq_false_iff_ne.2 (by rw [<-q4];exact e17)))) fun b hb=>tFf hb (tI hiw fun _=>tI hiw fun _=>?_);rw [zmO g q1 q2 q3 q4 q5 q6,zu];refine tFf rfl (tI hiw fun _=>tI hiw fun _=>tFf (by rw [q1,beq_self_eq_true];rfl) (tI (by omega) fun _=>hF _ ⟨hiw,?_⟩ (by simp only;omega)));rcases q7 with q7|⟨pc',lo',q7,q8⟩
 .left
  have:=congrArg List.length q7;rw [List.length_drop] at this;simp only [List.length_nil] at this;show i+1=want.length;omega
 .exact .inr ⟨pc',lo',q7,q8⟩
theorem zbv (a0 a1 a2 a3:List UInt8) (a4:List Value) (a5:List Input) (h4:∀v∈a4,viI v) (h5:∀y∈a5,inI y):qK K a0 a1 a2 a3 a4 a5=some true:=by
 suffices h:Tot (qK K a0 a1 a2 a3 a4 a5) fun b=>b=true by
  obtain ⟨b,e,rfl⟩:=h;exact e
 unfold qK;rw [zmG,zu];refine tFf rfl (tC (fun _=>tS rfl) fun hsz=>?_);simp only [Bool.or_eq_false_iff,decide_eq_false_iff_not] at hsz;refine tB (zjt a0) fun r hr=>?_;refine tB (zg0 hr) fun q hq=>tC (fun _=>tS rfl) fun e=>?_;simp only [Bool.or_eq_false_iff] at e;have e2:q.2.2=0:=by
  have:=e.2
  by_cases h:q.2.2=0
  .exact h
  .rw [bne_iff_ne.2 h] at this;cases this
 obtain ⟨x,co⟩:=hq e2;have hT:=zoV co.sz co.ver.ok;have h8:=co.sz.l;have hlen:=znE h8 hT co.ver.ok.tot;have hrf:xI K q.1=some true:=by
  obtain ⟨b,e,hb⟩:=zb0 co.sz;cases b with
  | true=>exact e
  | false =>
   have:=co.vr;unfold vC at this;rw [e,zu] at this;cases this
 rw [zjn hrf (by omega) (fun t ht=>(hT t ht).t6) hlen,zu,zjm hrf h8 hT hlen,zu];refine tB (P:=fun b=>b=false) (tFf rfl ?_) fun b hb=>?_
 .rw [zu]
  exact tS (by simp)
 subst hb;refine tB (P:=fun b=>b=false) (tFf rfl ?_) fun b hb=>?_
 .rw [show jG K q.1 q.1=_ from znj h8 hT,zu]
  exact tS rfl
 subst hb;refine tFf rfl ?_;obtain ⟨h,segs,m,i,hrun,hst,hh⟩:=zlQ (typ:=a1) (me:=a2) (key:=a3) (args:=a4) (ins:=a5) hr co (by omega) (by omega) h4 h5;rw [hrun,zu,show X0 K q.1 a1 a2 a4=_ from hst,zu];dsimp only;rcases hh with rfl|⟨h0,rfl⟩|⟨rfl,rfl,X,t,st,lo,xe,rfl,xc,ii,rfl,bg⟩
 .exact tTt rfl (tS rfl)
 .refine tTt ?_ (tS ?_)
  .rw [bne_iff_ne.2 h0];simp
  .rw [beq_self_eq_true,Bool.or_true]
 .rw [<-xe]
  refine tFf rfl (tB (zke xc ii (by omega) bg) fun o ho=>?_);rcases ho with rfl|rfl
  .refine tS (decide_eq_true ?_)
   obtain ⟨hn,k,_,_,_,ok⟩:=bg;have:=ok.ne;have:segs.length≠0:=fun e=>this (List.length_eq_zero_iff.1 e);omega
  .exact tS rfl
end Md
end Go.Proofs.YtbijabmjbgplbaaGreatDoor
