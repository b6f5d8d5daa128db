import Derived.Test.YtclffekkjfhpdaaGreatQPl
import Derived.Test.YtclffekkjfhpdaaGreatQMo
namespace Go.Proofs.YtclffekkjfhpdaaGreat
set_option linter.unusedVariables false
set_option linter.unusedSimpArgs false
namespace Md
theorem rword_eq (k:Nat) (c:UInt8):zdD k c=some (wordC c):=by
 unfold zdD zdL zdb wordC
 rw [bind_e rfl]
 show (Option.bind (bif letB c then some true else _) _)=_
 cases letB c<;>rfl
theorem rkw_eq (k:Nat) (s:List UInt8):zcJ k s=some (kwB s):=by
 rw [show zcJ k s=zcH k s from rfl,kw_eq]
theorem rname_eq (k:Nat) (s:List UInt8) (hk:s.length<k) (hs:s.length≤4000000):zcr k s=some (nameB s):=by
 unfold zcr
 have hl:=loopE s.length (fun i=>if (!wordC (s.getD i 0))=true then some false else none) (fun n i=>zaQ k s n i) (fun n i hi=>by
  show zaQ k s (n+1) i=_
  rw [zaQ,lt_t hi,cond_true,ifp_pos hi,rword_eq,bind_e rfl,ifp_pos (by omega)]
  cases wordC (s.getD i 0)<;>rfl) (fun n i hi=>by
  show zaQ k s (n+1) i=_
  rw [zaQ,lt_f hi];rfl) k 0 (by omega)
 rcases hl with ⟨h1,h2⟩|⟨j,r,_,h3,h4,_,h5⟩
 ·rw [show zaQ k s k 0=_ from h1,bind_e rfl]
  have hw:∀c∈s,wordC c=true:=fun c hc=>by
   obtain ⟨i,hi,rfl⟩:=List.getElem_of_mem hc
   have:=h2 i (Nat.zero_le _) hi
   have e:s.getD i 0=s[i]:=by simp [List.getD,hi]
   rw [e] at this
   cases q:wordC s[i]
   ·rw [q] at this;simp at this
   ·rfl
  show Option.bind (bif _ then _ else _) _=_
  by_cases h0:1≤s.length∧s.length≤32
  ·rw [decide_eq_true (by omega),decide_eq_true (by omega),Bool.and_self,cond_true,ifp_pos (by omega)]
   have hd:zdb k (s.getD 0 0)=some ((decide (((s.getD 0 0).toNat:Int)≥48))&&(decide (((s.getD 0 0).toNat:Int)≤57))):=rfl
   rw [hd,bind_e rfl,bind_e rfl,rkw_eq]
   have h00:s.getD 0 0∈s:=by
    have:0<s.length:=by omega
    simp [List.getD,this]
   have hw0:=hw _ h00
   have hne:s≠[]:=fun e=>by rw [e] at h0;simp at h0
   unfold nameB
   by_cases hl:letB (s.getD 0 0)=true
   ·have hdig:((decide (((s.getD 0 0).toNat:Int)≥48))&&(decide (((s.getD 0 0).toNat:Int)≤57)))=false:=by
     rw [←Bool.not_eq_true]
     intro q
     simp only [letB,Bool.and_eq_true,Bool.or_eq_true,decide_eq_true_eq,beq_iff_eq] at q hl
     omega
    rw [hdig,decide_eq_true ⟨hne,h0.2,hl,hw⟩]
    rfl
   ·have hdig:((decide (((s.getD 0 0).toNat:Int)≥48))&&(decide (((s.getD 0 0).toNat:Int)≤57)))=true:=by
     rw [Bool.not_eq_true] at hl
     unfold wordC at hw0
     rw [hl,Bool.false_or] at hw0
     exact hw0
    rw [hdig,decide_eq_false (fun q=>hl q.2.2.1)]
    rfl
  ·have:((decide (((s.length:Nat):Int)≥1))&&(decide (((s.length:Nat):Int)≤32)))=false:=by
    rw [←Bool.not_eq_true,Bool.and_eq_true,decide_eq_true_eq,decide_eq_true_eq]
    omega
   rw [this]
   unfold nameB
   rw [decide_eq_false (fun q=>h0 ⟨by have:=List.length_pos_iff.2 q.1;omega,q.2.1⟩)]
   rfl
 ·rw [show zaQ k s k 0=_ from h5,bind_e rfl]
  split at h4
  ·rename_i q
   injection h4 with h4
   subst h4
   have:s.getD j 0∈s:=by simp [List.getD,h3]
   show some false=_
   unfold nameB
   rw [decide_eq_false (fun w=>by rw [w.2.2.2 _ this] at q;cases q)]
   rfl
  ·cases h4
theorem rkinds_eq (k:Nat) (l:List Int) (hk:l.length<k) (hl:l.length≤4000000):zdu k l=some (l.all kindB):=by
 unfold zdu
 have:=all_loop l kindB (fun n i=>zbe k l n i) (fun n i hi=>by
  show zbe k l (n+1) i=_
  rw [zbe,lt_t hi,cond_true,ifp_pos hi,ifp_pos hi,b_then rfl,bind_e rfl,ifp_pos (by omega),gd hi]
  have:(decide (l[i]<1)||decide (l[i]>5))=!kindB l[i]:=by
   unfold kindB
   by_cases h1:l[i]≥1
   ·rw [decide_eq_true h1,decide_eq_false (by omega),Bool.false_or,Bool.true_and]
    by_cases h5:l[i]≤5
    ·rw [decide_eq_true h5,decide_eq_false (by omega)];rfl
    ·rw [decide_eq_false h5,decide_eq_true (by omega)];rfl
   ·rw [decide_eq_false h1,decide_eq_true (by omega)];rfl
  rw [this]) (fun n i hi=>by
  show zbe k l (n+1) i=_
  rw [zbe,lt_f hi];rfl) k 0 (Nat.zero_le _) (by omega)
 rw [List.drop_zero] at this
 rw [show zbe k l k 0=_ from this]
 cases l.all kindB<;>rfl
theorem bif_two (a b:Bool):((bif a then (some a) else (some b)):Option Bool)=some (a||b):=by cases a<;>rfl
theorem rinstr_eq (k:Nat) (c:Code) (t:CodeType) (m:CodeMethod) (x:Instr) (hk:200≤k) (hx:smV x.Value):zdr k c t m x=some (okI c t m x):=by
 obtain ⟨h1,h2,h3⟩:=hx
 have fin:∀(X:Option (Int×Int×Bool×Value)) (a b:Int) (ok:Bool) (v:Value),X=some (a,b,ok,v)→(X.bind fun x2_0=>((bif ((x2_0.2.2.1&&(x.A==x2_0.1))&&(x.B==x2_0.2.1)) then ((zcv k x.Value x2_0.2.2.2).bind fun x6=>some x6) else (some false)):Option Bool).bind fun x5=>some x5)=some (((ok&&(x.A==a))&&(x.B==b))&&decide (x.Value=v)):=fun X a b ok v hX=>by
  rw [hX,bind_e rfl,sameV_r k _ _ (by omega) (by omega) (by omega) (by omega),bind_e rfl,b_and rfl,bind_e rfl]
 have hu:∀n,x.Op=n→useA x.Op=useA n:=fun n h=>by rw [h]
 unfold zdr
 rw [valid_r k _ (by omega) (by omega),bind_e rfl,bif_two,bif_two,bif_two,bif_two,bind_e rfl,bind_e rfl,bind_e rfl,bind_e rfl]
 unfold okI bodyI
 by_cases e1:x.Op=1
 ·rw [fin _ 0 0 (decide (okV x.Value)&&(x.Value.Kind != 0)) x.Value (by rw [e1];rfl),e1]
  have:useA 1=false:=by decide
  rw [this]
  simp only [decide_true,Bool.and_true]
  cases hA:(x.A==0)<;>cases hB:(x.B==0)<;>cases (decide (okV x.Value)&&(x.Value.Kind != 0))<;>simp [bne,hA,hB]
 have f1:(x.Op==1)=false:=beq_eq_false_iff_ne.2 e1
 have g1:(x.Op != 1)=true:=bne_iff_ne.2 e1
 rw [g1,Bool.true_and]
 have hno:(⟨0,0,([]:List UInt8),([]:List Int),([]:List (List UInt8))⟩:Value)=noV:=rfl
 rw [hno]
 by_cases e30:x.Op=30
 ·rw [fin _ x.A x.B (inR x.A (c.Types.length:Nat)&&inR x.B ((c.Types.getD x.A.toNat default).Methods.length:Nat)) noV (by
   rw [e30]
   show Option.bind _ _=_
   cases hA:inR x.A ((c.Types.length:Nat):Int)
   ·have:((decide (x.A≥0))&&(decide (x.A<((c.Types.length:Nat):Int))))=false:=hA
    rw [this];rfl
   ·have h4:((decide (x.A≥0))&&(decide (x.A<((c.Types.length:Nat):Int))))=true:=hA
    rw [h4]
    simp only [Bool.and_eq_true,decide_eq_true_eq] at h4
    rw [Bool.true_and,Bool.true_and,ifp_pos (by omega),b_and rfl]
    rfl),e30]
  have:useA 30=true:=by decide
  rw [this]
  cases (inR x.A ((c.Types.length:Nat):Int))<;>cases inR x.B (((c.Types.getD x.A.toNat default).Methods.length:Nat):Int)<;>cases decide (x.Value=noV)<;>simp
 have g30:(x.Op != 30)=true:=bne_iff_ne.2 e30
 rw [g30,Bool.true_and]
 have h17:((decide (x.A≥0))&&(decide (x.A≤16)))=inR x.A 17:=by
  unfold inR
  congr 1
  rw [decide_eq_decide]
  omega
 by_cases e2:x.Op=2
 ·rw [fin _ x.A 0 (inR x.A (m.Locals.length:Nat)) noV (by rw [e2];rfl),e2]
  have:useA 2=true:=by decide
  rw [this]
  cases hB:(x.B==0)<;>cases (inR x.A ((m.Locals.length:Nat):Int))<;>cases decide (x.Value=noV)<;>simp [bne,hB]
 by_cases e3:x.Op=3
 ·rw [fin _ x.A 0 (inR x.A (m.Locals.length:Nat)) noV (by rw [e3];rfl),e3]
  have:useA 3=true:=by decide
  rw [this]
  cases hB:(x.B==0)<;>cases (inR x.A ((m.Locals.length:Nat):Int))<;>cases decide (x.Value=noV)<;>simp [bne,hB]
 by_cases e4:x.Op=4
 ·rw [fin _ x.A 0 (inR x.A (t.Fields.length:Nat)) noV (by rw [e4];rfl),e4]
  have:useA 4=true:=by decide
  rw [this]
  cases hB:(x.B==0)<;>cases (inR x.A ((t.Fields.length:Nat):Int))<;>cases decide (x.Value=noV)<;>simp [bne,hB]
 by_cases e5:x.Op=5
 ·rw [fin _ x.A 0 (inR x.A (t.Fields.length:Nat)) noV (by rw [e5];rfl),e5]
  have:useA 5=true:=by decide
  rw [this]
  cases hB:(x.B==0)<;>cases (inR x.A ((t.Fields.length:Nat):Int))<;>cases decide (x.Value=noV)<;>simp [bne,hB]
 by_cases e26:x.Op=26
 ·rw [fin _ x.A 0 ((decide (x.A≥0))&&(decide (x.A≤16))) noV (by rw [e26];rfl),e26]
  have:useA 26=true:=by decide
  rw [this]
  rw [h17]
  cases hB:(x.B==0)<;>cases (inR x.A 17)<;>cases decide (x.Value=noV)<;>simp [bne,hB]
 by_cases e27:x.Op=27
 ·rw [fin _ x.A 0 ((decide (x.A≥0))&&(decide (x.A≤16))) noV (by rw [e27];rfl),e27]
  have:useA 27=true:=by decide
  rw [this]
  rw [h17]
  cases hB:(x.B==0)<;>cases (inR x.A 17)<;>cases decide (x.Value=noV)<;>simp [bne,hB]
 by_cases e28:x.Op=28
 ·rw [fin _ x.A 0 (inR x.A (m.Code.length:Nat)) noV (by rw [e28];rfl),e28]
  have:useA 28=true:=by decide
  rw [this]
  cases hB:(x.B==0)<;>cases (inR x.A ((m.Code.length:Nat):Int))<;>cases decide (x.Value=noV)<;>simp [bne,hB]
 by_cases e29:x.Op=29
 ·rw [fin _ x.A 0 (inR x.A (m.Code.length:Nat)) noV (by rw [e29];rfl),e29]
  have:useA 29=true:=by decide
  rw [this]
  cases hB:(x.B==0)<;>cases (inR x.A ((m.Code.length:Nat):Int))<;>cases decide (x.Value=noV)<;>simp [bne,hB]
 have hne:∀n:Int,x.Op≠n→(x.Op==n)=false:=fun n h=>beq_eq_false_iff_ne.2 h
 rw [fin _ 0 0 ((decide (x.Op≥1))&&(decide (x.Op≤36))) noV (by rw [hne 1 e1,hne 2 e2,hne 3 e3,hne 4 e4,hne 5 e5,hne 26 e26,hne 27 e27,hne 28 e28,hne 29 e29,hne 30 e30];rfl)]
 have hu0:useA x.Op=false:=by
  rw [←Bool.not_eq_true]
  intro q
  simp only [useA,Bool.or_eq_true,Bool.and_eq_true,decide_eq_true_eq,beq_iff_eq] at q
  omega
 rw [hu0,hne 1 e1,hne 2 e2,hne 3 e3,hne 4 e4,hne 5 e5,hne 26 e26,hne 27 e27,hne 28 e28,hne 29 e29,hne 30 e30]
 have r1:decide (x.Op<1)=!decide (x.Op≥1):=by
  by_cases h:x.Op≥1
  ·rw [decide_eq_true h,decide_eq_false (by omega)];rfl
  ·rw [decide_eq_false h,decide_eq_true (by omega)];rfl
 have r2:decide (x.Op>36)=!decide (x.Op≤36):=by
  by_cases h:x.Op≤36
  ·rw [decide_eq_true h,decide_eq_false (by omega)];rfl
  ·rw [decide_eq_false h,decide_eq_true (by omega)];rfl
 rw [r1,r2]
 cases hA:(x.A==0)<;>cases hB:(x.B==0)<;>cases decide (x.Op≥1)<;>cases decide (x.Op≤36)<;>cases decide (x.Value=noV)<;>simp [bne,hA,hB]
def rM (c:Code) (t:CodeType) (m:CodeMethod):Bool:=nameB m.Name&&okM c t m
theorem ziR (k:Nat) (c:Code) (t:CodeType) (m:CodeMethod) (hk:200≤k) (hm:smM m):zdm k c t m=some (rM c t m):=by
 obtain ⟨h0,h1,h2,h3,h4⟩:=hm
 have hI:(((zaR k c t m k 0).bind fun o15=>Md.onS o15 (fun x15_0=>some (Sum.inl ())) (fun r15=>some (Sum.inr r15)):Option (Sum Unit Bool)).bind fun o14=>Md.onS o14 (fun x14_0=>some true) (fun r14=>some r14))=some (m.Code.all (okI c t m)):=by
  have:=all_loop m.Code (okI c t m) (fun n i=>zaR k c t m n i) (fun n i hi=>by
   show zaR k c t m (n+1) i=_
   rw [zaR,lt_t hi,cond_true,ifp_pos hi,gd hi,rinstr_eq k c t m _ hk (h4 _ (List.getElem_mem hi)),bind_e rfl,ifp_pos (by omega)]) (fun n i hi=>by
   show zaR k c t m (n+1) i=_
   rw [zaR,lt_f hi];rfl) k 0 (Nat.zero_le _) (by omega)
  rw [List.drop_zero] at this
  rw [show zaR k c t m k 0=_ from this]
  cases m.Code.all (okI c t m)<;>rfl
 unfold zdm rM okM
 rw [rname_eq k _ (by omega) (by omega),bind_e rfl,rkinds_eq k _ (by omega) (by omega),bind_e rfl,hI]
 cases nameB m.Name
 ·rfl
 rw [Bool.not_true,cond_false,Bool.true_and]
 by_cases a1:m.Params.length≤4
 ·rw [decide_eq_false (by omega),cond_false,decide_eq_true a1,Bool.true_and]
  by_cases a2:m.Locals.length≤8
  ·rw [decide_eq_false (by omega),cond_false,decide_eq_true a2,Bool.and_true]
   by_cases a3:m.Params.length≤m.Locals.length
   ·rw [decide_eq_false (by omega),cond_false,decide_eq_true a3,Bool.and_true,ifp_pos a3,sameI_r k _ _ (by omega) (by omega),bind_e rfl]
    cases a4:m.Locals.all kindB
    ·rw [Bool.and_false];rfl
    rw [Bool.not_true,cond_false,Bool.and_true]
    by_cases a5:m.Params=m.Locals.take m.Params.length
    ·have a5':m.Params.all kindB=true:=by
      rw [a5]
      rw [List.all_eq_true] at a4 ⊢
      exact fun x hx=>a4 x (List.mem_of_mem_take hx)
     rw [decide_eq_true a5,decide_eq_true a5.symm,a5',Bool.not_true,cond_false,Bool.true_and,Bool.and_true]
     have hr:((m.Result==0)||kindB m.Result)=((!decide (m.Result<0))&&(!decide (m.Result>5))):=by
      unfold kindB
      by_cases q:m.Result<0
      ·rw [decide_eq_true q,decide_eq_false (p:=m.Result≥1) (by omega),beq_eq_false_iff_ne.2 (by omega)];rfl
      ·rw [decide_eq_false q]
       by_cases q0:m.Result=0
       ·rw [q0];decide
       ·rw [decide_eq_true (p:=m.Result≥1) (by omega),beq_eq_false_iff_ne.2 q0]
        by_cases q5:m.Result>5
        ·rw [decide_eq_true q5,decide_eq_false (by omega)];rfl
        ·rw [decide_eq_false q5,decide_eq_true (by omega)];rfl
     have hc:decide (((m.Code.length:Nat):Int)<1)=!decide (0<m.Code.length):=by
      by_cases q:0<m.Code.length
      ·rw [decide_eq_true q,decide_eq_false (by omega)];rfl
      ·rw [decide_eq_false q,decide_eq_true (by omega)];rfl
     rw [hr,hc]
     cases decide (m.Result<0)<;>cases decide (m.Result>5)<;>cases decide (0<m.Code.length)<;>cases m.Code.all (okI c t m)<;>rfl
    ·rw [decide_eq_false a5,decide_eq_false (p:=m.Locals.take m.Params.length=m.Params) (fun q=>a5 q.symm)]
     simp
   ·rw [decide_eq_true (by omega),decide_eq_false a3]
    simp
  ·rw [decide_eq_true (by omega),decide_eq_false a2]
   simp
 ·rw [decide_eq_true (by omega),decide_eq_false a1]
  simp
end Md
end Go.Proofs.YtclffekkjfhpdaaGreat
namespace Go.Proofs.YtclffekkjfhpdaaGreat
set_option linter.unusedVariables false
set_option linter.unusedSimpArgs false
namespace Md
theorem zib {α:Type} (l:List α) (nm:α→List UInt8) (F:Nat→Nat→Option (Sum Unit (Int×Bool))) (name:List UInt8)
  (hF:∀n i,(h:i<l.length)→F (n+1) i=bif (decide (nm l[i]=name)) then some (.inr (((i:Nat):Int),true)) else F n (i+1)) (hE:∀n i,¬i<l.length→F (n+1) i=some (.inl ()))
  (j:Nat) (hj:j<l.length) (hn:nm l[j]=name) (k:Nat) (hk:l.length<k):∃i:Nat,F k 0=some (.inr (((i:Nat):Int),true))∧(i=j↔name∉(l.take j).map nm):=by
 have h:=loopE l.length (fun i=>if h:i<l.length then (if nm l[i]=name then some (((i:Nat):Int),true) else none) else none) F (fun n i hi=>by
  rw [hF n i hi,dif_pos hi]
  by_cases q:nm l[i]=name
  ·rw [decide_eq_true q,if_pos q];rfl
  ·rw [decide_eq_false q,if_neg q];rfl) hE k 0 (by omega)
 rcases h with ⟨_,h2⟩|⟨i,r,_,h3,h4,h5,h6⟩
 ·have:=h2 j (Nat.zero_le _) hj
  rw [dif_pos hj,if_pos hn] at this
  cases this
 ·rw [dif_pos h3] at h4
  split at h4
  ·rename_i q
   injection h4 with h4
   subst h4
   refine ⟨i,h6,fun e=>?_,fun e=>?_⟩
   ·subst e
    intro w
    obtain ⟨x,hx,hxn⟩:=List.mem_map.1 w
    obtain ⟨a,ha,hax⟩:=List.getElem_of_mem hx
    rw [List.length_take] at ha
    rw [List.getElem_take] at hax
    have:=h5 a (Nat.zero_le _) (by omega)
    rw [dif_pos (by omega),if_pos (by rw [hax];exact hxn)] at this
    cases this
   ·rcases Nat.lt_trichotomy i j with w|w|w
    ·exfalso
     refine e (List.mem_map.2 ⟨l[i],List.mem_iff_getElem.2 ⟨i,by rw [List.length_take];omega,by rw [List.getElem_take]⟩,q⟩)
    ·exact w
    ·have:=h5 j (Nat.zero_le _) w
     rw [dif_pos hj,if_pos hn] at this
     cases this
  ·cases h4
theorem zgv {α β:Type} (l:List α) (nm:α→β) (j:Nat) (hj:j<l.length):(l.take (j+1)).map nm=(l.take j).map nm++[nm l[j]]:=by
 rw [List.take_succ_eq_append_getElem hj,List.map_append]
 rfl
def walkR (c:Code) (t:CodeType):List CodeMethod→List (List UInt8)→Nat→Option Nat
 | [],_,n=>some n
 | m::r,seen,n=>if m.Name∉seen∧n+min m.Code.length 3001≤3000∧rM c t m=true then walkR c t r (seen++[m.Name]) (n+min m.Code.length 3001) else none
theorem rform2_eq (k:Nat) (c:Code) (i:Nat) (t:CodeType) (ht:c.Types.getD i default=t) (hk:200≤k) (h:smT t):∀n j s,j≤t.Methods.length→t.Methods.length - j<n→s≤3000 →
  zbT k c i n s j=some (match walkR c t (t.Methods.drop j) ((t.Methods.take j).map (·.Name)) s with|none=>.inr false|some x=>.inl x):=by
 intro n
 induction n with
 | zero=>intro j s _ h;omega
 | succ n ih =>
  intro j s h1 h2 hs
  obtain ⟨_,_,hl,_,hm⟩:=h
  rw [zbT,ht]
  by_cases hj:j<t.Methods.length
  ·have hq:=hm _ (List.getElem_mem hj)
   obtain ⟨a,ha,hai⟩:=zib t.Methods (·.Name) (fun n i=>zaK k t t.Methods[j].Name n i) t.Methods[j].Name (fun n i hi=>by
    show zaK k t t.Methods[j].Name (n+1) i=_
    rw [zaK,lt_t hi,cond_true,ifp_pos hi,gd hi,ifp_pos (by omega)]) (fun n i hi=>by
    show zaK k t t.Methods[j].Name (n+1) i=_
    rw [zaK,lt_f hi];rfl) j hj rfl k (by omega)
   have hfind:zcC k t t.Methods[j].Name=some ((a:Int),true):=by
    unfold zcC
    rw [show zaK k t t.Methods[j].Name k 0=_ from ha]
    rfl
   rw [lt_t hj,cond_true,ifp_pos hj,gd hj,ifp_pos (by omega),ifp_pos hj,hfind,bind_e rfl,ifp_pos hj,ziR k c t _ hk hq,bind_e rfl,ifp_pos (by omega),List.drop_eq_getElem_cons hj,walkR]
   by_cases e1:a=j
   ·have e1':=hai.1 e1
    rw [show ((((a:Nat):Int),true).1 != ((j:Nat):Int))=false from by rw [bne_eq_false_iff_eq];omega,cond_false,show ((3000:Int))=((3000:Nat):Int) from rfl,gt_not]
    by_cases e2:s+min t.Methods[j].Code.length 3001≤3000
    ·rw [decide_eq_true e2]
     cases e3:rM c t t.Methods[j]
     ·rw [if_neg (fun q=>by cases q.2.2)];rfl
     ·rw [if_pos ⟨e1',e2,rfl⟩,ih (j+1) _ (by omega) (by omega) e2,zgv _ _ _ hj];rfl
    ·rw [decide_eq_false e2,if_neg (fun q=>e2 q.2.1)];rfl
   ·rw [show ((((a:Nat):Int),true).1 != ((j:Nat):Int))=true from by rw [bne_iff_ne];intro q;exact e1 (by have:((a:Nat):Int)=j:=q;omega),if_neg (fun q=>e1 (hai.2 q.1))];rfl
  ·rw [lt_f hj,cond_false,List.drop_of_length_le (by omega)]
   rfl
def fieldsR:List Field→List (List UInt8)→Bool
 | [],_=>true
 | f::r,seen=>(nameB f.Name&&fdB f)&&((!decide (f.Name∈seen))&&fieldsR r (seen++[f.Name]))
theorem rform4_eq (k:Nat) (c:Code) (i:Nat) (t:CodeType) (ht:c.Types.getD i default=t) (j:Nat) (hj:j<t.Fields.length) (hk:t.Fields.length<k) (hl:t.Fields.length≤20) :
  zbd k c i j k 0=some (if (!decide (t.Fields[j].Name∈(t.Fields.take j).map (·.Name)))=true then .inl () else .inr false):=by
 have hlt:(t.Fields.take j).length=j:=by rw [List.length_take];omega
 have:=all_loop (t.Fields.take j) (fun f=>!decide (f.Name=t.Fields[j].Name)) (fun n a=>zbd k c i j n a) (fun n a ha=>by
  show zbd k c i j (n+1) a=_
  rw [hlt] at ha
  rw [zbd,ht,lt_t ha,cond_true,ifp_pos (by omega),gd hj,gd (by omega:a<t.Fields.length),List.getElem_take,Bool.not_not,ifp_pos (by omega)]) (fun n a ha=>by
  show zbd k c i j (n+1) a=_
  rw [hlt] at ha
  rw [zbd,lt_f ha];rfl) k 0 (Nat.zero_le _) (by omega)
 rw [List.drop_zero] at this
 rw [show zbd k c i j k 0=_ from this]
 have e:((t.Fields.take j).all fun f=>!decide (f.Name=t.Fields[j].Name))=!decide (t.Fields[j].Name∈(t.Fields.take j).map (·.Name)):=by
  rw [Bool.eq_iff_iff,List.all_eq_true,Bool.not_eq_true',decide_eq_false_iff_not]
  constructor
  ·intro h q
   obtain ⟨f,hf,e⟩:=List.mem_map.1 q
   have:=h f hf
   rw [Bool.not_eq_true',decide_eq_false_iff_not] at this
   exact this e
  ·intro h f hf
   rw [Bool.not_eq_true',decide_eq_false_iff_not]
   exact fun e=>h (List.mem_map.2 ⟨f,hf,e⟩)
 rw [e]
theorem rform3_eq (k:Nat) (c:Code) (i:Nat) (t:CodeType) (ht:c.Types.getD i default=t) (hk:200≤k) (h:smT t):∀n j,j≤t.Fields.length→t.Fields.length - j<n →
  zbW k c i n j=some (if fieldsR (t.Fields.drop j) ((t.Fields.take j).map (·.Name))=true then .inl () else .inr false):=by
 intro n
 induction n with
 | zero=>intro j _ h;omega
 | succ n ih =>
  intro j h1 h2
  obtain ⟨_,hl,_,hf,_⟩:=h
  rw [zbW,ht]
  by_cases hj:j<t.Fields.length
  ·obtain ⟨f1,f2,f3,f4⟩:=hf _ (List.getElem_mem hj)
   rw [lt_t hj,cond_true,ifp_pos hj,rform4_eq k c i t ht j hj (by omega) hl,gd hj,rname_eq k _ (by omega) (by omega),bind_e rfl,valid_r k _ (by omega) (by omega),bind_e rfl,b_then rfl,bind_e rfl,ifp_pos (by omega),ih (j+1) (by omega) (by omega),List.drop_eq_getElem_cons hj,fieldsR,zgv _ _ _ hj]
   have e:(((((!nameB t.Fields[j].Name)||(decide (t.Fields[j].Kind<1)))||(decide (t.Fields[j].Kind>5)))||(t.Fields[j].Init.Kind != t.Fields[j].Kind))||(!decide (okV t.Fields[j].Init)))=!(nameB t.Fields[j].Name&&fdB t.Fields[j]):=by
    unfold fdB kindB
    have r1:decide (t.Fields[j].Kind<1)=!decide (t.Fields[j].Kind≥1):=by
     by_cases h:t.Fields[j].Kind≥1
     ·rw [decide_eq_true h,decide_eq_false (by omega)];rfl
     ·rw [decide_eq_false h,decide_eq_true (by omega)];rfl
    have r2:decide (t.Fields[j].Kind>5)=!decide (t.Fields[j].Kind≤5):=by
     by_cases h:t.Fields[j].Kind≤5
     ·rw [decide_eq_true h,decide_eq_false (by omega)];rfl
     ·rw [decide_eq_false h,decide_eq_true (by omega)];rfl
    rw [r1,r2]
    cases nameB t.Fields[j].Name<;>cases decide (t.Fields[j].Kind≥1)<;>cases decide (t.Fields[j].Kind≤5)<;>cases hq:(t.Fields[j].Init.Kind==t.Fields[j].Kind)<;>cases decide (okV t.Fields[j].Init)<;>simp [bne,hq]
   rw [e]
   cases (nameB t.Fields[j].Name&&fdB t.Fields[j])<;>cases decide (t.Fields[j].Name∈(t.Fields.take j).map (·.Name))<;>rfl
  ·rw [lt_f hj,cond_false,List.drop_of_length_le (by omega)]
   rfl
def typesR (c:Code):List CodeType→List (List UInt8)→Nat→Bool
 | [],_,_=>true
 | t::r,seen,n=>(((!decide (t.Name∈seen))&&nameB t.Name)&&(decide (t.Fields.length≤8)&&decide (t.Methods.length≤16)))&&(fieldsR t.Fields []&&match walkR c t t.Methods [] n with|none=>false|some x=>typesR c r (seen++[t.Name]) x)
theorem walkR_le {c:Code} {t:CodeType}:∀{l:List CodeMethod} {seen:List (List UInt8)} {n x:Nat},n≤3000→walkR c t l seen n=some x→x≤3000
 | [],_,n,x,h,e=>by simp only [walkR,Option.some.injEq] at e;omega
 | m::r,_,n,x,h,e=>by
  rw [walkR] at e
  split at e
  ·rename_i q;exact walkR_le q.2.1 e
  ·cases e
theorem rform1_eq (k:Nat) (c:Code) (hk:200≤k) (h:smC c):∀n i s,i≤c.Types.length→c.Types.length - i<n→s≤3000 →
  zbV k c n s i=some (if typesR c (c.Types.drop i) ((c.Types.take i).map (·.Name)) s=true then .inl () else .inr false):=by
 intro n
 induction n with
 | zero=>intro i s _ h;omega
 | succ n ih =>
  intro i s h1 h2 hs
  have hl:=h.1
  rw [zbV]
  by_cases hi:i<c.Types.length
  ·have hq:=h.2 _ (List.getElem_mem hi)
   have hq1:=hq.1
   have hq2:=hq.2.1
   have hq3:=hq.2.2.1
   obtain ⟨a,ha,hai⟩:=zib c.Types (·.Name) (fun n j=>zaO k c c.Types[i].Name n j) c.Types[i].Name (fun n j hj=>by
    show zaO k c c.Types[i].Name (n+1) j=_
    rw [zaO,lt_t hj,cond_true,ifp_pos hj,gd hj,ifp_pos (by omega)]) (fun n j hj=>by
    show zaO k c c.Types[i].Name (n+1) j=_
    rw [zaO,lt_f hj];rfl) i hi rfl k (by omega)
   have hfind:zcR k c c.Types[i].Name=some ((a:Int),true):=by
    unfold zcR
    rw [show zaO k c c.Types[i].Name k 0=_ from ha]
    rfl
   have e3:=rform3_eq k c i c.Types[i] (gd hi) hk hq k 0 (Nat.zero_le _) (by omega)
   have e2:=rform2_eq k c i c.Types[i] (gd hi) hk hq k 0 s (Nat.zero_le _) (by omega) hs
   rw [List.drop_zero] at e2 e3
   rw [lt_t hi,cond_true,ifp_pos hi,gd hi,hfind,bind_e rfl,rname_eq k _ (by omega) (by omega),bind_e rfl,b_then rfl,bind_e rfl,e3,e2,List.drop_eq_getElem_cons hi,typesR]
   have c1:((((a:Nat):Int),true).1 != ((i:Nat):Int))=decide (c.Types[i].Name∈(c.Types.take i).map (·.Name)):=by
    by_cases e1:a=i
    ·rw [decide_eq_false (hai.1 e1),bne_eq_false_iff_eq]
     show ((a:Nat):Int)=i
     omega
    ·rw [decide_eq_true (Classical.not_not.1 fun q=>e1 (hai.2 q)),bne_iff_ne]
     intro q
     have:((a:Nat):Int)=i:=q
     omega
   rw [c1,show ((8:Int))=((8:Nat):Int) from rfl,show ((16:Int))=((16:Nat):Int) from rfl,gt_not,gt_not]
   cases decide (c.Types[i].Name∈(c.Types.take i).map (·.Name))
   rotate_left
   ·rfl
   cases nameB c.Types[i].Name
   ·rfl
   cases decide (c.Types[i].Fields.length≤8)
   ·rfl
   cases decide (c.Types[i].Methods.length≤16)
   ·rfl
   show Option.bind (Option.bind (Option.bind _ _) _) _=_
   have t0:(c.Types[i].Fields.take 0).map (·.Name)=[]:=rfl
   have t1:(c.Types[i].Methods.take 0).map (·.Name)=[]:=rfl
   rw [t0,t1]
   cases fieldsR c.Types[i].Fields []
   ·rfl
   cases hw:walkR c c.Types[i] c.Types[i].Methods [] s with
   | none=>rfl
   | some x =>
    have:=ih (i+1) x (by omega) (by omega) (walkR_le hs hw)
    rw [zgv _ _ _ hi] at this
    show ifp _ _=_
    rw [ifp_pos (by omega),this]
    rfl
  ·rw [lt_f hi,cond_false,List.drop_of_length_le (by omega)]
   rfl
theorem zhV:∀(l:List Field) (seen:List (List UInt8)),fieldsR l seen=(distB (l.map (·.Name)) seen&&l.all fdB)
 | [],_=>rfl
 | f::r,seen=>by
  rw [fieldsR,zhV r,List.map_cons,distB,List.all_cons]
  cases nameB f.Name<;>cases fdB f<;>cases decide (f.Name∈seen)<;>cases distB (r.map (·.Name)) (seen++[f.Name])<;>cases r.all fdB<;>rfl
theorem walkR_eq (c:Code) (t:CodeType):∀(l:List CodeMethod) (seen:List (List UInt8)) (n:Nat),walkR c t l seen n=if distB (l.map (·.Name)) seen=true then walkM c t l n else none
 | [],_,n=>rfl
 | m::r,seen,n=>by
  rw [walkR,walkM,List.map_cons,distB,walkR_eq c t r]
  unfold rM
  cases h1:nameB m.Name
  ·simp
  ·by_cases h2:m.Name∈seen
   ·simp [h2]
   ·by_cases h3:n+m.Code.length≤3000
    ·have hmin:min m.Code.length 3001=m.Code.length:=by omega
     rw [hmin]
     cases h4:okM c t m
     ·simp
     ·simp [h2,h3]
    ·have:¬(n+min m.Code.length 3001≤3000):=by omega
     simp [h2,h3,this]
theorem typesR_eq (c:Code):∀(l:List CodeType) (seen:List (List UInt8)) (n:Nat),typesR c l seen n=((distB (l.map (·.Name)) seen&&l.all okT)&&walkT c l n)
 | [],_,_=>rfl
 | t::r,seen,n=>by
  rw [typesR,walkT,List.map_cons,distB,List.all_cons,zhV,walkR_eq]
  unfold okT
  cases h1:nameB t.Name
  ·simp
  ·cases h2:decide (t.Name∈seen)
   ·cases h3:decide (t.Fields.length≤8)
    ·simp
    ·cases h4:decide (t.Methods.length≤16)
     ·simp
     ·cases h5:distB (t.Fields.map (·.Name)) []
      ·simp
      ·cases h6:t.Fields.all fdB
       ·simp
       ·cases h7:distB (t.Methods.map (·.Name)) []
        ·simp
        ·rw [if_pos rfl]
         cases hw:walkM c t t.Methods n with
         | none=>simp
         | some x =>
          have:=typesR_eq c r (seen++[t.Name]) x
          simp only [this]
          simp
          rfl
   ·simp
theorem rForm_eq (k:Nat) (c:Code) (hk:200≤k) (h:smC c):zdA k c=some (okC c):=by
 have hl:=h.1
 have e:=rform1_eq k c hk h k 0 0 (Nat.zero_le _) (by omega) (by omega)
 rw [List.drop_zero] at e
 unfold zdA okC
 rw [e,typesR_eq,show ((8:Int))=((8:Nat):Int) from rfl,gt_not]
 have t0:(c.Types.take 0).map (·.Name)=[]:=rfl
 rw [t0]
 cases decide (c.Types.length≤8)<;>cases distB (c.Types.map (·.Name)) []<;>cases c.Types.all okT<;>cases walkT c c.Types 0<;>rfl
end Md
end Go.Proofs.YtclffekkjfhpdaaGreat
namespace Go.Proofs.YtclffekkjfhpdaaGreat
set_option linter.unusedVariables false
set_option linter.unusedSimpArgs false
namespace Md
def endsB (s w:List Int):Bool:=decide (w.length≤s.length)&&decide (s.drop (s.length - w.length)=w)
theorem ends_eq (k:Nat) (s w:List Int) (hk:200≤k) (hs:s.length≤40) (hw:w.length≤1000):zbw k s w=some (endsB s w):=by
 unfold zbw endsB
 by_cases h:w.length≤s.length
 ·have hW:W (((s.length:Nat):Int) - ((w.length:Nat):Int))=((s.length - w.length:Nat):Int):=(W_id (by omega) (by omega)).trans (by omega)
  rw [decide_eq_true (by omega),cond_true,hW,ifp_pos (by omega),Int.toNat_natCast,ifp_pos (by omega),sameI_r k _ _ (by rw [List.length_drop];omega) (by rw [List.length_drop];omega),decide_eq_true h]
  rfl
 ·rw [decide_eq_false (by omega),decide_eq_false h]
  rfl
theorem takes_eq (k:Nat) (s w p:List Int) (hk:200≤k) (hs:s.length≤40) (hw:w.length≤1000):zak k s w p=some ⟨((w.length:Nat):Int),p,endsB s w⟩:=by
 unfold zak
 rw [ends_eq k s w hk hs hw,bind_e rfl]
def topV (s:List Int) (j:Nat):Int:=if j≥s.length then -1 else s.getD (s.length - 1 - j) default
theorem top_eq (k:Nat) (s:List Int) (j:Nat) (hs:s.length≤40) (hj:j≤10):zaS k s (j:Int)=some (topV s j):=by
 unfold zaS topV
 by_cases h:j≥s.length
 ·rw [decide_eq_true (by omega),if_pos h];rfl
 ·have h1:W (((s.length:Nat):Int) - 1)=((s.length - 1:Nat):Int):=(W_id (by omega) (by omega)).trans (by omega)
  have h2:W (((s.length - 1:Nat):Int) - (j:Int))=((s.length - 1 - j:Nat):Int):=(W_id (by omega) (by omega)).trans (by omega)
  rw [decide_eq_false (by omega),cond_false,if_neg h,h1,h2,ifp_pos (by omega),Int.toNat_natCast]
theorem ends_top {s r:List Int} {a:Int} (h:endsB s (a::r)=true):topV s r.length=a:=by
 simp only [endsB,Bool.and_eq_true,decide_eq_true_eq,List.length_cons] at h
 obtain ⟨h1,h2⟩:=h
 unfold topV
 rw [if_neg (by omega)]
 have h3:s.length - 1 - r.length<s.length:=by omega
 have e:s.length - (r.length+1)=s.length - 1 - r.length:=by omega
 rw [e,List.drop_eq_getElem_cons h3] at h2
 injection h2 with h2 _
 rw [gd h3]
 exact h2
theorem top_ends {s:List Int} {a:Int} (ha:a≠-1):(topV s 0==a)=endsB s [a]:=by
 rw [Bool.eq_iff_iff]
 constructor
 ·intro h
  have h:=eq_of_beq h
  unfold topV at h
  split at h
  ·exact absurd h.symm ha
  ·rename_i q
   have h3:s.length - 1<s.length:=by omega
   simp only [endsB,Bool.and_eq_true,decide_eq_true_eq,List.length_singleton]
   refine ⟨by omega,?_⟩
   rw [Nat.sub_zero,gd h3] at h
   rw [List.drop_eq_getElem_cons h3,List.drop_of_length_le (by omega),h]
 ·intro h
  exact beq_iff_eq.2 (ends_top (r:=[]) h)
def RE (e:Actorgridref20Effect) (a:List Int×Bool) (s:List Int):Prop:=∃n:Nat,e.Takes=(n:Int)∧e.Puts.length≤1∧(e.OK=true→n≤s.length∧a=(s.take (s.length - n)++e.Puts,decide (s.length - n+e.Puts.length≤40)))∧(e.OK=false→a.2=false)
theorem app_yes {x:Instr} {s w p:List Int} {r:List Bytecodeeffect} (h:¬(x.Op=32∨x.Op=30)) (he:endsB s w=true):applyO x s (⟨w,p⟩::r)=some (s.take (s.length - w.length)++p,decide (s.length - w.length+p.length≤40)):=by
 simp only [endsB,Bool.and_eq_true,decide_eq_true_eq] at he
 rw [applyO,if_neg (by show ¬s.length<w.length;omega),if_neg (fun q=>q he.2),if_neg (fun q=>h q.2)]
theorem app_no {x:Instr} {s w p:List Int} {r:List Bytecodeeffect} (he:endsB s w=false):applyO x s (⟨w,p⟩::r)=applyO x s r:=by
 rw [applyO]
 by_cases h1:s.length<w.length
 ·rw [if_pos h1]
 ·rw [if_neg h1,if_pos]
  intro q
  unfold endsB at he
  rw [decide_eq_true (by omega),decide_eq_true q] at he
  cases he
theorem re_one {x:Instr} {s w p:List Int} (h:¬(x.Op=32∨x.Op=30)) (hp:p.length≤1):RE ⟨((w.length:Nat):Int),p,endsB s w⟩ ((applyO x s [⟨w,p⟩]).getD ([],false)) s:=by
 refine ⟨w.length,rfl,hp,fun he=>?_,fun he=>?_⟩
 ·have he':endsB s w=true:=he
  have:=he'
  simp only [endsB,Bool.and_eq_true,decide_eq_true_eq] at this
  rw [app_yes h he']
  exact ⟨this.1,rfl⟩
 ·have he':endsB s w=false:=he
  rw [app_no he']
  rfl
theorem re_two {x:Instr} {s w1 w2 p:List Int} {n:Nat} (h:¬(x.Op=32∨x.Op=30)) (hp:p.length≤1) (h1:w1.length=n) (h2:w2.length=n):RE ⟨((n:Nat):Int),p,endsB s w1||endsB s w2⟩ ((applyO x s [⟨w1,p⟩,⟨w2,p⟩]).getD ([],false)) s:=by
 subst h1
 cases he:endsB s w1
 ·rw [app_no he,Bool.false_or,←h2]
  exact re_one h hp
 ·have:=he
  simp only [endsB,Bool.and_eq_true,decide_eq_true_eq] at this
  rw [app_yes h he]
  exact ⟨w1.length,rfl,hp,fun _=>⟨this.1,rfl⟩,fun q=>by cases q⟩
theorem re_top {x:Instr} {s r1 r2 p1 p2:List Int} {a b:Int} {j:Nat} (h:¬(x.Op=32∨x.Op=30)) (hp1:p1.length≤1) (hp2:p2.length≤1) (h1:r1.length=j) (h2:r2.length=j) (hab:a≠b) :
  RE (if topV s j==a then ⟨(((a::r1).length:Nat):Int),p1,endsB s (a::r1)⟩ else ⟨(((b::r2).length:Nat):Int),p2,endsB s (b::r2)⟩) ((applyO x s [⟨a::r1,p1⟩,⟨b::r2,p2⟩]).getD ([],false)) s:=by
 cases he:endsB s (a::r1)
 ·rw [app_no he]
  by_cases ht:topV s j=a
  ·rw [if_pos (beq_iff_eq.2 ht)]
   have hb:endsB s (b::r2)=false:=by
    rw [←Bool.not_eq_true]
    intro q
    have:=ends_top q
    rw [h2,ht] at this
    exact hab this
   rw [app_no hb]
   exact ⟨_,rfl,hp1,(fun q=>by cases q),fun _=>rfl⟩
  ·rw [if_neg (fun q=>ht (eq_of_beq q))]
   exact re_one h hp2
 ·have ht:=ends_top he
  rw [h1] at ht
  rw [if_pos (beq_iff_eq.2 ht),←he]
  have h3:=app_yes (x:=x) (p:=p1) (r:=[⟨b::r2,p2⟩]) h he
  have h4:=app_yes (x:=x) (p:=p1) (r:=[]) h he
  rw [h3,←h4]
  exact re_one h hp1
theorem re_all {x:Instr} {s w p:List Int} (h:x.Op=32∨x.Op=30) (hp:p.length≤1):RE ⟨((w.length:Nat):Int),p,endsB s w&&(((s.length:Nat):Int)==((w.length:Nat):Int))⟩ ((applyO x s [⟨w,p⟩]).getD ([],false)) s:=by
 cases he:endsB s w
 ·rw [app_no he]
  exact ⟨w.length,rfl,hp,(fun q=>by cases q),fun _=>rfl⟩
 ·have:=he
  simp only [endsB,Bool.and_eq_true,decide_eq_true_eq] at this
  rw [applyO,if_neg (by show ¬s.length<w.length;omega),if_neg (fun q=>q this.2),Bool.true_and]
  by_cases hl:s.length=w.length
  ·rw [if_neg (by show ¬(0<s.length - w.length∧_);omega)]
   exact ⟨w.length,rfl,hp,fun _=>⟨this.1,rfl⟩,fun q=>by
    have:(((s.length:Nat):Int)==((w.length:Nat):Int))=true:=by rw [beq_iff_eq];omega
    rw [show (Actorgridref20Effect.OK ⟨((w.length:Nat):Int),p,((s.length:Nat):Int)==((w.length:Nat):Int)⟩)=true from this] at q
    cases q⟩
  ·rw [if_pos ⟨by show 0<s.length - w.length;omega,h⟩]
   refine ⟨w.length,rfl,hp,fun q=>?_,fun _=>rfl⟩
   have:((s.length:Nat):Int)=((w.length:Nat):Int):=eq_of_beq q
   omega
theorem many_loop (k:Nat) (v a:Int) (ha:a≤16):∀(n i:Nat) (acc:List Int),(i:Int)≤a→a.toNat - i<n→acc.length=i→zbU k v a n i acc=some (acc++List.replicate (a.toNat - i) v):=by
 intro n
 induction n with
 | zero=>intro i _ _ h;omega
 | succ n ih =>
  intro i acc h1 h2 h3
  rw [zbU]
  by_cases h:(i:Int)<a
  ·rw [decide_eq_true h,cond_true,ifp_pos (by simp;omega),ifp_pos (by omega),ih (i+1) _ (by omega) (by omega) (by simp;omega)]
   have:a.toNat - i=(a.toNat - (i+1))+1:=by omega
   rw [this,List.replicate_succ,List.append_assoc]
   rfl
  ·rw [decide_eq_false h,cond_false,show a.toNat - i=0 by omega]
   simp
theorem many_eq (k:Nat) (v a:Int) (hk:200≤k) (h0:0≤a) (ha:a≤16):zcs k v a=some (List.replicate a.toNat v):=by
 unfold zcs
 rw [many_loop k v a ha k 0 [] h0 (by omega) rfl]
 simp
theorem aft_ne {c:Code} {t:CodeType} {m:CodeMethod} {x:Instr} {s:List Int} (h:¬(x.Op=15∨x.Op=16∨x.Op=31)):aftP c t m x s=(applyO x s (effsP c t m x (s.getLast?.getD 0))).getD ([],false):=by
 unfold aftP
 rw [if_neg (fun q=>h q.2)]
theorem last_top {s:List Int} (h:s≠[]):s.getLast?.getD 0=topV s 0:=by
 have hp:0<s.length:=List.length_pos_iff.2 h
 unfold topV
 rw [if_neg (by omega),List.getLast?_eq_getElem?,Nat.sub_zero,List.getD_eq_getElem?_getD]
 rw [List.getElem?_eq_getElem (by omega)]
 rfl
theorem last_ends {s:List Int} (h:s≠[]):endsB s [topV s 0]=true:=by
 have hp:0<s.length:=List.length_pos_iff.2 h
 have h3:s.length - 1<s.length:=by omega
 unfold topV
 rw [if_neg (by omega),Nat.sub_zero,gd h3]
 simp only [endsB,Bool.and_eq_true,decide_eq_true_eq,List.length_singleton]
 refine ⟨by omega,?_⟩
 rw [List.drop_eq_getElem_cons h3,List.drop_of_length_le (by omega)]
theorem ends_same {s:List Int} (h:s≠[]):endsB s [topV s 0,topV s 0]=(decide (((s.length:Nat):Int)≥2)&&(topV s 0==topV s 1)):=by
 have hp:0<s.length:=List.length_pos_iff.2 h
 rw [Bool.eq_iff_iff]
 constructor
 ·intro q
  have h1:=ends_top (r:=[topV s 0]) q
  simp only [endsB,Bool.and_eq_true,decide_eq_true_eq,List.length_cons,List.length_nil] at q
  rw [Bool.and_eq_true,decide_eq_true_eq,beq_iff_eq]
  exact ⟨by omega,h1.symm⟩
 ·intro q
  rw [Bool.and_eq_true,decide_eq_true_eq,beq_iff_eq] at q
  obtain ⟨q1,q2⟩:=q
  have h3:s.length - 2<s.length:=by omega
  have h4:s.length - 2+1<s.length:=by omega
  simp only [endsB,Bool.and_eq_true,decide_eq_true_eq,List.length_cons,List.length_nil]
  refine ⟨by omega,?_⟩
  have e1:topV s 0=s[s.length - 2+1]:=by
   unfold topV
   rw [if_neg (by omega),show s.length - 1 - 0=s.length - 2+1 by omega,gd h4]
  have e2:topV s 1=s[s.length - 2]:=by
   unfold topV
   rw [if_neg (by omega),show s.length - 1 - 1=s.length - 2 by omega,gd h3]
  rw [show s.length - (0+1+1)=s.length - 2 by omega,List.drop_eq_getElem_cons h3,List.drop_eq_getElem_cons h4,List.drop_of_length_le (by omega),←e1,←e2,q2]
theorem effect_eq (k:Nat) (c:Code) (t:CodeType) (m:CodeMethod) (x:Instr) (s:List Int) (hk:200≤k) (hs:s.length≤40) (hx:okI c t m x=true) (hc:∀T∈c.Types,∀M∈T.Methods,M.Params.length≤20) :
  ∃e,zag k c t m x s=some e∧RE e (aftP c t m x s) s:=by
 obtain ⟨r1,r2,r3,r4,r5,r6,r7⟩:=okI_rng hx
 by_cases e1:x.Op=1
 ·have hne:¬(x.Op=15∨x.Op=16∨x.Op=31):=by omega
  have h32:¬(x.Op=32∨x.Op=30):=by omega
  have he:∀top,effsP c t m x top=[⟨[],[x.Value.Kind]⟩]:=fun top=>by
   unfold effsP zal
   rw [e1]
   rfl
  refine ⟨_,?_,by rw [aft_ne hne,he];exact re_one h32 (by simp)⟩
  unfold zag
  rw [e1]
  show Option.bind _ _=_
  rw [takes_eq k s _ _ hk hs (by simp)]
  rfl
 by_cases e2:x.Op=2
 ·have hne:¬(x.Op=15∨x.Op=16∨x.Op=31):=by omega
  have h32:¬(x.Op=32∨x.Op=30):=by omega
  have hr:=r1 (.inl e2)
  have he:∀top,effsP c t m x top=[⟨[],[m.Locals.getD x.A.toNat default]⟩]:=fun top=>by
   unfold effsP zal
   rw [e2]
   show Option.getD (ifp _ _) _=_
   rw [ifp_pos hr]
   rfl
  refine ⟨_,?_,by rw [aft_ne hne,he];exact re_one h32 (by simp)⟩
  unfold zag
  rw [e2]
  show ifp _ _=_
  rw [ifp_pos hr]
  rw [takes_eq k s _ _ hk hs (by simp)]
  rfl
 by_cases e3:x.Op=3
 ·have hne:¬(x.Op=15∨x.Op=16∨x.Op=31):=by omega
  have h32:¬(x.Op=32∨x.Op=30):=by omega
  have hr:=r1 (.inr e3)
  have he:∀top,effsP c t m x top=[⟨[m.Locals.getD x.A.toNat default],[]⟩]:=fun top=>by
   unfold effsP zal
   rw [e3]
   show Option.getD (ifp _ _) _=_
   rw [ifp_pos hr]
   rfl
  refine ⟨_,?_,by rw [aft_ne hne,he];exact re_one h32 (by simp)⟩
  unfold zag
  rw [e3]
  show ifp _ _=_
  rw [ifp_pos hr]
  rw [takes_eq k s _ _ hk hs (by simp)]
  rfl
 by_cases e4:x.Op=4
 ·have hne:¬(x.Op=15∨x.Op=16∨x.Op=31):=by omega
  have h32:¬(x.Op=32∨x.Op=30):=by omega
  have hr:=r2 (.inl e4)
  have he:∀top,effsP c t m x top=[⟨[],[(t.Fields.getD x.A.toNat default).Kind]⟩]:=fun top=>by
   unfold effsP zal
   rw [e4]
   show Option.getD (ifp _ _) _=_
   rw [ifp_pos hr]
   rfl
  refine ⟨_,?_,by rw [aft_ne hne,he];exact re_one h32 (by simp)⟩
  unfold zag
  rw [e4]
  show ifp _ _=_
  rw [ifp_pos hr]
  rw [takes_eq k s _ _ hk hs (by simp)]
  rfl
 by_cases e5:x.Op=5
 ·have hne:¬(x.Op=15∨x.Op=16∨x.Op=31):=by omega
  have h32:¬(x.Op=32∨x.Op=30):=by omega
  have hr:=r2 (.inr e5)
  have he:∀top,effsP c t m x top=[⟨[(t.Fields.getD x.A.toNat default).Kind],[]⟩]:=fun top=>by
   unfold effsP zal
   rw [e5]
   show Option.getD (ifp _ _) _=_
   rw [ifp_pos hr]
   rfl
  refine ⟨_,?_,by rw [aft_ne hne,he];exact re_one h32 (by simp)⟩
  unfold zag
  rw [e5]
  show ifp _ _=_
  rw [ifp_pos hr]
  rw [takes_eq k s _ _ hk hs (by simp)]
  rfl
 by_cases e6:x.Op=6
 ·have hne:¬(x.Op=15∨x.Op=16∨x.Op=31):=by omega
  have h32:¬(x.Op=32∨x.Op=30):=by omega
  have he:∀top,effsP c t m x top=[⟨[],[3]⟩]:=fun top=>by
   unfold effsP zal
   rw [e6]
   rfl
  refine ⟨_,?_,by rw [aft_ne hne,he];exact re_one h32 (by simp)⟩
  unfold zag
  rw [e6]
  show Option.bind _ _=_
  rw [takes_eq k s _ _ hk hs (by simp)]
  rfl
 by_cases e7:x.Op=7
 ·have hne:¬(x.Op=15∨x.Op=16∨x.Op=31):=by omega
  have h32:¬(x.Op=32∨x.Op=30):=by omega
  have he:∀top,effsP c t m x top=[⟨[1],[1]⟩]:=fun top=>by
   unfold effsP zal
   rw [e7]
   rfl
  refine ⟨_,?_,by rw [aft_ne hne,he];exact re_one h32 (by simp)⟩
  unfold zag
  rw [e7]
  show Option.bind _ _=_
  rw [takes_eq k s _ _ hk hs (by simp)]
  rfl
 by_cases e8:x.Op=8
 ·have hne:¬(x.Op=15∨x.Op=16∨x.Op=31):=by omega
  have h32:¬(x.Op=32∨x.Op=30):=by omega
  have he:∀top,effsP c t m x top=[⟨[2],[2]⟩]:=fun top=>by
   unfold effsP zal
   rw [e8]
   rfl
  refine ⟨_,?_,by rw [aft_ne hne,he];exact re_one h32 (by simp)⟩
  unfold zag
  rw [e8]
  show Option.bind _ _=_
  rw [takes_eq k s _ _ hk hs (by simp)]
  rfl
 by_cases e9:x.Op=9
 ·have hne:¬(x.Op=15∨x.Op=16∨x.Op=31):=by omega
  have h32:¬(x.Op=32∨x.Op=30):=by omega
  have he:∀top,effsP c t m x top=[⟨[1,1],[1]⟩]:=fun top=>by
   unfold effsP zal
   rw [e9]
   rfl
  refine ⟨_,?_,by rw [aft_ne hne,he];exact re_one h32 (by simp)⟩
  unfold zag
  rw [e9]
  show Option.bind _ _=_
  rw [takes_eq k s _ _ hk hs (by simp)]
  rfl
 by_cases e11:x.Op=11
 ·have hne:¬(x.Op=15∨x.Op=16∨x.Op=31):=by omega
  have h32:¬(x.Op=32∨x.Op=30):=by omega
  have he:∀top,effsP c t m x top=[⟨[1,1],[1]⟩]:=fun top=>by
   unfold effsP zal
   rw [e11]
   rfl
  refine ⟨_,?_,by rw [aft_ne hne,he];exact re_one h32 (by simp)⟩
  unfold zag
  rw [e11]
  show Option.bind _ _=_
  rw [takes_eq k s _ _ hk hs (by simp)]
  rfl
 by_cases e12:x.Op=12
 ·have hne:¬(x.Op=15∨x.Op=16∨x.Op=31):=by omega
  have h32:¬(x.Op=32∨x.Op=30):=by omega
  have he:∀top,effsP c t m x top=[⟨[1,1],[1]⟩]:=fun top=>by
   unfold effsP zal
   rw [e12]
   rfl
  refine ⟨_,?_,by rw [aft_ne hne,he];exact re_one h32 (by simp)⟩
  unfold zag
  rw [e12]
  show Option.bind _ _=_
  rw [takes_eq k s _ _ hk hs (by simp)]
  rfl
 by_cases e13:x.Op=13
 ·have hne:¬(x.Op=15∨x.Op=16∨x.Op=31):=by omega
  have h32:¬(x.Op=32∨x.Op=30):=by omega
  have he:∀top,effsP c t m x top=[⟨[1,1],[1]⟩]:=fun top=>by
   unfold effsP zal
   rw [e13]
   rfl
  refine ⟨_,?_,by rw [aft_ne hne,he];exact re_one h32 (by simp)⟩
  unfold zag
  rw [e13]
  show Option.bind _ _=_
  rw [takes_eq k s _ _ hk hs (by simp)]
  rfl
 by_cases e14:x.Op=14
 ·have hne:¬(x.Op=15∨x.Op=16∨x.Op=31):=by omega
  have h32:¬(x.Op=32∨x.Op=30):=by omega
  have he:∀top,effsP c t m x top=[⟨[1,1],[1]⟩]:=fun top=>by
   unfold effsP zal
   rw [e14]
   rfl
  refine ⟨_,?_,by rw [aft_ne hne,he];exact re_one h32 (by simp)⟩
  unfold zag
  rw [e14]
  show Option.bind _ _=_
  rw [takes_eq k s _ _ hk hs (by simp)]
  rfl
 by_cases e10:x.Op=10
 ·have hne:¬(x.Op=15∨x.Op=16∨x.Op=31):=by omega
  have h32:¬(x.Op=32∨x.Op=30):=by omega
  have he:∀top,effsP c t m x top=[⟨[3,3],[3]⟩]:=fun top=>by
   unfold effsP zal
   rw [e10]
   rfl
  refine ⟨_,?_,by rw [aft_ne hne,he];exact re_one h32 (by simp)⟩
  unfold zag
  rw [e10]
  show Option.bind _ _=_
  rw [takes_eq k s _ _ hk hs (by simp)]
  rfl
 by_cases e25:x.Op=25
 ·have hne:¬(x.Op=15∨x.Op=16∨x.Op=31):=by omega
  have h32:¬(x.Op=32∨x.Op=30):=by omega
  have he:∀top,effsP c t m x top=[⟨[1],[3]⟩]:=fun top=>by
   unfold effsP zal
   rw [e25]
   rfl
  refine ⟨_,?_,by rw [aft_ne hne,he];exact re_one h32 (by simp)⟩
  unfold zag
  rw [e25]
  show Option.bind _ _=_
  rw [takes_eq k s _ _ hk hs (by simp)]
  rfl
 by_cases e29:x.Op=29
 ·have hne:¬(x.Op=15∨x.Op=16∨x.Op=31):=by omega
  have h32:¬(x.Op=32∨x.Op=30):=by omega
  have he:∀top,effsP c t m x top=[⟨[2],[]⟩]:=fun top=>by
   unfold effsP zal
   rw [e29]
   rfl
  refine ⟨_,?_,by rw [aft_ne hne,he];exact re_one h32 (by simp)⟩
  unfold zag
  rw [e29]
  show Option.bind _ _=_
  rw [takes_eq k s _ _ hk hs (by simp)]
  rfl
 by_cases e34:x.Op=34
 ·have hne:¬(x.Op=15∨x.Op=16∨x.Op=31):=by omega
  have h32:¬(x.Op=32∨x.Op=30):=by omega
  have he:∀top,effsP c t m x top=[⟨[3,1],[]⟩]:=fun top=>by
   unfold effsP zal
   rw [e34]
   rfl
  refine ⟨_,?_,by rw [aft_ne hne,he];exact re_one h32 (by simp)⟩
  unfold zag
  rw [e34]
  show Option.bind _ _=_
  rw [takes_eq k s _ _ hk hs (by simp)]
  rfl
 by_cases e35:x.Op=35
 ·have hne:¬(x.Op=15∨x.Op=16∨x.Op=31):=by omega
  have h32:¬(x.Op=32∨x.Op=30):=by omega
  have he:∀top,effsP c t m x top=[⟨[3,1,1],[]⟩]:=fun top=>by
   unfold effsP zal
   rw [e35]
   rfl
  refine ⟨_,?_,by rw [aft_ne hne,he];exact re_one h32 (by simp)⟩
  unfold zag
  rw [e35]
  show Option.bind _ _=_
  rw [takes_eq k s _ _ hk hs (by simp)]
  rfl
 by_cases e36:x.Op=36
 ·have hne:¬(x.Op=15∨x.Op=16∨x.Op=31):=by omega
  have h32:¬(x.Op=32∨x.Op=30):=by omega
  have he:∀top,effsP c t m x top=[⟨[3],[]⟩]:=fun top=>by
   unfold effsP zal
   rw [e36]
   rfl
  refine ⟨_,?_,by rw [aft_ne hne,he];exact re_one h32 (by simp)⟩
  unfold zag
  rw [e36]
  show Option.bind _ _=_
  rw [takes_eq k s _ _ hk hs (by simp)]
  rfl
 by_cases e28:x.Op=28
 ·have hne:¬(x.Op=15∨x.Op=16∨x.Op=31):=by omega
  have h32:¬(x.Op=32∨x.Op=30):=by omega
  have he:∀top,effsP c t m x top=[⟨[],[]⟩]:=fun top=>by
   unfold effsP zal
   rw [e28]
   rfl
  refine ⟨_,?_,by rw [aft_ne hne,he];exact re_one h32 (by simp)⟩
  unfold zag
  rw [e28]
  show Option.bind _ _=_
  rw [takes_eq k s _ _ hk hs (by simp)]
  rfl
 by_cases e33:x.Op=33
 ·have hne:¬(x.Op=15∨x.Op=16∨x.Op=31):=by omega
  have h32:¬(x.Op=32∨x.Op=30):=by omega
  have he:∀top,effsP c t m x top=[⟨[],[]⟩]:=fun top=>by
   unfold effsP zal
   rw [e33]
   rfl
  refine ⟨_,?_,by rw [aft_ne hne,he];exact re_one h32 (by simp)⟩
  unfold zag
  rw [e33]
  show Option.bind _ _=_
  rw [takes_eq k s _ _ hk hs (by simp)]
  rfl
 by_cases e17:x.Op=17
 ·have hne:¬(x.Op=15∨x.Op=16∨x.Op=31):=by omega
  have h32:¬(x.Op=32∨x.Op=30):=by omega
  have he:∀top,effsP c t m x top=[⟨[1,1],[2]⟩,⟨[3,3],[2]⟩]:=fun top=>by
   unfold effsP zal
   rw [e17]
   rfl
  refine ⟨_,?_,by rw [aft_ne hne,he];exact re_two (n:=2) h32 (by simp) rfl rfl⟩
  unfold zag
  rw [e17]
  show Option.bind _ _=_
  rw [ends_eq k s _ hk hs (by simp),bind_e rfl,ends_eq k s _ hk hs (by simp),bind_e rfl,b_then rfl]
  rfl
 by_cases e18:x.Op=18
 ·have hne:¬(x.Op=15∨x.Op=16∨x.Op=31):=by omega
  have h32:¬(x.Op=32∨x.Op=30):=by omega
  have he:∀top,effsP c t m x top=[⟨[1,1],[2]⟩,⟨[3,3],[2]⟩]:=fun top=>by
   unfold effsP zal
   rw [e18]
   rfl
  refine ⟨_,?_,by rw [aft_ne hne,he];exact re_two (n:=2) h32 (by simp) rfl rfl⟩
  unfold zag
  rw [e18]
  show Option.bind _ _=_
  rw [ends_eq k s _ hk hs (by simp),bind_e rfl,ends_eq k s _ hk hs (by simp),bind_e rfl,b_then rfl]
  rfl
 by_cases e19:x.Op=19
 ·have hne:¬(x.Op=15∨x.Op=16∨x.Op=31):=by omega
  have h32:¬(x.Op=32∨x.Op=30):=by omega
  have he:∀top,effsP c t m x top=[⟨[1,1],[2]⟩,⟨[3,3],[2]⟩]:=fun top=>by
   unfold effsP zal
   rw [e19]
   rfl
  refine ⟨_,?_,by rw [aft_ne hne,he];exact re_two (n:=2) h32 (by simp) rfl rfl⟩
  unfold zag
  rw [e19]
  show Option.bind _ _=_
  rw [ends_eq k s _ hk hs (by simp),bind_e rfl,ends_eq k s _ hk hs (by simp),bind_e rfl,b_then rfl]
  rfl
 by_cases e20:x.Op=20
 ·have hne:¬(x.Op=15∨x.Op=16∨x.Op=31):=by omega
  have h32:¬(x.Op=32∨x.Op=30):=by omega
  have he:∀top,effsP c t m x top=[⟨[1,1],[2]⟩,⟨[3,3],[2]⟩]:=fun top=>by
   unfold effsP zal
   rw [e20]
   rfl
  refine ⟨_,?_,by rw [aft_ne hne,he];exact re_two (n:=2) h32 (by simp) rfl rfl⟩
  unfold zag
  rw [e20]
  show Option.bind _ _=_
  rw [ends_eq k s _ hk hs (by simp),bind_e rfl,ends_eq k s _ hk hs (by simp),bind_e rfl,b_then rfl]
  rfl
 by_cases e21:x.Op=21
 ·have hne:¬(x.Op=15∨x.Op=16∨x.Op=31):=by omega
  have h32:¬(x.Op=32∨x.Op=30):=by omega
  have he:∀top,effsP c t m x top=[⟨[3],[1]⟩,⟨[4],[1]⟩,⟨[5],[1]⟩]:=fun top=>by
   unfold effsP zal
   rw [e21]
   rfl
  refine ⟨⟨1,[1],((topV s 0==3)||(topV s 0==4))||(topV s 0==5)⟩,?_,?_⟩
  ·unfold zag
   rw [e21]
   show Option.bind (zaS k s ((0:Nat):Int)) _=_
   rw [top_eq k s 0 hs (by omega)]
   rfl
  ·rw [aft_ne hne,he,top_ends (by decide),top_ends (by decide),top_ends (by decide)]
   cases h3:endsB s [3]
   ·rw [app_no h3,Bool.false_or]
    exact re_two (n:=1) h32 (by simp) rfl rfl
   ·have:=re_one (x:=x) (s:=s) (w:=[3]) (p:=[1]) h32 (by simp)
    rw [app_yes h32 h3,h3] at this
    rw [app_yes h32 h3,Bool.true_or,Bool.true_or]
    exact this
 by_cases e22:x.Op=22
 ·have hne:¬(x.Op=15∨x.Op=16∨x.Op=31):=by omega
  have h32:¬(x.Op=32∨x.Op=30):=by omega
  have he:∀top,effsP c t m x top=[⟨[4,1],[1]⟩,⟨[5,1],[3]⟩]:=fun top=>by
   unfold effsP zal
   rw [e22]
   rfl
  refine ⟨_,?_,by rw [aft_ne hne,he];exact re_top (j:=1) h32 (by simp) (by simp) rfl rfl (by decide)⟩
  unfold zag
  rw [e22]
  show Option.bind (zaS k s ((1:Nat):Int)) _=_
  rw [top_eq k s 1 hs (by omega),bind_e rfl,takes_eq k s _ _ hk hs (by simp),takes_eq k s _ _ hk hs (by simp)]
  cases (topV s 1==4)<;>rfl
 by_cases e23:x.Op=23
 ·have hne:¬(x.Op=15∨x.Op=16∨x.Op=31):=by omega
  have h32:¬(x.Op=32∨x.Op=30):=by omega
  have he:∀top,effsP c t m x top=[⟨[4,1],[4]⟩,⟨[5,3],[5]⟩]:=fun top=>by
   unfold effsP zal
   rw [e23]
   rfl
  refine ⟨_,?_,by rw [aft_ne hne,he];exact re_top (j:=1) h32 (by simp) (by simp) rfl rfl (by decide)⟩
  unfold zag
  rw [e23]
  show Option.bind (zaS k s ((1:Nat):Int)) _=_
  rw [top_eq k s 1 hs (by omega),bind_e rfl,takes_eq k s _ _ hk hs (by simp),takes_eq k s _ _ hk hs (by simp)]
  cases (topV s 1==4)<;>rfl
 by_cases e24:x.Op=24
 ·have hne:¬(x.Op=15∨x.Op=16∨x.Op=31):=by omega
  have h32:¬(x.Op=32∨x.Op=30):=by omega
  have he:∀top,effsP c t m x top=[⟨[4,1,1],[4]⟩,⟨[5,1,3],[5]⟩]:=fun top=>by
   unfold effsP zal
   rw [e24]
   rfl
  refine ⟨_,?_,by rw [aft_ne hne,he];exact re_top (j:=2) h32 (by simp) (by simp) rfl rfl (by decide)⟩
  unfold zag
  rw [e24]
  show Option.bind (zaS k s ((2:Nat):Int)) _=_
  rw [top_eq k s 2 hs (by omega),bind_e rfl,takes_eq k s _ _ hk hs (by simp),takes_eq k s _ _ hk hs (by simp)]
  cases (topV s 2==4)<;>rfl
 by_cases e15:x.Op=15
 ·have h32:¬(x.Op=32∨x.Op=30):=by omega
  have he:∀top,effsP c t m x top=[⟨[top,top],[2]⟩]:=fun top=>by
   unfold effsP zal
   rw [e15]
   rfl
  refine ⟨⟨2,[2],decide (((s.length:Nat):Int)≥2)&&(topV s 0==topV s 1)⟩,?_,?_⟩
  ·unfold zag
   rw [e15]
   show Option.bind (bif _ then (Option.bind (zaS k s ((0:Nat):Int)) fun x35=>Option.bind (zaS k s ((1:Nat):Int)) fun x36=>some (x35==x36)) else some false) _=_
   rw [top_eq k s 0 hs (by omega),bind_e rfl,top_eq k s 1 hs (by omega),bind_e rfl,b_and rfl]
   rfl
  ·by_cases h0:s=[]
   ·subst h0
    unfold aftP
    rw [if_pos ⟨rfl,by omega⟩]
    exact ⟨2,rfl,by simp,(fun q=>by cases q),fun _=>rfl⟩
   ·unfold aftP
    rw [if_neg (fun q=>h0 q.1),he,last_top h0,←ends_same h0]
    exact re_one (w:=[topV s 0,topV s 0]) h32 (by simp)
 by_cases e16:x.Op=16
 ·have h32:¬(x.Op=32∨x.Op=30):=by omega
  have he:∀top,effsP c t m x top=[⟨[top,top],[2]⟩]:=fun top=>by
   unfold effsP zal
   rw [e16]
   rfl
  refine ⟨⟨2,[2],decide (((s.length:Nat):Int)≥2)&&(topV s 0==topV s 1)⟩,?_,?_⟩
  ·unfold zag
   rw [e16]
   show Option.bind (bif _ then (Option.bind (zaS k s ((0:Nat):Int)) fun x35=>Option.bind (zaS k s ((1:Nat):Int)) fun x36=>some (x35==x36)) else some false) _=_
   rw [top_eq k s 0 hs (by omega),bind_e rfl,top_eq k s 1 hs (by omega),bind_e rfl,b_and rfl]
   rfl
  ·by_cases h0:s=[]
   ·subst h0
    unfold aftP
    rw [if_pos ⟨rfl,by omega⟩]
    exact ⟨2,rfl,by simp,(fun q=>by cases q),fun _=>rfl⟩
   ·unfold aftP
    rw [if_neg (fun q=>h0 q.1),he,last_top h0,←ends_same h0]
    exact re_one (w:=[topV s 0,topV s 0]) h32 (by simp)
 by_cases e31:x.Op=31
 ·have h32:¬(x.Op=32∨x.Op=30):=by omega
  have he:∀top,effsP c t m x top=[⟨[top],[]⟩]:=fun top=>by
   unfold effsP zal
   rw [e31]
   rfl
  refine ⟨⟨1,[],decide (((s.length:Nat):Int)≥1)⟩,?_,?_⟩
  ·unfold zag
   rw [e31]
   rfl
  ·by_cases h0:s=[]
   ·subst h0
    unfold aftP
    rw [if_pos ⟨rfl,by omega⟩]
    exact ⟨1,rfl,by simp,(fun q=>by cases q),fun _=>rfl⟩
   ·have hp:0<s.length:=List.length_pos_iff.2 h0
    unfold aftP
    rw [if_neg (fun q=>h0 q.1),he,last_top h0]
    have:=re_one (x:=x) (s:=s) (w:=[topV s 0]) (p:=[]) h32 (by simp)
    rw [last_ends h0] at this
    rw [decide_eq_true (by omega)]
    exact this
 by_cases e26:x.Op=26
 ·have hne:¬(x.Op=15∨x.Op=16∨x.Op=31):=by omega
  have h32:¬(x.Op=32∨x.Op=30):=by omega
  have hr:=r3 (.inl e26)
  have he:∀top,effsP c t m x top=[⟨List.replicate x.A.toNat 1,[4]⟩]:=fun top=>by
   unfold effsP zal zdE
   rw [e26]
   show Option.getD (Option.bind (ifp _ _) _) _=_
   rw [ifp_pos (by omega)]
   rfl
  refine ⟨_,?_,by rw [aft_ne hne,he];exact re_one h32 (by simp)⟩
  unfold zag
  rw [e26]
  show Option.bind (zcs k 1 x.A) _=_
  rw [many_eq k 1 x.A hk hr.1 (by omega),bind_e rfl,takes_eq k s _ _ hk hs (by rw [List.length_replicate];omega)]
  rfl
 by_cases e27:x.Op=27
 ·have hne:¬(x.Op=15∨x.Op=16∨x.Op=31):=by omega
  have h32:¬(x.Op=32∨x.Op=30):=by omega
  have hr:=r3 (.inr e27)
  have he:∀top,effsP c t m x top=[⟨List.replicate x.A.toNat 3,[5]⟩]:=fun top=>by
   unfold effsP zal zdE
   rw [e27]
   show Option.getD (Option.bind (ifp _ _) _) _=_
   rw [ifp_pos (by omega)]
   rfl
  refine ⟨_,?_,by rw [aft_ne hne,he];exact re_one h32 (by simp)⟩
  unfold zag
  rw [e27]
  show Option.bind (zcs k 3 x.A) _=_
  rw [many_eq k 3 x.A hk hr.1 (by omega),bind_e rfl,takes_eq k s _ _ hk hs (by rw [List.length_replicate];omega)]
  rfl
 by_cases e32:x.Op=32
 ·have hne:¬(x.Op=15∨x.Op=16∨x.Op=31):=by omega
  obtain ⟨l,hl,hl2,hl3⟩:=result_eq 0 m
  have he:∀top,effsP c t m x top=[⟨l,[]⟩]:=fun top=>by
   unfold effsP zal
   rw [e32]
   show Option.getD (Option.bind (zdG 0 m) _) _=_
   rw [hl]
   rfl
  refine ⟨_,?_,by rw [aft_ne hne,he];exact re_all (.inl e32) (by simp)⟩
  unfold zag
  rw [e32]
  show (bif (m.Result != 0) then _ else _)=_
  by_cases h0:m.Result=0
  ·rw [if_pos h0] at hl3
   subst hl3
   rw [h0]
   show Option.bind _ _=_
   rw [takes_eq k s _ _ hk hs (by simp)]
   rfl
  ·rw [if_neg h0] at hl3
   subst hl3
   rw [bne_iff_ne.2 h0,cond_true,takes_eq k s _ _ hk hs (by simp)]
   rfl
 by_cases e30:x.Op=30
 ·have hne:¬(x.Op=15∨x.Op=16∨x.Op=31):=by omega
  obtain ⟨h1,h2⟩:=r5 e30
  have ht:c.Types.getD x.A.toNat default∈c.Types:=getD_mem (by omega)
  have hm:=hc _ ht _ (getD_mem (l:=(c.Types.getD x.A.toNat default).Methods) (i:=x.B.toNat) (by omega))
  obtain ⟨M,hM⟩:∃M,(c.Types.getD x.A.toNat default).Methods.getD x.B.toNat default=M:=⟨_,rfl⟩
  rw [hM] at hm
  obtain ⟨l,hl,hl2,hl3⟩:=result_eq 0 M
  have he:∀top,effsP c t m x top=[⟨[3]++M.Params,l⟩]:=fun top=>by
   unfold effsP zal
   rw [e30]
   show Option.getD (ifp _ _) _=_
   rw [ifp_pos h1,ifp_pos h2,hM,ifp_pos (by show 1+_≤_;omega),hl]
   rfl
  refine ⟨_,?_,by rw [aft_ne hne,he];exact re_all (.inr e30) hl2⟩
  unfold zag
  rw [e30]
  show ifp _ _=_
  rw [ifp_pos h1,ifp_pos h2,hM,ifp_pos (by show 1+_≤_;omega),takes_eq k s _ _ hk hs (by rw [List.length_append];show 1+_≤_;omega),bind_e rfl]
  by_cases h0:M.Result=0
  ·rw [if_pos h0] at hl3
   subst hl3
   rw [h0]
   rfl
  ·rw [if_neg h0] at hl3
   subst hl3
   rw [bne_iff_ne.2 h0]
   rfl
 omega
end Md
end Go.Proofs.YtclffekkjfhpdaaGreat
namespace Go.Proofs.YtclffekkjfhpdaaGreat
set_option linter.unusedVariables false
set_option linter.unusedSimpArgs false
namespace Md
section
variable (c:Code) (t:CodeType) (m:CodeMethod)
def AP (i:Nat) (s:List Int):List Int×Bool:=aftP c t m (m.Code.getD i default) s
def genB (i:Nat) (b:Nat→Bool):Nat→Bool:=fun q=>if (m.Code.getD i default).Op=3∧q=(m.Code.getD i default).A.toNat then true else b q
inductive Pth:Nat→List Int→(Nat→Bool)→Prop
 | zero:Pth 0 [] (fun q=>decide (q<m.Params.length))
 | step {i j:Nat} {s:List Int} {b:Nat→Bool} (h:Pth i s b) (h1:(AP c t m i s).2=true) (h2:(sucP m i).2=true) (h3:(j:Int)∈(sucP m i).1):Pth j (AP c t m i s).1 (genB m i b)
def BadP:Prop:=(∃i s b,Pth c t m i s b∧((AP c t m i s).2=false∨(sucP m i).2=false))∨∃i s s' b b',Pth c t m i s b∧Pth c t m i s' b'∧s≠s'
def OkayP:Prop:=¬BadP c t m∧(∀i,i<m.Code.length→∃s b,Pth c t m i s b)∧∀i s b,Pth c t m i s b→(m.Code.getD i default).Op=2→b (m.Code.getD i default).A.toNat=true
end
variable {c:Code} {t:CodeType} {m:CodeMethod}
theorem Pth.lt (hC:Ctx c t m) {i:Nat} {s:List Int} {b:Nat→Bool} (h:Pth c t m i s b):i<m.Code.length:=by
 induction h with
 | zero=>exact hC.pos
 | step h h1 h2 h3 ih =>
  obtain ⟨j',e,hj⟩:=(suc_rng c t m _ ih (hC.ins _ ih)).2 _ h3
  omega
def bt (s:UInt64) (q:Nat):Bool:=bitB s (q:Int)
theorem bt_eq (s:UInt64) (q:Nat) (h:q<64):bt s q=s.toNat.testBit q:=by
 unfold bt bitB
 rw [Int.toNat_natCast]
 have h1:((shr64 s q) &&& (1:UInt64)).toNat=s.toNat/2^q%2:=by
  rw [UInt64.toNat_and,shr64_nat,Nat.min_eq_left (by omega)]
  show (s.toNat/2^q) &&& 1=_
  rw [Nat.and_one_is_mod]
 rw [h1,Nat.testBit_eq_decide_div_mod_eq]
 rcases Nat.mod_two_eq_zero_or_one (s.toNat/2^q) with h2|h2<;>rw [h2]<;>rfl
theorem bt_and (a b:UInt64) (q:Nat) (h:q<64):bt (a &&& b) q=(bt a q&&bt b q):=by
 rw [bt_eq _ _ h,bt_eq _ _ h,bt_eq _ _ h,UInt64.toNat_and,Nat.testBit_and]
theorem bt_or (a b:UInt64) (q:Nat) (h:q<64):bt (a ||| b) q=(bt a q||bt b q):=by
 rw [bt_eq _ _ h,bt_eq _ _ h,bt_eq _ _ h,UInt64.toNat_or,Nat.testBit_or]
theorem bt_sub {a b:UInt64} (h:Sub a b) {q:Nat} (hq:q<64) (ha:bt a q=true):bt b q=true:=by
 have:=bt_and a b q hq
 unfold Sub at h
 rw [h,ha,Bool.true_and] at this
 exact this.symm
theorem bt_shl (a q:Nat) (ha:a<64) (hq:q<64):bt (shl64 1 a) q=decide (q=a):=by
 rw [bt_eq _ _ hq,shl64_nat,Nat.min_eq_left (by omega)]
 have e1:(1:UInt64).toNat=1:=rfl
 rw [e1,Nat.one_mul,Nat.mod_eq_of_lt (Nat.pow_lt_pow_right (by decide) ha),Nat.testBit_two_pow]
 rw [decide_eq_decide]
 exact eq_comm
theorem bt_start:∀p,p<5→∀q,q<64→bt (shl64 (1:UInt64) p - (1:UInt64)) q=decide (q<p):=by decide +kernel
theorem bt_gen (hC:Ctx c t m) {i:Nat} (hi:i<m.Code.length) (s:UInt64) {q:Nat} (hq:q<64):bt (genP m i s) q=genB m i (fun q=>bt s q) q:=by
 unfold genP genB
 by_cases e:(m.Code.getD i default).Op=3
 ·have:=(okI_rng (hC.ins i hi)).1 (.inr e)
  have hl:=hC.loc
  rw [if_pos e,bt_or _ _ _ hq,bt_shl _ _ (by omega) hq]
  by_cases h:q=(m.Code.getD i default).A.toNat
  ·rw [if_pos ⟨e,h⟩,decide_eq_true h,Bool.or_true]
  ·rw [if_neg (fun w=>h w.2),decide_eq_false h,Bool.or_false]
 ·rw [if_neg e,if_neg (fun w=>e w.1)]
theorem inv_path (hC:Ctx c t m) {st:List St} (h:InvS c t m st []) {i:Nat} {s:List Int} {b:Nat→Bool} (hp:Pth c t m i s b):(st.getD i default).reached=true∧(st.getD i default).stack=s∧∀q,q<64→bt (st.getD i default).set q=true→b q=true:=by
 induction hp with
 | zero =>
  refine ⟨h.zero.1,h.zero.2,fun q hq hb=>?_⟩
  have:=bt_sub h.zset hq hb
  rw [bt_start _ (by have:=hC.par;omega) q hq] at this
  exact this
 | @step i j s b hp h1 h2 h3 ih =>
  obtain ⟨a1,a2,a3⟩:=ih
  have hi:=hp.lt hC
  obtain ⟨d1,d2,d3⟩:=h.done i (by rw [h.len];exact hi) a1 (by simp)
  obtain ⟨b1,b2,b3⟩:=d3 j h3
  rw [a2] at b2
  refine ⟨b1,b2,fun q hq hb=>?_⟩
  have:=bt_sub b3 hq hb
  rw [bt_gen hC hi _ hq] at this
  unfold genB at this ⊢
  split at this
  ·rename_i w;rw [if_pos w]
  ·rename_i w;rw [if_neg w];exact a3 q hq this
theorem zgS (stk:List Int) (g:UInt64):∀(tos:List Int) (st:List St) (w:List Int),(∀a∈tos,∃i:Nat,a=(i:Int)∧i<st.length)→stepT stk g tos st w=none→∃j:Nat,(j:Int)∈tos∧(st.getD j default).reached=true∧(st.getD j default).stack≠stk
 | [],st,w,_,h=>by cases h
 | a::r,st,w,hr,h=>by
  obtain ⟨i,rfl,hi⟩:=hr _ (List.mem_cons_self ..)
  have hr':∀a∈r,∃j:Nat,a=(j:Int)∧j<st.length:=fun a h=>hr a (List.mem_cons_of_mem _ h)
  rw [stepT,Int.toNat_natCast] at h
  split at h
  ·obtain ⟨j,h1,h2,h3⟩:=zgS stk g r _ _ (by simpa using hr') h
   rw [getD_set hi] at h2 h3
   by_cases e:j=i
   ·rw [if_pos e] at h3;exact absurd rfl h3
   ·rw [if_neg e] at h2 h3;exact ⟨j,List.mem_cons_of_mem _ h1,h2,h3⟩
  ·rename_i hre
   rw [Bool.not_eq_false] at hre
   split at h
   ·rename_i hs;exact ⟨i,List.mem_cons_self ..,hre,hs⟩
   ·rename_i hs
    have hs:=Classical.not_not.1 hs
    split at h
    ·obtain ⟨j,h1,h2,h3⟩:=zgS stk g r _ _ (by simpa using hr') h
     rw [getD_set hi] at h2 h3
     by_cases e:j=i
     ·rw [if_pos e] at h3;exact absurd hs h3
     ·rw [if_neg e] at h2 h3;exact ⟨j,List.mem_cons_of_mem _ h1,h2,h3⟩
    ·obtain ⟨j,h1,h2,h3⟩:=zgS stk g r _ _ hr' h
     exact ⟨j,List.mem_cons_of_mem _ h1,h2,h3⟩
theorem zgW (stk:List Int) (g:UInt64):∀(tos:List Int) (st:List St) (w:List Int) (st':List St) (w':List Int),(∀a∈tos,∃i:Nat,a=(i:Int)∧i<st.length)→stepT stk g tos st w=some (st',w')→∀(j q:Nat),q<64→(st'.getD j default).reached=true→bt (st'.getD j default).set q=false →
  ((st.getD j default).reached=true∧bt (st.getD j default).set q=false)∨((j:Int)∈tos∧bt g q=false)
 | [],st,w,st',w',_,h,j,q,_,h1,h2=>by
  rw [stepT] at h
  injection h with h
  injection h with h3 h4
  subst h3
  exact .inl ⟨h1,h2⟩
 | a::r,st,w,st',w',hr,h,j,q,hq,h1,h2=>by
  obtain ⟨i,rfl,hi⟩:=hr _ (List.mem_cons_self ..)
  have hr':∀a∈r,∃j:Nat,a=(j:Int)∧j<st.length:=fun a h=>hr a (List.mem_cons_of_mem _ h)
  rw [stepT,Int.toNat_natCast] at h
  split at h
  ·rcases zgW stk g r _ _ _ _ (by simpa using hr') h j q hq h1 h2 with ⟨a1,a2⟩|⟨a1,a2⟩
   ·rw [getD_set hi] at a1 a2
    by_cases e:j=i
    ·rw [if_pos e] at a2;exact .inr ⟨by rw [e];exact List.mem_cons_self ..,a2⟩
    ·rw [if_neg e] at a1 a2;exact .inl ⟨a1,a2⟩
   ·exact .inr ⟨List.mem_cons_of_mem _ a1,a2⟩
  ·rename_i hre
   rw [Bool.not_eq_false] at hre
   split at h
   ·cases h
   ·split at h
    ·rcases zgW stk g r _ _ _ _ (by simpa using hr') h j q hq h1 h2 with ⟨a1,a2⟩|⟨a1,a2⟩
     ·rw [getD_set hi] at a1 a2
      by_cases e:j=i
      ·rw [if_pos e] at a2
       have a2:bt ((st.getD i default).set &&& g) q=false:=a2
       rw [bt_and _ _ _ hq] at a2
       cases hb:bt (st.getD i default).set q
       ·exact .inl ⟨by rw [e];exact hre,by rw [e];exact hb⟩
       ·rw [hb,Bool.true_and] at a2
        exact .inr ⟨by rw [e];exact List.mem_cons_self ..,a2⟩
      ·rw [if_neg e] at a1 a2;exact .inl ⟨a1,a2⟩
     ·exact .inr ⟨List.mem_cons_of_mem _ a1,a2⟩
    ·rcases zgW stk g r _ _ _ _ hr' h j q hq h1 h2 with a1|⟨a1,a2⟩
     ·exact .inl a1
     ·exact .inr ⟨List.mem_cons_of_mem _ a1,a2⟩
structure JS (c:Code) (t:CodeType) (m:CodeMethod) (st:List St):Prop where
 path:∀i,(st.getD i default).reached=true→∃b,Pth c t m i (st.getD i default).stack b
 miss:∀i,(st.getD i default).reached=true→∀q,q<64→bt (st.getD i default).set q=false→∃s b,Pth c t m i s b∧b q=false
theorem js_step (hC:Ctx c t m) (hB:¬BadP c t m) {st:List St} (hJ:JS c t m st) {i:Nat} (hi:i<m.Code.length) (hri:(st.getD i default).reached=true) (h1:(AP c t m i (st.getD i default).stack).2=true) (h2:(sucP m i).2=true) {w0:List Int} {st':List St} {w':List Int}
  (hs:Stp (AP c t m i (st.getD i default).stack).1 (genP m i (st.getD i default).set) (sucP m i).1 st w0 st' w') (hbits:∀(j q:Nat),q<64→(st'.getD j default).reached=true→bt (st'.getD j default).set q=false→((st.getD j default).reached=true∧bt (st.getD j default).set q=false)∨((j:Int)∈(sucP m i).1∧bt (genP m i (st.getD i default).set) q=false)):JS c t m st':=by
 obtain ⟨b,hb⟩:=hJ.path i hri
 refine ⟨fun j hj=>?_,fun j hj q hq hbq=>?_⟩
 ·cases hq:(st.getD j default).reached with
  | true =>
   obtain ⟨b',hb'⟩:=hJ.path j hq
   exact ⟨b',by rw [(hs.mono j hq).2.1];exact hb'⟩
  | false =>
   obtain ⟨a1,a2⟩:=hs.new j hq hj
   exact ⟨_,by rw [a2];exact .step hb h1 h2 a1⟩
 ·rcases hbits j q hq hj hbq with ⟨a1,a2⟩|⟨a1,a2⟩
  ·exact hJ.miss j a1 q hq a2
  ·rw [bt_gen hC hi _ hq] at a2
   unfold genB at a2
   split at a2
   ·cases a2
   ·rename_i hn
    obtain ⟨s,b',p1,p2⟩:=hJ.miss i hri q hq a2
    have hss:s=(st.getD i default).stack:=Classical.byContradiction fun e=>hB (.inr ⟨i,_,_,_,_,p1,hb,e⟩)
    subst hss
    refine ⟨_,_,.step p1 h1 h2 a1,?_⟩
    unfold genB
    rw [if_neg hn]
    exact p2
theorem loop2_sem (k:Nat) (hk:200≤k) (hC:Ctx c t m) (hB:¬BadP c t m):∀n st w,InvS c t m st w→JS c t m st→w.length+2*pots st<n→w.length+2*pots st≤100000 →
  ∃st',zbg k c t m n st w=some (.inl st')∧InvS c t m st' []∧JS c t m st':=by
 intro n
 induction n with
 | zero=>intro st w _ _ h;omega
 | succ n ih =>
  intro st w hI hJ h1 h2
  rw [zbg]
  rcases List.eq_nil_or_concat w with rfl|⟨w0,a,rfl⟩
  ·exact ⟨st,rfl,hI,hJ⟩
  ·rw [List.concat_eq_append] at hI h1 h2 ⊢
   obtain ⟨i,rfl,hi,hri⟩:=hI.work a (by simp)
   have hlen:=hI.len
   have hcl:=hC.len
   have hl:(w0++[(i:Int)]).length=w0.length+1:=by simp
   rw [hl] at h1 h2
   have hW:W ((((w0++[(i:Int)]).length:Nat):Int) - 1)=((w0.length:Nat):Int):=by rw [hl,W_id (by omega) (by omega)];omega
   have hg:(w0++[(i:Int)]).getD w0.length default=(i:Int):=by simp [List.getD]
   rw [hW,decide_eq_true (by omega),cond_true,ifp_pos (by omega),ifp_pos (by omega),Int.toNat_natCast,ifp_pos (by omega),hg,ifp_pos (by omega),ifp_pos (by omega),Int.toNat_natCast]
   rw [after_eq k c t m _ _ hk (hI.stk i) (hC.ins i (by omega)) hC.pars,bind_e rfl,suc_eq k m i (by omega) hcl,bind_e rfl]
   have htk:(w0++[(i:Int)]).take w0.length=w0:=by simp
   rw [htk]
   obtain ⟨b,hb⟩:=hJ.path i hri
   have ha:(aftP c t m (m.Code.getD i default) (st.getD i default).stack).2=true:=by
    cases ha:(aftP c t m (m.Code.getD i default) (st.getD i default).stack).2 with
    | true=>rfl
    | false=>exact absurd (.inl ⟨i,_,b,hb,.inl ha⟩) hB
   have hsu:(sucP m i).2=true:=by
    cases ha:(sucP m i).2 with
    | true=>rfl
    | false=>exact absurd (.inl ⟨i,_,b,hb,.inr ha⟩) hB
   rw [ha,hsu,Bool.not_true,Bool.or_self,cond_false]
   have hgen:(bif (((m.Code.getD i default).Op)==3) then (Md.ifp (0≤((m.Code.getD i default).A))<|some (((st.getD i default).set) ||| (Md.shl64 (1:UInt64) (((m.Code.getD i default).A)).toNat))) else (some ((st.getD i default).set)):Option UInt64)=some (genP m i (st.getD i default).set):=by
    unfold genP
    by_cases e:(m.Code.getD i default).Op=3
    ·have:=(okI_rng (hC.ins i (by omega))).1 (.inr e)
     rw [if_pos e,beq_iff_eq.2 e,cond_true,ifp_pos this.1]
    ·rw [if_neg e,beq_eq_false_iff_ne.2 e];rfl
   rw [hgen,bind_e rfl]
   obtain ⟨s1,s2⟩:=suc_rng c t m i (by omega) (hC.ins i (by omega))
   rw [loop3_eqA k _ _ _ hk st.length (fun a h=>by obtain ⟨j,e,hj⟩:=s2 a h;exact ⟨j,e,by omega⟩) (aftP_len ha) s1 k 0 st w0 (Nat.zero_le _) (by omega) rfl (fun s hs=>by
    obtain ⟨j,hj,e⟩:=List.getElem_of_mem hs
    have:=hI.stk j
    rw [gd hj,e] at this
    exact this) (by omega),List.drop_zero]
   have htos:∀a∈(sucP m i).1,∃j:Nat,a=(j:Int)∧j<st.length:=fun a h=>by obtain ⟨j,e,hj⟩:=s2 a h;exact ⟨j,e,by omega⟩
   cases hs:stepT (aftP c t m (m.Code.getD i default) (st.getD i default).stack).1 (genP m i (st.getD i default).set) (sucP m i).1 st w0 with
   | none =>
    exfalso
    obtain ⟨j,j1,j2,j3⟩:=zgS _ _ _ _ _ htos hs
    obtain ⟨b',hb'⟩:=hJ.path j j2
    exact hB (.inr ⟨j,_,_,_,_,hb',.step hb ha hsu j1,j3⟩)
   | some p =>
    obtain ⟨st',w'⟩:=p
    have hst:=stepT_stp _ _ (gen_low hC (by omega) (hI.low i hri)) _ _ _ _ _ htos hs
    have hp:=hst.pot
    exact ih st' w' (inv_step hC hI hi ha hsu hst) (js_step hC hB hJ (by omega) hri ha hsu hst (zgW _ _ _ _ _ _ _ htos hs)) (by omega) (by omega)
theorem st0_js (hC:Ctx c t m):JS c t m (st0 m):=by
 have hp:=hC.pos
 have hr:∀i,((st0 m).getD i default).reached=true→i=0:=fun i h=>by
  rw [st0_get m hp] at h
  split at h
  ·assumption
  ·cases h
 refine ⟨fun i h=>?_,fun i h q hq hb=>?_⟩
 ·rw [hr i h,st0_get m hp,if_pos rfl]
  exact ⟨_,.zero⟩
 ·rw [hr i h,st0_get m hp,if_pos rfl] at hb
  have hb:bt (shl64 (1:UInt64) m.Params.length - (1:UInt64)) q=false:=hb
  rw [bt_start _ (by have:=hC.par;omega) q hq] at hb
  rw [hr i h]
  exact ⟨_,_,.zero,hb⟩
theorem ana_inl (hC:Ctx c t m) {st:List St} (h:zbg K c t m K (st0 m) [0]=some (.inl st)) (hst:InvS c t m st []) :
  (ana c t m=(st,true))∨((ana c t m).2=false∧∃i,i<m.Code.length∧((st.getD i default).reached=false∨((m.Code.getD i default).Op=2∧bitB (st.getD i default).set (m.Code.getD i default).A=false))):=by
 have hp:=hC.pos
 have hl:=hC.len
 have hsl:=hst.len
 unfold st0 stSet at h
 unfold ana zcI
 rw [ifp_pos (by omega),ifp_pos (by rw [List.length_replicate];exact hp),h]
 have hloop:=loopE st.length (fun i=>if (!(st.getD i default).reached||((m.Code.getD i default).Op==2&&!bitB (st.getD i default).set (m.Code.getD i default).A))=true then some (([]:List St),false) else none) (fun n i=>zaF K m st n i) (fun n i hi=>by
  show zaF K m st (n+1) i=_
  rw [zaF,lt_t hi,cond_true,ifp_pos hi,ifp_pos (by omega)]
  have e:((bif (((m.Code.getD i default).Op)==2) then (Md.ifp (0≤((m.Code.getD i default).A))<|some (((((Md.shr64 ((st.getD i default).set) ((((m.Code.getD i default).A)).toNat)) &&& (1:UInt64))).toNat:Int)==0)) else (some false)):Option Bool)=some ((m.Code.getD i default).Op==2&&!bitB (st.getD i default).set (m.Code.getD i default).A):=by
   by_cases e:(m.Code.getD i default).Op=2
   ·have:=(okI_rng (hC.ins i (by omega))).1 (.inl e)
    rw [beq_iff_eq.2 e,cond_true,ifp_pos this.1]
    unfold bitB
    rw [Bool.not_not]
    rfl
   ·rw [beq_eq_false_iff_ne.2 e];rfl
  rw [e,bind_e rfl,b_then rfl,bind_e rfl]
  cases (!(st.getD i default).reached||((m.Code.getD i default).Op==2&&!bitB (st.getD i default).set (m.Code.getD i default).A))
  ·exact ifp_pos (by omega)
  ·rfl) (fun n i hi=>by
  show zaF K m st (n+1) i=_
  rw [zaF,lt_f hi];rfl) K 0 (by unfold K;omega)
 rcases hloop with ⟨h2,_⟩|⟨j,r,_,hj,h4,_,h5⟩
 ·left
  show Option.getD (Option.bind (some (Sum.inl st)) _) _=_
  rw [bind_e rfl]
  show Option.getD (Option.bind (Option.bind (zaF K m st K 0) _) _) _=_
  rw [h2]
  rfl
 ·right
  split at h4
  ·rename_i hb
   injection h4 with h4
   subst h4
   refine ⟨?_,j,by omega,?_⟩
   ·show (Option.getD (Option.bind (some (Sum.inl st)) _) (([]:List St),false)).2=_
    rw [bind_e rfl]
    show (Option.getD (Option.bind (Option.bind (zaF K m st K 0) _) _) (([]:List St),false)).2=_
    rw [h5]
    rfl
   ·simp only [Bool.or_eq_true,Bool.not_eq_true',Bool.and_eq_true,beq_iff_eq] at hb
    exact hb
  ·cases h4
theorem start_ok (hC:Ctx c t m):InvS c t m (st0 m) [0]∧([0]:List Int).length+2*pots (st0 m)<K∧([0]:List Int).length+2*pots (st0 m)≤100000:=by
 have hI:InvS c t m (st0 m) [0]:=st0_inv hC
 have hl:=hC.len
 have hlen:=hI.len
 have hpot:=pots_le (st0 m) (fun s hs h=>by
  obtain ⟨i,hi,e⟩:=List.getElem_of_mem hs
  have e2:(st0 m).getD i default=s:=by rw [gd hi,e]
  rw [←e2] at h ⊢
  exact hI.low i h)
 have h1:([0]:List Int).length=1:=rfl
 exact ⟨hI,by unfold K;omega,by omega⟩
theorem ana_okay (hC:Ctx c t m):((ana c t m).2=true↔OkayP c t m)∧((ana c t m).2=true→((ana c t m).1.length=m.Code.length∧∀i s b,Pth c t m i s b→((ana c t m).1.getD i default).stack=s)):=by
 have key:(ana c t m).2=true→FinS c t m (ana c t m).1:=(ana_eq hC).2
 have hbad:(ana c t m).2=true→¬BadP c t m:=fun h=>by
  have hF:=key h
  rintro (⟨i,s,b,hp,hb⟩|⟨i,s,s',b,b',hp,hp',hne⟩)
  ·obtain ⟨a1,a2,_⟩:=inv_path hC hF.inv hp
   have hi:=hp.lt hC
   obtain ⟨d1,d2,_⟩:=hF.inv.done i (by rw [hF.inv.len];exact hi) a1 (by simp)
   rw [a2] at d1
   unfold AP at hb
   rcases hb with hb|hb
   ·rw [d1] at hb;cases hb
   ·rw [d2] at hb;cases hb
  ·exact hne ((inv_path hC hF.inv hp).2.1.symm.trans (inv_path hC hF.inv hp').2.1)
 obtain ⟨hI,hp1,hp2⟩:=start_ok hC
 refine ⟨⟨fun h=>?_,fun h=>?_⟩,fun h=>⟨(key h).inv.len,fun i s b hp=>(inv_path hC (key h).inv hp).2.1⟩⟩
 ·have hF:=key h
  obtain ⟨st,hr,hst,hJ⟩:=loop2_sem K (by decide) hC (hbad h) K (st0 m) [0] hI (st0_js hC) hp1 hp2
  have he:(ana c t m).1=st:=by
   rcases ana_inl hC hr hst with e|⟨e,_⟩
   ·rw [e]
   ·rw [h] at e;cases e
  refine ⟨hbad h,fun i hi=>?_,fun i s b hp ho=>?_⟩
  ·have:=hF.all i hi
   rw [he] at this
   obtain ⟨b,hb⟩:=hJ.path i this
   exact ⟨_,b,hb⟩
  ·obtain ⟨_,_,a3⟩:=inv_path hC hF.inv hp
   have hi:=hp.lt hC
   have:=(okI_rng (hC.ins i hi)).1 (.inl ho)
   have hl:=hC.loc
   have hb:=hF.bits i hi ho
   exact a3 _ (by omega) (by unfold bt;rw [show (((m.Code.getD i default).A.toNat:Nat):Int)=(m.Code.getD i default).A by omega];exact hb)
 ·obtain ⟨st,hr,hst,hJ⟩:=loop2_sem K (by decide) hC h.1 K (st0 m) [0] hI (st0_js hC) hp1 hp2
  rcases ana_inl hC hr hst with e|⟨e,i,hi,hb|⟨ho,hb⟩⟩
  ·rw [e]
  ·exfalso
   obtain ⟨s,b,hp⟩:=h.2.1 i hi
   rw [(inv_path hC hst hp).1] at hb
   cases hb
  ·exfalso
   have:=(okI_rng (hC.ins i hi)).1 (.inl ho)
   have hl:=hC.loc
   obtain ⟨s,b,hp⟩:=h.2.1 i hi
   have hre:=(inv_path hC hst hp).1
   obtain ⟨s',b',p1,p2⟩:=hJ.miss i hre (m.Code.getD i default).A.toNat (by omega) (by unfold bt;rw [show (((m.Code.getD i default).A.toNat:Nat):Int)=(m.Code.getD i default).A by omega];exact hb)
   have:=h.2.2 i s' b' p1 ho
   rw [p2] at this
   cases this
end Md
end Go.Proofs.YtclffekkjfhpdaaGreat
namespace Go.Proofs.YtclffekkjfhpdaaGreat
set_option linter.unusedVariables false
set_option linter.unusedSimpArgs false
namespace Md
abbrev Pt:=Actorgridref20Point
def zand:List Bool→List Bool→List Bool
 | a::r,b::s=>(a&&b)::zand r s
 | _,_=>[]
def fl:List Bool→List Bool→Bool
 | a::r,b::s=>(a&&!b)||fl r s
 | _,_=>false
def cntT:List Bool→Nat
 | []=>0
 | a::r=>(if a=true then 1 else 0)+cntT r
theorem zand_len:∀(P S:List Bool),P.length=S.length→(zand P S).length=P.length
 | [],_,_=>by simp [zand]
 | a::r,[],h=>by simp at h
 | a::r,b::s,h=>by simp [zand,zand_len r s (by simpa using h)]
theorem zand_get:∀(P S:List Bool),P.length=S.length→∀q,(zand P S).getD q false=(P.getD q false&&S.getD q false)
 | [],_,_,q=>by simp [zand]
 | a::r,[],h,q=>by simp at h
 | a::r,b::s,h,0=>by simp [zand]
 | a::r,b::s,h,q+1=>by
  have:=zand_get r s (by simpa using h) q
  simpa [zand] using this
theorem fl_no:∀(P S:List Bool),P.length=S.length→fl P S=false→zand P S=P
 | [],_,_,_=>by simp [zand]
 | a::r,[],h,_=>by simp at h
 | a::r,b::s,h,hf=>by
  rw [fl,Bool.or_eq_false_iff] at hf
  rw [zand,fl_no r s (by simpa using h) hf.2]
  cases a
  ·rfl
  ·cases b
   ·exact absurd hf.1 (by decide)
   ·rfl
theorem zand_cnt:∀(P S:List Bool),P.length=S.length→cntT (zand P S)≤cntT P∧(fl P S=true→cntT (zand P S)<cntT P)
 | [],_,_=>by simp [zand,cntT,fl]
 | a::r,[],h=>by simp at h
 | a::r,b::s,h=>by
  obtain ⟨h1,h2⟩:=zand_cnt r s (by simpa using h)
  rw [zand,cntT,cntT,fl]
  refine ⟨by cases a<;>cases b<;>simp<;>omega,fun q=>?_⟩
  cases a
  ·have:=h2 (by simpa using q)
   simp;omega
  ·cases b
   ·simp;omega
   ·have:=h2 (by simpa using q)
    simp;omega
theorem cnt_le:∀(P:List Bool),cntT P≤P.length
 | []=>by simp [cntT]
 | a::r=>by
  have:=cnt_le r
  rw [cntT,List.length_cons]
  split<;>omega
theorem meet_loop (k:Nat) (p:Pt) (S:List Bool) (hl:p.Set.length=S.length) (hS:S.length≤100):∀(n:Nat) (ch:Bool) (i:Nat) (acc:List Bool),i≤S.length→S.length - i<n→acc.length=i →
  zbh k p S n ch i acc=some (ch||fl (p.Set.drop i) (S.drop i),acc++zand (p.Set.drop i) (S.drop i)):=by
 intro n
 induction n with
 | zero=>intro ch i acc _ h;omega
 | succ n ih =>
  intro ch i acc h1 h2 h3
  rw [zbh]
  by_cases h:i<S.length
  ·have hp:i<p.Set.length:=by omega
   have hA:∀b:Bool,acc.length+[b].length≤4000000:=fun b=>by show acc.length+1≤4000000;omega
   have hn:i+1≤9223372036854775807:=by omega
   rw [lt_t h,cond_true,gd hp,gd h,List.drop_eq_getElem_cons h,List.drop_eq_getElem_cons hp,fl,zand]
   simp only [ifp_pos hp,ifp_pos h,ifp_pos (hA S[i]),ifp_pos (hA false),ifp_pos hn]
   have nx:=fun (ch:Bool) (b:Bool)=>ih ch (i+1) (acc++[b]) (by omega) (by omega) (by simp;omega)
   cases hP:p.Set[i]
   ·rw [cond_false]
    cases ch
    ·show zbh k p S n false (i+1) (acc++[false])=_
     rw [nx,List.append_assoc];rfl
    ·show zbh k p S n true (i+1) (acc++[false])=_
     rw [nx,List.append_assoc];rfl
   ·rw [cond_true]
    cases ch
    ·show zbh k p S n (!S[i]) (i+1) (acc++[S[i]])=_
     rw [nx,List.append_assoc]
     cases S[i]<;>rfl
    ·show zbh k p S n true (i+1) (acc++[S[i]])=_
     rw [nx,List.append_assoc]
     cases S[i]<;>rfl
  ·rw [lt_f h,cond_false,List.drop_of_length_le (by omega),List.drop_of_length_le (by omega)]
   simp [fl,zand]
def meetP (p:Pt) (stk:List Int) (S:List Bool):Pt×Bool×Bool :=
 if p.Known=false then (⟨true,stk,S⟩,true,true) else if p.Stack≠stk then (p,false,false) else (⟨true,p.Stack,zand p.Set S⟩,fl p.Set S,true)
theorem meet_eq (k:Nat) (hk:200≤k) (p:Pt) (stk:List Int) (S:List Bool) (hl:p.Known=true→p.Set.length=S.length) (hS:S.length≤100) (hst:p.Known=true→p.Stack.length≤40):zct k p stk S=some (meetP p stk S):=by
 unfold zct meetP
 cases hK:p.Known
 ·rw [Bool.not_false,cond_true,ifp_pos (by simp;omega),if_pos rfl]
  rfl
 ·rw [Bool.not_true,cond_false,if_neg (by decide),sameI_r k _ _ (by have:=hst hK;omega) (by have:=hst hK;omega),bind_e rfl]
  by_cases h:p.Stack=stk
  ·rw [decide_eq_true h,Bool.not_true,cond_false,if_neg (fun q=>q h),meet_loop k p S (hl hK) hS k false 0 [] (Nat.zero_le _) (by omega) rfl,bind_e rfl]
   rfl
  ·rw [decide_eq_false h,if_pos h]
   rfl
def meets (stk:List Int) (S:List Bool):List Int→Bool→List Pt→Option (Bool×List Pt)
 | [],ag,ps=>some (ag,ps)
 | a::r,ag,ps=>if a<0 then none else if (meetP (ps.getD a.toNat default) stk S).2.2=false then none else meets stk S r (ag||(meetP (ps.getD a.toNat default) stk S).2.1) (ps.set a.toNat (meetP (ps.getD a.toNat default) stk S).1)
theorem getD_setP {l:List Pt} {i j:Nat} {v:Pt} (hi:i<l.length):(l.set i v).getD j default=if j=i then v else l.getD j default:=by
 by_cases h:j=i
 ·subst h;simp [List.getD,hi]
 ·rw [if_neg h]
  simp [List.getD,List.getElem?_set,Ne.symm h]
def WF (L:Nat) (ps:List Pt):Prop:=∀i,(ps.getD i default).Known=true→(ps.getD i default).Set.length=L∧(ps.getD i default).Stack.length≤40
theorem meetP_wf {L:Nat} {p:Pt} {stk:List Int} {S:List Bool} (hp:p.Known=true→p.Set.length=L∧p.Stack.length≤40) (hS:S.length=L) (hst:stk.length≤40):(meetP p stk S).1.Known=true→(meetP p stk S).1.Set.length=L∧(meetP p stk S).1.Stack.length≤40:=by
 unfold meetP
 split
 ·exact fun _=>⟨hS,hst⟩
 ·rename_i hK
  rw [Bool.not_eq_false] at hK
  split
  ·exact hp
  ·exact fun _=>⟨by show (zand p.Set S).length=L;rw [zand_len _ _ ((hp hK).1.trans hS.symm)];exact (hp hK).1,(hp hK).2⟩
theorem wf_set {L:Nat} {ps:List Pt} {i:Nat} {v:Pt} (hi:i<ps.length) (h:WF L ps) (hv:v.Known=true→v.Set.length=L∧v.Stack.length≤40):WF L (ps.set i v):=fun j hj=>by
 rw [getD_setP hi] at hj ⊢
 by_cases e:j=i
 ·rw [if_pos e] at hj ⊢;exact hv hj
 ·rw [if_neg e] at hj ⊢;exact h j hj
theorem ziT (k:Nat) (hk:200≤k) (L:Nat) (hL:L≤100) (len:Nat) (stk:List Int) (hst:stk.length≤40) (S:List Bool) (hS:S.length=L) (l:List Int) (hl:l.length≤2) (hr:∀a∈l,a<0∨∃i:Nat,a=(i:Int)∧i<len)
  (F:Nat→Bool→Nat→List Pt→Option (Sum (Bool×List Pt) (List Pt×Bool)))
  (hF:∀n ag j ps,F (n+1) ag j ps=bif (decide (((j:Nat):Int)<((l.length:Nat):Int))) then (Md.ifp (j<l.length)<|bif (decide ((l.getD j default)<0)) then (some (Sum.inr (([]:List Pt),false))) else (Md.ifp (j<l.length)<|Md.ifp (0≤(l.getD j default)∧(l.getD j default)<((ps.length:Nat):Int))<|(zct k (ps.getD (((l.getD j default)).toNat) default) stk S).bind fun x42=>bif (!x42.2.2) then (some (Sum.inr (([]:List Pt),false))) else (Md.ifp (j<l.length)<|Md.ifp (0≤(l.getD j default)∧(l.getD j default)<((ps.length:Nat):Int))<|Md.ifp (j+1≤9223372036854775807)<|F n (ag||x42.2.1) (j+1) (ps.set (((l.getD j default)).toNat) x42.1)))) else (some (Sum.inl (ag,ps)))) :
  ∀n ag j ps,j≤l.length→l.length - j<n→ps.length=len→WF L ps→F n ag j ps=some (match meets stk S (l.drop j) ag ps with|none=>.inr ([],false)|some r=>.inl r):=by
 intro n
 induction n with
 | zero=>intro ag j ps _ h;omega
 | succ n ih =>
  intro ag j ps h1 h2 h3 h4
  rw [hF]
  by_cases h:j<l.length
  ·rw [lt_t h,cond_true,ifp_pos h,gd h,ifp_pos h,List.drop_eq_getElem_cons h,meets]
   rcases hr _ (List.getElem_mem h) with ha|⟨i,ha,hi⟩
   ·rw [decide_eq_true ha,if_pos ha];rfl
   ·rw [ha,decide_eq_false (by omega),cond_false,if_neg (by omega),ifp_pos (by omega),Int.toNat_natCast]
    have hwf:=h4 i
    rw [meet_eq k hk _ _ _ (fun q=>(hwf q).1.trans hS.symm) (by omega) (fun q=>(hwf q).2),bind_e rfl]
    cases hm:(meetP (ps.getD i default) stk S).2.2
    ·rw [if_pos rfl];rfl
    ·rw [if_neg (by decide),Bool.not_true,cond_false,ifp_pos h,ifp_pos (by omega),ifp_pos (by omega)]
     exact ih _ _ _ (by omega) (by omega) (by simp [h3]) (wf_set (by omega) h4 (meetP_wf (h4 i) hS hst))
  ·rw [lt_f h,cond_false,List.drop_of_length_le (by omega)]
   rfl
def rpot (L:Nat) (p:Pt):Nat:=if p.Known=true then cntT p.Set else L+1
def rpots (L:Nat) (l:List Pt):Nat:=(l.map (rpot L)).sum
theorem rpots_set (L:Nat):∀(l:List Pt) (i:Nat) (v:Pt),i<l.length→rpots L (l.set i v)+rpot L (l.getD i default)=rpots L l+rpot L v
 | [],i,v,h=>by cases h
 | a::r,0,v,h=>by simp [rpots];omega
 | a::r,i+1,v,h=>by
  have:=rpots_set L r i v (by simpa using h)
  simp [rpots] at *
  omega
structure MS (L:Nat) (stk:List Int) (S:List Bool) (tos:List Int) (ag:Bool) (ps:List Pt) (ag':Bool) (ps':List Pt):Prop where
 len:ps'.length=ps.length
 wf:WF L ps'
 mono:∀i,(ps.getD i default).Known=true→(ps'.getD i default).Known=true∧(ps'.getD i default).Stack=(ps.getD i default).Stack∧∀q,(ps'.getD i default).Set.getD q false=true→(ps.getD i default).Set.getD q false=true
 new:∀i:Nat,(ps.getD i default).Known=false→(ps'.getD i default).Known=true→(i:Int)∈tos∧(ps'.getD i default).Stack=stk
 bits:∀i q:Nat,(ps'.getD i default).Known=true→(ps'.getD i default).Set.getD q false=false→((ps.getD i default).Known=true∧(ps.getD i default).Set.getD q false=false)∨((i:Int)∈tos∧S.getD q false=false)
 pot:rpots L ps'≤rpots L ps∧(ag'=true→ag=true∨rpots L ps'<rpots L ps)
 quiet:ag'=false→ag=false∧ps'=ps∧∀i:Nat,(i:Int)∈tos→(ps.getD i default).Known=true∧(ps.getD i default).Stack=stk∧∀q,(ps.getD i default).Set.getD q false=true→S.getD q false=true
theorem ms_nil {L:Nat} {stk:List Int} {S:List Bool} {ag:Bool} {ps:List Pt} (h:WF L ps):MS L stk S [] ag ps ag ps :=
 ⟨rfl,h,fun i q=>⟨q,rfl,fun _ w=>w⟩,fun i a b=>(by rw [a] at b;cases b),fun i q a b=>.inl ⟨a,b⟩,⟨Nat.le_refl _,fun q=>.inl q⟩,fun q=>⟨q,rfl,fun i w=>(by cases w)⟩⟩
theorem ms_cons {L:Nat} {stk:List Int} {S:List Bool} {a:Int} {r:List Int} {ag ag1 ag':Bool} {ps ps1 ps':List Pt} (h1:MS L stk S [a] ag ps ag1 ps1) (h2:MS L stk S r ag1 ps1 ag' ps'):MS L stk S (a::r) ag ps ag' ps' where
 len:=h2.len.trans h1.len
 wf:=h2.wf
 mono:=fun i h=>by
  obtain ⟨a1,a2,a3⟩:=h1.mono i h
  obtain ⟨b1,b2,b3⟩:=h2.mono i a1
  exact ⟨b1,b2.trans a2,fun q w=>a3 q (b3 q w)⟩
 new:=fun i h h'=>by
  cases hq:(ps1.getD i default).Known
  ·obtain ⟨b1,b2⟩:=h2.new i hq h'
   exact ⟨List.mem_cons_of_mem _ b1,b2⟩
  ·obtain ⟨a1,a2⟩:=h1.new i h hq
   exact ⟨List.mem_cons.2 (.inl (List.mem_singleton.1 a1)),(h2.mono i hq).2.1.trans a2⟩
 bits:=fun i q k b=>by
  rcases h2.bits i q k b with ⟨c1,c2⟩|⟨c1,c2⟩
  ·rcases h1.bits i q c1 c2 with d|⟨d1,d2⟩
   ·exact .inl d
   ·exact .inr ⟨List.mem_cons.2 (.inl (List.mem_singleton.1 d1)),d2⟩
  ·exact .inr ⟨List.mem_cons_of_mem _ c1,c2⟩
 pot:=⟨Nat.le_trans h2.pot.1 h1.pot.1,fun q=>by
  have e1:=h1.pot.1
  have e2:=h2.pot.1
  rcases h2.pot.2 q with w|w
  ·rcases h1.pot.2 w with v|v
   ·exact .inl v
   ·exact .inr (by omega)
  ·exact .inr (by omega)⟩
 quiet:=fun q=>by
  obtain ⟨b1,b2,b3⟩:=h2.quiet q
  obtain ⟨a1,a2,a3⟩:=h1.quiet b1
  subst a2
  refine ⟨a1,b2,fun i hi=>?_⟩
  rcases List.mem_cons.1 hi with e|e
  ·exact a3 i (List.mem_singleton.2 e)
  ·exact b3 i e
theorem set_self {l:List Pt} {i:Nat} {v:Pt} (hi:i<l.length) (h:v=l.getD i default):l.set i v=l:=by
 rw [h,gd hi]
 exact List.set_getElem_self hi
theorem meets_ms {L:Nat} {stk:List Int} (hst:stk.length≤40) {S:List Bool} (hS:S.length=L):∀(tos:List Int) (ag:Bool) (ps:List Pt),(∀a∈tos,∃i:Nat,a=(i:Int)∧i<ps.length)→WF L ps →
  (∃ag' ps',meets stk S tos ag ps=some (ag',ps')∧MS L stk S tos ag ps ag' ps')∨meets stk S tos ag ps=none∧∃j:Nat,(j:Int)∈tos∧(ps.getD j default).Known=true∧(ps.getD j default).Stack≠stk
 | [],ag,ps,_,h=>.inl ⟨ag,ps,rfl,ms_nil h⟩
 | a::r,ag,ps,hr,h=>by
  obtain ⟨i,rfl,hi⟩:=hr _ (List.mem_cons_self ..)
  have hr':∀a∈r,∃j:Nat,a=(j:Int)∧j<ps.length:=fun a h=>hr a (List.mem_cons_of_mem _ h)
  rw [meets,if_neg (by omega),Int.toNat_natCast]
  have G:∀(v:Pt) j,(ps.set i v).getD j default=if j=i then v else ps.getD j default:=fun v j=>getD_setP hi
  cases hK:(ps.getD i default).Known with
  | false =>
   have hm:meetP (ps.getD i default) stk S=(⟨true,stk,S⟩,true,true):=by unfold meetP;rw [if_pos hK]
   rw [hm,if_neg (fun q=>(by cases q))]
   have hwf:WF L (ps.set i ⟨true,stk,S⟩):=wf_set hi h (fun _=>⟨hS,hst⟩)
   have h1:MS L stk S [(i:Int)] ag ps (ag||true) (ps.set i ⟨true,stk,S⟩):=by
    refine ⟨by simp,hwf,fun j hj=>?_,fun j a b=>?_,fun j q k b=>?_,?_,fun q=>?_⟩
    ·have:j≠i:=fun e=>by rw [e,hK] at hj;cases hj
     rw [G,if_neg this]
     exact ⟨hj,rfl,fun _ w=>w⟩
    ·by_cases e:j=i
     ·rw [G,if_pos e];exact ⟨by rw [e];simp,rfl⟩
     ·rw [G,if_neg e,a] at b;cases b
    ·by_cases e:j=i
     ·rw [G,if_pos e] at b;exact .inr ⟨by rw [e];simp,b⟩
     ·rw [G,if_neg e] at k b;exact .inl ⟨k,b⟩
    ·have:=rpots_set L ps i ⟨true,stk,S⟩ hi
     have e1:rpot L (ps.getD i default)=L+1:=by unfold rpot;rw [hK];rfl
     have e2:rpot L ⟨true,stk,S⟩=cntT S:=rfl
     have e3:=cnt_le S
     exact ⟨by omega,fun _=>.inr (by omega)⟩
    ·rw [Bool.or_true] at q;cases q
   rcases meets_ms hst hS r (ag||true) (ps.set i ⟨true,stk,S⟩) (by simpa using hr') hwf with ⟨ag',ps',h2,h3⟩|⟨hn,j,j1,j2,j3⟩
   ·exact .inl ⟨ag',ps',h2,ms_cons h1 h3⟩
   ·rw [G] at j2 j3
    by_cases e:j=i
    ·rw [if_pos e] at j3;exact absurd rfl j3
    ·rw [if_neg e] at j2 j3;exact .inr ⟨hn,j,List.mem_cons_of_mem _ j1,j2,j3⟩
  | true =>
   by_cases hs:(ps.getD i default).Stack=stk
   ·have hm:meetP (ps.getD i default) stk S=(⟨true,(ps.getD i default).Stack,zand (ps.getD i default).Set S⟩,fl (ps.getD i default).Set S,true):=by unfold meetP;rw [if_neg (by rw [hK];decide),if_neg (fun q=>q hs)]
    rw [hm,if_neg (fun q=>(by cases q))]
    have hl:(ps.getD i default).Set.length=S.length:=(h i hK).1.trans hS.symm
    have hwf:WF L (ps.set i ⟨true,(ps.getD i default).Stack,zand (ps.getD i default).Set S⟩):=wf_set hi h (fun _=>⟨by show (zand _ _).length=L;rw [zand_len _ _ hl];exact (h i hK).1,(h i hK).2⟩)
    have hz:=zand_get _ _ hl
    have hcz:=zand_cnt _ _ hl
    have h1:MS L stk S [(i:Int)] ag ps (ag||fl (ps.getD i default).Set S) (ps.set i ⟨true,(ps.getD i default).Stack,zand (ps.getD i default).Set S⟩):=by
     refine ⟨by simp,hwf,fun j hj=>?_,fun j a b=>?_,fun j q k b=>?_,?_,fun q=>?_⟩
     ·by_cases e:j=i
      ·rw [G,if_pos e,e]
       refine ⟨rfl,rfl,fun q w=>?_⟩
       have w:(zand (ps.getD i default).Set S).getD q false=true:=w
       rw [hz,Bool.and_eq_true] at w
       exact w.1
      ·rw [G,if_neg e];exact ⟨hj,rfl,fun _ w=>w⟩
     ·by_cases e:j=i
      ·rw [e,hK] at a;cases a
      ·rw [G,if_neg e,a] at b;cases b
     ·by_cases e:j=i
      ·rw [G,if_pos e] at b
       have b:(zand (ps.getD i default).Set S).getD q false=false:=b
       rw [hz] at b
       cases hb:(ps.getD i default).Set.getD q false
       ·exact .inl ⟨by rw [e];exact hK,by rw [e];exact hb⟩
       ·rw [hb,Bool.true_and] at b
        exact .inr ⟨by rw [e];simp,b⟩
      ·rw [G,if_neg e] at k b;exact .inl ⟨k,b⟩
     ·have:=rpots_set L ps i ⟨true,(ps.getD i default).Stack,zand (ps.getD i default).Set S⟩ hi
      have e1:rpot L (ps.getD i default)=cntT (ps.getD i default).Set:=by unfold rpot;rw [hK];rfl
      have e2:rpot L ⟨true,(ps.getD i default).Stack,zand (ps.getD i default).Set S⟩=cntT (zand (ps.getD i default).Set S):=rfl
      have e3:=hcz.1
      refine ⟨by omega,fun q=>?_⟩
      rw [Bool.or_eq_true] at q
      rcases q with q|q
      ·exact .inl q
      ·have:=hcz.2 q
       exact .inr (by omega)
     ·rw [Bool.or_eq_false_iff] at q
      have hzz:=fl_no _ _ hl q.2
      refine ⟨q.1,set_self hi ?_,fun j hj=>?_⟩
      ·rw [hzz]
       generalize ps.getD i default=p at hK
       obtain ⟨pk,pst,pset⟩:=p
       have hK:pk=true:=hK
       subst hK
       rfl
      ·have e:j=i:=by have:=List.mem_singleton.1 hj;omega
       rw [e]
       refine ⟨hK,hs,fun q w=>?_⟩
       have:=hz q
       rw [hzz,w,Bool.true_and] at this
       exact this.symm
    rcases meets_ms hst hS r (ag||fl (ps.getD i default).Set S) (ps.set i ⟨true,(ps.getD i default).Stack,zand (ps.getD i default).Set S⟩) (by simpa using hr') hwf with ⟨ag',ps',h2,h3⟩|⟨hn,j,j1,j2,j3⟩
    ·exact .inl ⟨ag',ps',h2,ms_cons h1 h3⟩
    ·rw [G] at j2 j3
     by_cases e:j=i
     ·rw [if_pos e] at j3;exact absurd hs j3
     ·rw [if_neg e] at j2 j3;exact .inr ⟨hn,j,List.mem_cons_of_mem _ j1,j2,j3⟩
   ·refine .inr ⟨?_,i,List.mem_cons_self ..,hK,hs⟩
    have hm:meetP (ps.getD i default) stk S=(ps.getD i default,false,false):=by unfold meetP;rw [if_neg (by rw [hK];decide),if_pos hs]
    rw [hm,if_pos rfl]
theorem rsuc_eq (k:Nat) (m:CodeMethod) (i:Nat) (hi:i<m.Code.length) (hl:m.Code.length≤120):∃l,zcf k m (i:Int)=some l∧l.length≤2∧((sucP m i).2=true→l=(sucP m i).1)∧((sucP m i).2=false→∃r,l=-1::r):=by
 unfold zcf sucP
 have hW:W (((i:Nat):Int)+1)=((i+1:Nat):Int):=(W_id (by omega) (by omega)).trans (by omega)
 rw [hW,ifp_pos (by omega),ifp_pos (by omega),ifp_pos (by omega),Int.toNat_natCast,ifp_pos (by omega)]
 generalize (m.Code.getD i default).A=a
 generalize (m.Code.getD i default).Op=o
 simp only
 by_cases h28:o=28
 ·subst h28
  by_cases hlast:i+1≥m.Code.length
  ·rw [decide_eq_true (by omega)]
   exact ⟨[a],rfl,by simp,fun _=>rfl,fun q=>by cases q⟩
  ·rw [decide_eq_false (by omega)]
   exact ⟨[a],rfl,by simp,fun _=>rfl,fun q=>by cases q⟩
 have e28:(o==28)=false:=beq_eq_false_iff_ne.2 h28
 by_cases h32:o=32∨o=33
 ·by_cases hlast:i+1≥m.Code.length
  ·rw [decide_eq_true (by omega)]
   rcases h32 with rfl|rfl
   ·exact ⟨[],rfl,by simp,fun _=>rfl,fun q=>by cases q⟩
   ·exact ⟨[],rfl,by simp,fun _=>rfl,fun q=>by cases q⟩
  ·rw [decide_eq_false (by omega)]
   rcases h32 with rfl|rfl
   ·exact ⟨[],rfl,by simp,fun _=>rfl,fun q=>by cases q⟩
   ·exact ⟨[],rfl,by simp,fun _=>rfl,fun q=>by cases q⟩
 have e32:(o==32)=false:=beq_eq_false_iff_ne.2 (fun q=>h32 (.inl q))
 have e33:(o==33)=false:=beq_eq_false_iff_ne.2 (fun q=>h32 (.inr q))
 rw [e28,e32,e33,if_neg h32,if_neg h28]
 by_cases hlast:i+1=m.Code.length
 ·rw [decide_eq_true (by omega),if_pos hlast]
  by_cases h29:o=29
  ·subst h29
   exact ⟨[-1,a],rfl,by simp,(fun q=>by cases q),fun _=>⟨[a],rfl⟩⟩
  ·have e29:(o==29)=false:=beq_eq_false_iff_ne.2 h29
   rw [e29]
   exact ⟨[-1],rfl,by simp,(fun q=>by cases q),fun _=>⟨[],rfl⟩⟩
 ·rw [decide_eq_false (by omega),if_neg hlast]
  by_cases h29:o=29
  ·subst h29
   rw [ifp_pos (by omega)]
   exact ⟨[((i+1:Nat):Int),a],rfl,by simp,fun _=>rfl,fun q=>by cases q⟩
  ·have e29:(o==29)=false:=beq_eq_false_iff_ne.2 h29
   rw [e29,if_neg h29]
   exact ⟨[((i+1:Nat):Int)],rfl,by simp,fun _=>rfl,fun q=>by cases q⟩
end Md
end Go.Proofs.YtclffekkjfhpdaaGreat
namespace Go.Proofs.YtclffekkjfhpdaaGreat
set_option linter.unusedVariables false
set_option linter.unusedSimpArgs false
namespace Md
section
variable {c:Code} {t:CodeType} {m:CodeMethod}
def aft (m:CodeMethod) (i:Nat) (S:List Bool):List Bool:=if (m.Code.getD i default).Op=3 then S.set (m.Code.getD i default).A.toNat true else S
theorem aft_len (m:CodeMethod) (i:Nat) (S:List Bool):(aft m i S).length=S.length:=by
 unfold aft
 split
 ·simp
 ·rfl
theorem aft_get (hC:Ctx c t m) {i:Nat} (hi:i<m.Code.length) (S:List Bool) (hS:S.length=m.Locals.length) (q:Nat):(aft m i S).getD q false=genB m i (fun q=>S.getD q false) q:=by
 unfold aft genB
 by_cases e:(m.Code.getD i default).Op=3
 ·have hlt:(m.Code.getD i default).A.toNat<S.length:=by have:=(okI_rng (hC.ins i hi)).1 (.inr e);omega
  rw [if_pos e]
  generalize (m.Code.getD i default).A.toNat=a at hlt ⊢
  by_cases h:q=a
  ·rw [if_pos ⟨e,h⟩,h]
   simp [List.getD,hlt]
  ·rw [if_neg (fun w=>h w.2)]
   simp [List.getD,List.getElem?_set,Ne.symm h]
 ·rw [if_neg e,if_neg (fun w=>e w.1)]
structure RJ (c:Code) (t:CodeType) (m:CodeMethod) (ps:List Pt):Prop where
 path:∀i,(ps.getD i default).Known=true→∃b,Pth c t m i (ps.getD i default).Stack b
 miss:∀i,(ps.getD i default).Known=true→∀q,q<m.Locals.length→(ps.getD i default).Set.getD q false=false→∃s b,Pth c t m i s b∧b q=false
def RZ (m:CodeMethod) (ps:List Pt):Prop:=(ps.getD 0 default).Known=true∧(ps.getD 0 default).Stack=[]∧∀q,(ps.getD 0 default).Set.getD q false=true→q<m.Params.length
def RDone (c:Code) (t:CodeType) (m:CodeMethod) (ps:List Pt) (i:Nat):Prop:=(AP c t m i (ps.getD i default).Stack).2=true∧(sucP m i).2=true∧∀j:Nat,(j:Int)∈(sucP m i).1→(ps.getD j default).Known=true∧(ps.getD j default).Stack=(AP c t m i (ps.getD i default).Stack).1∧∀q,(ps.getD j default).Set.getD q false=true→(aft m i (ps.getD i default).Set).getD q false=true
theorem rj_step (hC:Ctx c t m) (hB:¬BadP c t m) {ps ps':List Pt} (hJ:RJ c t m ps) {i:Nat} (hi:i<m.Code.length) (hK:(ps.getD i default).Known=true) (hS:(ps.getD i default).Set.length=m.Locals.length) (h1:(AP c t m i (ps.getD i default).Stack).2=true) (h2:(sucP m i).2=true) {ag ag':Bool}
  (hs:MS m.Locals.length (AP c t m i (ps.getD i default).Stack).1 (aft m i (ps.getD i default).Set) (sucP m i).1 ag ps ag' ps'):RJ c t m ps':=by
 obtain ⟨b,hb⟩:=hJ.path i hK
 refine ⟨fun j hj=>?_,fun j hj q hq hbq=>?_⟩
 ·cases hq:(ps.getD j default).Known with
  | true =>
   obtain ⟨b',hb'⟩:=hJ.path j hq
   exact ⟨b',by rw [(hs.mono j hq).2.1];exact hb'⟩
  | false =>
   obtain ⟨a1,a2⟩:=hs.new j hq hj
   exact ⟨_,by rw [a2];exact .step hb h1 h2 a1⟩
 ·rcases hs.bits j q hj hbq with ⟨a1,a2⟩|⟨a1,a2⟩
  ·exact hJ.miss j a1 q hq a2
  ·rw [aft_get hC hi _ hS] at a2
   unfold genB at a2
   split at a2
   ·cases a2
   ·rename_i hn
    obtain ⟨s,b',p1,p2⟩:=hJ.miss i hK q hq a2
    have hss:s=(ps.getD i default).Stack:=Classical.byContradiction fun e=>hB (.inr ⟨i,_,_,_,_,p1,hb,e⟩)
    subst hss
    refine ⟨_,_,.step p1 h1 h2 a1,?_⟩
    unfold genB
    rw [if_neg hn]
    exact p2
theorem rz_step {L:Nat} {stk:List Int} {S:List Bool} {tos:List Int} {ag ag':Bool} {ps ps':List Pt} (h:RZ m ps) (hs:MS L stk S tos ag ps ag' ps'):RZ m ps':=by
 obtain ⟨a1,a2,a3⟩:=h
 obtain ⟨b1,b2,b3⟩:=hs.mono 0 a1
 exact ⟨b1,b2.trans a2,fun q hq=>a3 q (b3 q hq)⟩
theorem pass_ok (hC:Ctx c t m):∀(n:Nat) (ag:Bool) (i:Nat) (ps:List Pt),i≤m.Code.length→m.Code.length - i<n→ps.length=m.Code.length→WF m.Locals.length ps→RZ m ps→(¬BadP c t m→RJ c t m ps) →
  (zbf K c t m n ag i ps=some (.inr ([],false))∧BadP c t m) ∨
  ∃ag' ps',zbf K c t m n ag i ps=some (.inl (ag',ps'))∧ps'.length=m.Code.length∧WF m.Locals.length ps'∧RZ m ps'∧(¬BadP c t m→RJ c t m ps')∧rpots m.Locals.length ps'≤rpots m.Locals.length ps∧(ag'=true→ag=true∨rpots m.Locals.length ps'<rpots m.Locals.length ps) ∧
   (ag'=false→ag=false∧ps'=ps∧∀a,i≤a→a<m.Code.length→(ps.getD a default).Known=true→RDone c t m ps a):=by
 intro n
 induction n with
 | zero=>intro ag i ps _ h;omega
 | succ n ih =>
  intro ag i ps h1 h2 h3 hw hz hJ
  have hcl:=hC.len
  have hll:=hC.loc
  rw [zbf]
  by_cases hi:i<m.Code.length
  ·have hip:i<ps.length:=by omega
   rw [lt_t hi,cond_true,ifp_pos hip]
   cases hK:(ps.getD i default).Known with
   | false =>
    rw [Bool.not_false,cond_true,bind_e rfl]
    show (ifp _ _=_∧_)∨∃ag' ps',ifp _ _=_∧_
    rw [ifp_pos (by omega)]
    rcases ih ag (i+1) ps (by omega) (by omega) h3 hw hz hJ with h|⟨ag',ps',a1,a2,a3,a4,a5,a6,a7,a8⟩
    ·exact .inl h
    ·refine .inr ⟨ag',ps',a1,a2,a3,a4,a5,a6,a7,fun q=>?_⟩
     obtain ⟨b1,b2,b3⟩:=a8 q
     refine ⟨b1,b2,fun a ha hal hKa=>?_⟩
     rcases Nat.eq_or_lt_of_le ha with e|e
     ·rw [←e,hK] at hKa;cases hKa
     ·exact b3 a e hal hKa
   | true =>
    obtain ⟨w1,w2⟩:=hw i hK
    have hx:=hC.ins i hi
    have hbadA:(AP c t m i (ps.getD i default).Stack).2=false→BadP c t m:=fun q=>Classical.byContradiction fun hB=>by
     obtain ⟨b,hb⟩:=(hJ hB).path i hK
     exact hB (.inl ⟨i,_,b,hb,.inl q⟩)
    have hbadS:(sucP m i).2=false→BadP c t m:=fun q=>Classical.byContradiction fun hB=>by
     obtain ⟨b,hb⟩:=(hJ hB).path i hK
     exact hB (.inl ⟨i,_,b,hb,.inr q⟩)
    obtain ⟨e,he,en,e1,e2,e3,e4⟩:=effect_eq K c t m (m.Code.getD i default) (ps.getD i default).Stack (by decide) w2 hx hC.pars
    rw [Bool.not_true,cond_false,ifp_pos hi,ifp_pos hip,he,bind_e rfl]
    cases hok:e.OK with
    | false=>exact .inl ⟨rfl,hbadA (e4 hok)⟩
    | true =>
     obtain ⟨f1,f2⟩:=e3 hok
     have f2':AP c t m i (ps.getD i default).Stack=_:=f2
     have hW:W ((((ps.getD i default).Stack.length:Nat):Int) - e.Takes)=(((ps.getD i default).Stack.length - en:Nat):Int):=by rw [e1];exact (W_id (by omega) (by omega)).trans (by omega)
     rw [Bool.not_true,cond_false,ifp_pos hip,ifp_pos hip,hW,ifp_pos (by omega),Int.toNat_natCast,ifp_pos (by omega)]
     have hstk:(bif (decide ((ps.getD i default).Stack.take ((ps.getD i default).Stack.length - en)=[])) then (Md.ifp (e.Puts.length≤4000000)<|some e.Puts) else (Md.ifp (((ps.getD i default).Stack.take ((ps.getD i default).Stack.length - en)).length≤4000000)<|Md.ifp (((ps.getD i default).Stack.take ((ps.getD i default).Stack.length - en)).length+e.Puts.length≤4000000)<|some ((ps.getD i default).Stack.take ((ps.getD i default).Stack.length - en)++e.Puts)))=some (AP c t m i (ps.getD i default).Stack).1:=by
      have hlt:((ps.getD i default).Stack.take ((ps.getD i default).Stack.length - en)).length≤40:=by rw [List.length_take];omega
      rw [f2']
      by_cases q:(ps.getD i default).Stack.take ((ps.getD i default).Stack.length - en)=[]
      ·rw [decide_eq_true q,cond_true,ifp_pos (by omega),q];rfl
      ·rw [decide_eq_false q,cond_false,ifp_pos (by omega),ifp_pos (by omega)]
     rw [hstk,bind_e rfl]
     have hlen2:(AP c t m i (ps.getD i default).Stack).1.length=(ps.getD i default).Stack.length - en+e.Puts.length:=by rw [f2',List.length_append,List.length_take];omega
     by_cases h40:(ps.getD i default).Stack.length - en+e.Puts.length≤40
     ·have hA:(AP c t m i (ps.getD i default).Stack).2=true:=by rw [f2'];exact decide_eq_true h40
      rw [decide_eq_false (by omega),cond_false,ifp_pos hip,ifp_pos (by show 0+_≤_;omega)]
      obtain ⟨l,hl,hl2,hl3,hl4⟩:=rsuc_eq K m i hi hcl
      have hln:(([]:List Bool)++(ps.getD i default).Set)=(ps.getD i default).Set:=List.nil_append _
      have hneg:(sucP m i).2=false→∀S ag,meets (AP c t m i (ps.getD i default).Stack).1 S l ag ps=none:=fun q S ag=>by
       obtain ⟨r,e⟩:=hl4 q
       rw [e,meets,if_pos (by decide)]
      obtain ⟨_,srng⟩:=suc_rng c t m i hi hx
      have hlr:(sucP m i).2=true→∀a∈l,∃j:Nat,a=(j:Int)∧j<ps.length:=fun q a ha=>by
       rw [hl3 q] at ha
       obtain ⟨j,e,hj⟩:=srng a ha
       exact ⟨j,e,by omega⟩

      have body:∀(X:Option (Sum (Bool×List Pt) (List Pt×Bool))),X=some (match meets (AP c t m i (ps.getD i default).Stack).1 (aft m i (ps.getD i default).Set) l ag ps with|none=>.inr ([],false)|some r=>.inl r) →
        ((X.bind fun o36=>Md.onS o36 (fun x36_0=>some (Sum.inl (x36_0.1,x36_0.2))) (fun r36=>some (Sum.inr r36)):Option (Sum (Bool×(List Pt)) ((List Pt)×Bool))).bind (fun o21=>Md.onS o21 (fun x21_0=>Md.ifp (i+1≤9223372036854775807)<|zbf K c t m n x21_0.1 (i+1) x21_0.2) (fun r21=>some (Sum.inr r21)))=some (.inr ([],false))∧BadP c t m) ∨
        ∃ag' ps',(X.bind fun o36=>Md.onS o36 (fun x36_0=>some (Sum.inl (x36_0.1,x36_0.2))) (fun r36=>some (Sum.inr r36)):Option (Sum (Bool×(List Pt)) ((List Pt)×Bool))).bind (fun o21=>Md.onS o21 (fun x21_0=>Md.ifp (i+1≤9223372036854775807)<|zbf K c t m n x21_0.1 (i+1) x21_0.2) (fun r21=>some (Sum.inr r21)))=some (.inl (ag',ps'))∧ps'.length=m.Code.length∧WF m.Locals.length ps'∧RZ m ps'∧(¬BadP c t m→RJ c t m ps')∧rpots m.Locals.length ps'≤rpots m.Locals.length ps∧(ag'=true→ag=true∨rpots m.Locals.length ps'<rpots m.Locals.length ps) ∧
         (ag'=false→ag=false∧ps'=ps∧∀a,i≤a→a<m.Code.length→(ps.getD a default).Known=true→RDone c t m ps a):=by
       intro X hX
       rw [hX,bind_e rfl]
       cases hsu:(sucP m i).2 with
       | false =>
        rw [hneg hsu]
        exact .inl ⟨rfl,hbadS hsu⟩
       | true =>
        rcases meets_ms (L:=m.Locals.length) (stk:=(AP c t m i (ps.getD i default).Stack).1) (by omega) (S:=aft m i (ps.getD i default).Set) (by rw [aft_len];exact w1) l ag ps (hlr hsu) hw with ⟨ag1,ps1,q1,q2⟩|⟨hn,j,j1,j2,j3⟩
        ·rw [q1]
         show (Option.bind (some (Sum.inl (ag1,ps1))) _=_∧_)∨∃ag' ps',Option.bind (some (Sum.inl (ag1,ps1))) _=_∧_
         rw [bind_e rfl]
         show (ifp _ _=_∧_)∨∃ag' ps',ifp _ _=_∧_
         rw [ifp_pos (by omega)]
         rw [hl3 hsu] at q2
         rcases ih ag1 (i+1) ps1 (by omega) (by omega) (q2.len.trans h3) q2.wf (rz_step hz q2) (fun hB=>rj_step hC hB (hJ hB) hi hK w1 hA hsu q2) with h|⟨ag',ps',a1,a2,a3,a4,a5,a6,a7,a8⟩
         ·exact .inl h
         ·refine .inr ⟨ag',ps',a1,a2,a3,a4,a5,Nat.le_trans a6 q2.pot.1,fun q=>?_,fun q=>?_⟩
          ·have:=q2.pot.1
           rcases a7 q with w|w
           ·rcases q2.pot.2 w with v|v
            ·exact .inl v
            ·exact .inr (by omega)
           ·exact .inr (by omega)
          ·obtain ⟨b1,b2,b3⟩:=a8 q
           obtain ⟨c1,c2,c3⟩:=q2.quiet b1
           subst c2
           refine ⟨c1,b2,fun a ha hal hKa=>?_⟩
           rcases Nat.eq_or_lt_of_le ha with e|e
           ·subst e
            exact ⟨hA,hsu,c3⟩
           ·exact b3 a e hal hKa
        ·refine .inl ⟨?_,Classical.byContradiction fun hB=>?_⟩
         ·rw [hn];rfl
         ·obtain ⟨b',hb'⟩:=(hJ hB).path j j2
          obtain ⟨b,hb⟩:=(hJ hB).path i hK
          rw [hl3 hsu] at j1
          exact hB (.inr ⟨j,_,_,_,_,hb',.step hb hA hsu j1,j3⟩)
      obtain ⟨P0,hP0⟩:∃P0,P0=ps:=⟨_,rfl⟩
      have gen:∀(F:Nat→Bool→Nat→List Pt→Option (Sum (Bool×List Pt) (List Pt×Bool))) (hF:∀n ag j ps,F (n+1) ag j ps=bif (decide (((j:Nat):Int)<((l.length:Nat):Int))) then (Md.ifp (j<l.length)<|bif (decide ((l.getD j default)<0)) then (some (Sum.inr (([]:List Pt),false))) else (Md.ifp (j<l.length)<|Md.ifp (0≤(l.getD j default)∧(l.getD j default)<((ps.length:Nat):Int))<|(zct K (ps.getD (((l.getD j default)).toNat) default) (AP c t m i (P0.getD i default).Stack).1 (aft m i (P0.getD i default).Set)).bind fun x42=>bif (!x42.2.2) then (some (Sum.inr (([]:List Pt),false))) else (Md.ifp (j<l.length)<|Md.ifp (0≤(l.getD j default)∧(l.getD j default)<((ps.length:Nat):Int))<|Md.ifp (j+1≤9223372036854775807)<|F n (ag||x42.2.1) (j+1) (ps.set (((l.getD j default)).toNat) x42.1)))) else (some (Sum.inl (ag,ps)))),
        F K ag 0 ps=some (match meets (AP c t m i (ps.getD i default).Stack).1 (aft m i (ps.getD i default).Set) l ag ps with|none=>.inr ([],false)|some r=>.inl r):=by
       intro F hF
       rw [hP0] at hF
       cases hsu:(sucP m i).2 with
       | false =>
        rw [hneg hsu]
        obtain ⟨r,e⟩:=hl4 hsu
        subst e
        show F (4999999+1) ag 0 ps=_
        rw [hF,lt_t (by simp),cond_true,ifp_pos (by simp)]
        rfl
       | true =>
        have:=ziT K (by decide) m.Locals.length (by omega) m.Code.length (AP c t m i (ps.getD i default).Stack).1 (by omega) (aft m i (ps.getD i default).Set) (by rw [aft_len];exact w1) l hl2 (fun a ha=>by obtain ⟨j,e,hj⟩:=hlr hsu a ha;exact .inr ⟨j,e,by omega⟩) F hF K ag 0 ps (Nat.zero_le _) (by unfold K;omega) h3 hw
        rw [List.drop_zero] at this
        exact this
      by_cases e3':(m.Code.getD i default).Op=3
      ·have hr3:=(okI_rng hx).1 (.inr e3')
       have hS5:(([]:List Bool)++(ps.getD i default).Set).set (m.Code.getD i default).A.toNat true=aft m i (ps.getD i default).Set:=by unfold aft;rw [if_pos e3',List.nil_append]
       rw [beq_iff_eq.2 e3',cond_true,ifp_pos (by rw [List.nil_append];omega),hl,bind_e rfl]
       exact body _ (gen (fun n ag j ps'=>zbC K m i ps (AP c t m i (ps.getD i default).Stack).1 l n ag j ps') (fun n ag j ps'=>by
        show zbC K m i ps (AP c t m i (ps.getD i default).Stack).1 l (n+1) ag j ps'=_
        rw [zbC,hS5,hP0]))
      ·have hS6:(([]:List Bool)++(ps.getD i default).Set)=aft m i (ps.getD i default).Set:=by unfold aft;rw [if_neg e3',List.nil_append]
       rw [beq_eq_false_iff_ne.2 e3',cond_false,hl,bind_e rfl]
       exact body _ (gen (fun n ag j ps'=>zbD K i ps (AP c t m i (ps.getD i default).Stack).1 l n ag j ps') (fun n ag j ps'=>by
        show zbD K i ps (AP c t m i (ps.getD i default).Stack).1 l (n+1) ag j ps'=_
        rw [zbD,hS6,hP0]))
     ·refine .inl ⟨?_,hbadA (by rw [f2'];exact decide_eq_false h40)⟩
      rw [decide_eq_true (by omega)]
      rfl
  ·rw [lt_f hi]
   exact .inr ⟨ag,ps,rfl,h3,hw,hz,hJ,Nat.le_refl _,fun q=>.inl q,fun q=>⟨q,rfl,fun a ha hal=>by omega⟩⟩
end
end Md
end Go.Proofs.YtclffekkjfhpdaaGreat
namespace Go.Proofs.YtclffekkjfhpdaaGreat
set_option linter.unusedVariables false
set_option linter.unusedSimpArgs false
namespace Md
section
variable {c:Code} {t:CodeType} {m:CodeMethod}
theorem passes_ok (hC:Ctx c t m):∀(n:Nat) (ps:List Pt),rpots m.Locals.length ps+1<n→ps.length=m.Code.length→WF m.Locals.length ps→RZ m ps→(¬BadP c t m→RJ c t m ps) →
  (zaZ K c t m n true ps=some (.inr ([],false))∧BadP c t m) ∨
  ∃ps',zaZ K c t m n true ps=some (.inl ps')∧ps'.length=m.Code.length∧WF m.Locals.length ps'∧RZ m ps'∧(¬BadP c t m→RJ c t m ps')∧∀a,a<m.Code.length→(ps'.getD a default).Known=true→RDone c t m ps' a:=by
 intro n
 induction n with
 | zero=>intro ps h;omega
 | succ n ih =>
  intro ps h1 h3 hw hz hJ
  have hcl:=hC.len
  rw [zaZ,cond_true]
  rcases pass_ok hC K false 0 ps (Nat.zero_le _) (by unfold K;omega) h3 hw hz hJ with ⟨h,hb⟩|⟨ag',ps',a1,a2,a3,a4,a5,a6,a7,a8⟩
  ·rw [h]
   exact .inl ⟨rfl,hb⟩
  ·rw [a1,bind_e rfl]
   show (zaZ K c t m n ag' ps'=_∧_)∨∃q,zaZ K c t m n ag' ps'=some (.inl q)∧_
   cases ag' with
   | true =>
    rcases a7 rfl with q|q
    ·cases q
    ·exact ih ps' (by omega) a2 a3 a4 a5
   | false =>
    obtain ⟨_,b2,b3⟩:=a8 rfl
    subst b2
    obtain ⟨n,rfl⟩:∃q,n=q+1:=⟨n - 1,by omega⟩
    refine .inr ⟨ps',?_,a2,a3,a4,a5,fun a ha hK=>b3 a (Nat.zero_le _) ha hK⟩
    rw [zaZ]
    rfl
theorem zfK (hC:Ctx c t m) {ps:List Pt} (hw:WF m.Locals.length ps) (hz:RZ m ps) (hd:∀a,a<m.Code.length→(ps.getD a default).Known=true→RDone c t m ps a) {i:Nat} {s:List Int} {b:Nat→Bool} (hp:Pth c t m i s b) :
  (ps.getD i default).Known=true∧(ps.getD i default).Stack=s∧∀q,(ps.getD i default).Set.getD q false=true→b q=true:=by
 induction hp with
 | zero=>exact ⟨hz.1,hz.2.1,fun q hq=>decide_eq_true (hz.2.2 q hq)⟩
 | @step i j s b hp h1 h2 h3 ih =>
  obtain ⟨a1,a2,a3⟩:=ih
  have hi:=hp.lt hC
  obtain ⟨d1,d2,d3⟩:=hd i hi a1
  obtain ⟨b1,b2,b3⟩:=d3 j h3
  rw [a2] at b2
  refine ⟨b1,b2,fun q hq=>?_⟩
  have:=b3 q hq
  rw [aft_get hC hi _ (hw i a1).1] at this
  unfold genB at this ⊢
  split at this
  ·rename_i w;rw [if_pos w]
  ·rename_i w;rw [if_neg w];exact a3 q this
theorem ziZ (hC:Ctx c t m) {ps:List Pt} (hw:WF m.Locals.length ps) (hz:RZ m ps) (hd:∀a,a<m.Code.length→(ps.getD a default).Known=true→RDone c t m ps a):¬BadP c t m:=by
 rintro (⟨i,s,b,hp,hb⟩|⟨i,s,s',b,b',hp,hp',hne⟩)
 ·obtain ⟨a1,a2,_⟩:=zfK hC hw hz hd hp
  obtain ⟨d1,d2,_⟩:=hd i (hp.lt hC) a1
  rw [a2] at d1
  rcases hb with hb|hb
  ·rw [d1] at hb;cases hb
  ·rw [d2] at hb;cases hb
 ·exact hne ((zfK hC hw hz hd hp).2.1.symm.trans (zfK hC hw hz hd hp').2.1)
theorem set_loop (m:CodeMethod):∀(n i:Nat) (l:List Bool),i≤m.Params.length→m.Params.length - i<n→m.Params.length≤l.length→m.Params.length≤1000→∃l',zbN K m n i l=some l'∧l'.length=l.length∧∀q,l'.getD q false=(l.getD q false||(decide (i≤q)&&decide (q<m.Params.length))):=by
 intro n
 induction n with
 | zero=>intro i l _ h;omega
 | succ n ih =>
  intro i l h1 h2 h3 h4
  rw [zbN]
  by_cases h:i<m.Params.length
  ·have hi:i<l.length:=by omega
   rw [lt_t h,cond_true,ifp_pos hi,ifp_pos (by omega)]
   obtain ⟨l',e1,e2,e3⟩:=ih (i+1) (l.set i true) (by omega) (by omega) (by simp;omega) h4
   refine ⟨l',e1,by simpa using e2,fun q=>?_⟩
   rw [e3]
   by_cases hq:q=i
   ·subst hq
    have:(l.set q true).getD q false=true:=by simp [List.getD,hi]
    rw [this,decide_eq_true (Nat.le_refl _),decide_eq_true h]
    simp
   ·have:(l.set i true).getD q false=l.getD q false:=by simp [List.getD,List.getElem?_set,Ne.symm hq]
    rw [this]
    have:decide (i+1≤q)=decide (i≤q):=by rw [decide_eq_decide];omega
    rw [this]
  ·rw [lt_f h,cond_false]
   refine ⟨l,rfl,rfl,fun q=>?_⟩
   have:(decide (i≤q)&&decide (q<m.Params.length))=false:=by
    rw [←Bool.not_eq_true,Bool.and_eq_true,decide_eq_true_eq,decide_eq_true_eq]
    omega
   rw [this,Bool.or_false]
theorem rpots_le (L:Nat):∀(l:List Pt),(∀p∈l,p.Known=true→p.Set.length=L)→rpots L l≤(L+1)*l.length
 | [],_=>by simp [rpots]
 | a::r,h=>by
  have h1:=rpots_le L r (fun s hs=>h s (List.mem_cons_of_mem _ hs))
  have h2:rpot L a≤L+1:=by
   unfold rpot
   split
   ·have:=h a (List.mem_cons_self ..) (by assumption)
    have:=cnt_le a.Set
    omega
   ·omega
  unfold rpots at *
  rw [List.map_cons,List.sum_cons,List.length_cons,Nat.mul_add]
  omega
theorem repP_getD (n i:Nat):(List.replicate n (⟨false,([]:List Int),([]:List Bool)⟩:Actorgridref20Point)).getD i default=⟨false,[],[]⟩:=by
 by_cases h:i<n
 ·simp [List.getD,h]
 ·simp [List.getD,h];rfl
theorem points_ok (hC:Ctx c t m):∃r,zca K c t m=some r∧(r.2=true↔OkayP c t m)∧(r.2=true→r.1.length=m.Code.length∧∀i s b,Pth c t m i s b→(r.1.getD i default).Stack=s)∧r.1.length≤120:=by
 have hp:=hC.pos
 have hl:=hC.len
 have hll:=hC.loc
 have hpl:=hC.pl
 have hpar:=hC.par
 obtain ⟨S0,e1,e2,e3⟩:=set_loop m K 0 (List.replicate m.Locals.length false) (Nat.zero_le _) (by unfold K;omega) (by simp;exact hpl) (by omega)
 rw [List.length_replicate] at e2
 have e3':∀q,S0.getD q false=decide (q<m.Params.length):=fun q=>by
  rw [e3]
  have:(List.replicate m.Locals.length false).getD q false=false:=by
   by_cases h:q<m.Locals.length
   ·simp [List.getD,h]
   ·simp [List.getD,h]
  rw [this,decide_eq_true (Nat.zero_le _)]
  simp
 unfold zca
 rw [ifp_pos (by omega),ifp_pos (by omega),e1,bind_e rfl,ifp_pos (by rw [List.length_replicate];exact hp)]
 obtain ⟨P0,hP0⟩:∃P0,P0=(List.replicate m.Code.length (⟨false,([]:List Int),([]:List Bool)⟩:Actorgridref20Point)).set 0 (⟨true,([]:List Int),S0⟩:Actorgridref20Point):=⟨_,rfl⟩
 rw [←hP0]
 have hg:∀i,P0.getD i default=if i=0 then ⟨true,[],S0⟩ else ⟨false,[],[]⟩:=fun i=>by
  rw [hP0,getD_setP (by simpa using hp),repP_getD]
 have hlen:P0.length=m.Code.length:=by rw [hP0];simp
 have hw:WF m.Locals.length P0:=fun i h=>by
  rw [hg] at h ⊢
  split at h
  ·rename_i q;rw [if_pos q];exact ⟨e2,by simp⟩
  ·cases h
 have hz:RZ m P0:=by
  unfold RZ
  rw [hg,if_pos rfl]
  refine ⟨rfl,rfl,fun q hq=>?_⟩
  have hq:S0.getD q false=true:=hq
  rw [e3'] at hq
  exact of_decide_eq_true hq
 have hJ:RJ c t m P0:=by
  refine ⟨fun i h=>?_,fun i h q hq hb=>?_⟩
  ·rw [hg] at h ⊢
   split at h
   ·rename_i w;rw [if_pos w,w];exact ⟨_,.zero⟩
   ·cases h
  ·rw [hg] at h hb
   split at h
   ·rename_i w
    rw [if_pos w] at hb
    have hb:S0.getD q false=false:=hb
    rw [e3'] at hb
    rw [w]
    exact ⟨_,_,.zero,hb⟩
   ·cases h
 have hpot:=rpots_le m.Locals.length P0 (fun p hp' hk=>by
  obtain ⟨i,hi,e⟩:=List.getElem_of_mem hp'
  have e2:P0.getD i default=p:=by rw [gd hi,e]
  rw [←e2] at hk ⊢
  exact (hw i hk).1)
 have hpb:(m.Locals.length+1)*P0.length≤9*120:=Nat.mul_le_mul (by omega) (by omega)
 rcases passes_ok hC K P0 (by unfold K;omega) hlen hw hz (fun _=>hJ) with ⟨h,hb⟩|⟨ps,h,a2,a3,a4,a5,a6⟩
 ·rw [h]
  exact ⟨([],false),rfl,⟨(fun q=>by cases q),fun q=>absurd hb q.1⟩,fun q=>(by cases q),by simp⟩
 ·rw [h,bind_e rfl]
  have hB:=ziZ hC a3 a4 a6
  have hJ':=a5 hB
  show ∃r,Option.bind (zaL K m ps K 0) _=some r∧_
  have hloop:=loopE ps.length (fun i=>if (!(ps.getD i default).Known||((m.Code.getD i default).Op==2&&!((ps.getD i default).Set).getD (m.Code.getD i default).A.toNat default))=true then some (([]:List Pt),false) else none) (fun n i=>zaL K m ps n i) (fun n i hi=>by
   show zaL K m ps (n+1) i=_
   rw [zaL,lt_t hi,cond_true,ifp_pos hi,ifp_pos (by omega),ifp_pos hi,ifp_pos (by omega)]
   cases hK:(ps.getD i default).Known
   ·rfl
   ·by_cases e:(m.Code.getD i default).Op=2
    ·have hr:=(okI_rng (hC.ins i (by omega))).1 (.inl e)
     rw [beq_iff_eq.2 e,ifp_pos (by rw [(a3 i hK).1];exact hr)]
     cases ((ps.getD i default).Set).getD (m.Code.getD i default).A.toNat default
     ·rfl
     ·exact ifp_pos (by omega)
    ·rw [beq_eq_false_iff_ne.2 e]
     exact ifp_pos (by omega)) (fun n i hi=>by
   show zaL K m ps (n+1) i=_
   rw [zaL,lt_f hi];rfl) K 0 (by unfold K;omega)
  have hdf:∀(l:List Bool) (q:Nat),l.getD q default=l.getD q false:=fun l q=>rfl
  rcases hloop with ⟨h2,h3⟩|⟨j,r,_,hj,h4,_,h5⟩
  ·rw [show zaL K m ps K 0=_ from h2,bind_e rfl]
   refine ⟨(ps,true),rfl,⟨fun _=>⟨hB,fun i hi=>?_,fun i s b hp ho=>?_⟩,fun _=>rfl⟩,fun _=>⟨a2,fun i s b hp=>(zfK hC a3 a4 a6 hp).2.1⟩,by show ps.length≤120;omega⟩
   ·have:=h3 i (Nat.zero_le _) (by omega)
    cases hr:(ps.getD i default).Known
    ·rw [hr] at this;simp at this
    ·obtain ⟨b,hb⟩:=hJ'.path i hr
     exact ⟨_,b,hb⟩
   ·have hi:=hp.lt hC
    have:=h3 i (Nat.zero_le _) (by omega)
    rw [beq_iff_eq.2 ho] at this
    cases hr:((ps.getD i default).Set).getD (m.Code.getD i default).A.toNat default
    ·rw [hr] at this;simp at this
    ·exact (zfK hC a3 a4 a6 hp).2.2 _ hr
  ·rw [show zaL K m ps K 0=_ from h5,bind_e rfl]
   split at h4
   ·rename_i hb
    injection h4 with h4
    subst h4
    refine ⟨([],false),rfl,⟨(fun q=>by cases q),fun q=>?_⟩,fun q=>(by cases q),by simp⟩
    exfalso
    simp only [Bool.or_eq_true,Bool.not_eq_true',Bool.and_eq_true,beq_iff_eq] at hb
    have hjl:j<m.Code.length:=by omega
    obtain ⟨s,b,hp⟩:=q.2.1 j hjl
    have hk:=(zfK hC a3 a4 a6 hp).1
    rcases hb with hb|⟨ho,hb⟩
    ·rw [hk] at hb;cases hb
    ·have hr:=(okI_rng (hC.ins j hjl)).1 (.inl ho)
     obtain ⟨s',b',p1,p2⟩:=hJ'.miss j hk (m.Code.getD j default).A.toNat (by omega) hb
     have:=q.2.2 j s' b' p1 ho
     rw [p2] at this
     cases this
   ·cases h4
def pts (c:Code) (t:CodeType) (m:CodeMethod):List Pt×Bool:=(zca K c t m).getD ([],false)
theorem pts_eq (hC:Ctx c t m):zca K c t m=some (pts c t m)∧(pts c t m).2=(ana c t m).2∧(pts c t m).1.length≤120∧((ana c t m).2=true→((pts c t m).1.map fun p=>((p.Stack.length:Nat):Int))=depths (ana c t m).1):=by
 obtain ⟨r,h1,h2,h3,h4⟩:=points_ok hC
 have hr:pts c t m=r:=by unfold pts;rw [h1];rfl
 obtain ⟨g1,g2⟩:=ana_okay hC
 rw [hr]
 have hiff:r.2=(ana c t m).2:=by rw [Bool.eq_iff_iff,h2,g1]
 refine ⟨h1,hiff,h4,fun hq=>?_⟩
 obtain ⟨l1,l2⟩:=h3 (hiff.trans hq)
 obtain ⟨k1,k2⟩:=g2 hq
 have hO:=g1.1 hq
 unfold depths
 apply List.ext_getElem
 ·rw [List.length_map,List.length_map,l1,k1]
 ·intro i hi hi2
  rw [List.length_map,l1] at hi
  obtain ⟨s,b,hp⟩:=hO.2.1 i hi
  have e1:=l2 i s b hp
  have e2:=k2 i s b hp
  rw [gd (by omega)] at e1 e2
  rw [List.getElem_map,List.getElem_map,e1,e2]
end
theorem zgn (c:Code) (h:smC c):zcN K c=some (verP c):=by
 have hl:=h.1
 unfold zcN verP
 rw [rForm_eq K c (by decide) h,bind_e rfl]
 cases ho:okC c with
 | false=>rfl
 | true =>
  rw [if_pos rfl,Bool.not_true,cond_false]
  have key:zbb K c K 0=some (if anaB c=true then .inl () else .inr 16):=by
   have:=all_loopV c.Types (fun t=>t.Methods.all fun m=>(ana c t m).2) (16:Int) (fun n i=>zbb K c n i) (fun n i hi=>by
    show zbb K c (n+1) i=_
    have ht:=List.getElem_mem hi
    have hml:=(h.2 _ ht).2.2.1
    rw [zbb,lt_t hi,cond_true]
    have inner:=all_loopV c.Types[i].Methods (fun m=>(ana c c.Types[i] m).2) (16:Int) (fun n j=>zba K c i n j) (fun n j hj=>by
     show zba K c i (n+1) j=_
     have hm:=List.getElem_mem hj
     obtain ⟨q1,q2,_⟩:=pts_eq (ctx_of h ho ht hm)
     rw [zba,gd hi,ifp_pos hi,lt_t hj,cond_true,ifp_pos hi,ifp_pos hi,ifp_pos hj,gd hj,q1,bind_e rfl,q2,ifp_pos (by omega)]) (fun n j hj=>by
     show zba K c i (n+1) j=_
     rw [zba,gd hi,ifp_pos hi,lt_f hj];rfl) K 0 (Nat.zero_le _) (by unfold K;omega)
    rw [List.drop_zero] at inner
    rw [show zba K c i K 0=_ from inner,ifp_pos (by omega)]
    cases (c.Types[i].Methods.all fun m=>(ana c c.Types[i] m).2)<;>rfl) (fun n i hi=>by
    show zbb K c (n+1) i=_
    rw [zbb,lt_f hi];rfl) K 0 (Nat.zero_le _) (by unfold K;omega)
   rw [List.drop_zero] at this
   exact this
  rw [key]
  cases anaB c<;>rfl
theorem zir (k:Nat) (x:List Pt×Bool) (hl:x.1.length≤1000):∀n i acc,i≤x.1.length→x.1.length - i<n→acc.length≤i →
  zbQ k x n i acc=some (acc++(x.1.drop i).map fun p=>((p.Stack.length:Nat):Int)):=by
 intro n
 induction n with
 | zero=>intro i _ _ h;omega
 | succ n ih =>
  intro i acc h1 h2 h3
  rw [zbQ]
  by_cases h:i<x.1.length
  ·rw [lt_t h,cond_true,ifp_pos h,ifp_pos (by show acc.length+1≤4000000;omega),ifp_pos (by omega),ih (i+1) _ (by omega) (by omega) (by simp;omega),gd h,List.drop_eq_getElem_cons h,List.append_assoc]
   rfl
  ·rw [lt_f h,cond_false,List.drop_of_length_le (by omega)]
   simp
theorem ziA (c:Code) (h:smC c) (a b:Int):∃l,zde K c a b=some l∧zch K c a b=some l∧l.length≤1000:=by
 by_cases hv:verP c=0
 ·by_cases ha:0≤a∧a<(c.Types.length:Nat)
  ·obtain ⟨i,rfl⟩:∃i:Nat,a=(i:Int):=⟨a.toNat,by omega⟩
   have hi:i<c.Types.length:=by omega
   by_cases hb:0≤b∧b<((c.Types.getD i default).Methods.length:Nat)
   ·obtain ⟨j,rfl⟩:∃j:Nat,b=(j:Int):=⟨b.toNat,by omega⟩
    have hj:j<(c.Types.getD i default).Methods.length:=by omega
    have ht:c.Types.getD i default∈c.Types:=getD_mem hi
    have hm:(c.Types.getD i default).Methods.getD j default∈(c.Types.getD i default).Methods:=getD_mem hj
    have hC:=ctx_of h (verP_zero hv).1 ht hm
    obtain ⟨q1,q2,q3,q4⟩:=pts_eq hC
    have hana:(ana c (c.Types.getD i default) ((c.Types.getD i default).Methods.getD j default)).2=true:=by
     have:=(verP_zero hv).2
     simp only [anaB,List.all_eq_true] at this
     exact this _ ht _ hm
    refine ⟨_,Depth_eq c h hv i j hi hj,?_,?_⟩
    ·unfold zch
     rw [zgn c h,bind_e rfl,hv,show ((0:Int) != 0)=false from rfl,decide_eq_false (by omega),decide_eq_false (by omega),decide_eq_false (by omega),Bool.or_false,Bool.or_false,Bool.or_false,cond_false,ifp_pos (by omega),bind_e rfl,Int.toNat_natCast,decide_eq_false (by omega),cond_false,ifp_pos (by omega),ifp_pos (by omega),ifp_pos (by omega),Int.toNat_natCast,q1,bind_e rfl,zir K _ (by omega) K 0 [] (Nat.zero_le _) (by unfold K;omega) (Nat.le_refl _),bind_e rfl,List.nil_append,List.drop_zero,q4 hana]
    ·rw [←q4 hana,List.length_map];omega
   ·refine ⟨[],?_,?_,by simp⟩
    ·unfold zde zcO
     rw [Verify_eq c h,bind_e rfl,hv,show ((0:Int) != 0)=false from rfl,decide_eq_false (by omega),decide_eq_false (by omega),Bool.or_false,Bool.or_false,Bool.false_or]
     by_cases h0:b<0
     ·rw [decide_eq_true h0];rfl
     ·rw [decide_eq_false h0,cond_false,ifp_pos (by omega),bind_e rfl,Int.toNat_natCast,decide_eq_true (by omega)];rfl
    ·unfold zch
     rw [zgn c h,bind_e rfl,hv,show ((0:Int) != 0)=false from rfl,decide_eq_false (by omega),decide_eq_false (by omega),Bool.or_false,Bool.or_false,Bool.false_or]
     by_cases h0:b<0
     ·rw [decide_eq_true h0];rfl
     ·rw [decide_eq_false h0,cond_false,ifp_pos (by omega),bind_e rfl,Int.toNat_natCast,decide_eq_true (by omega)];rfl
  ·have hd:(decide (a<0)||decide (a≥((c.Types.length:Nat):Int)))=true:=by
    rw [Bool.or_eq_true,decide_eq_true_eq,decide_eq_true_eq]
    omega
   refine ⟨[],?_,?_,by simp⟩
   ·unfold zde zcO
    rw [Verify_eq c h,bind_e rfl,hv,show ((0:Int) != 0)=false from rfl,Bool.false_or,hd]
    rfl
   ·unfold zch
    rw [zgn c h,bind_e rfl,hv,show ((0:Int) != 0)=false from rfl,Bool.false_or,hd]
    rfl
 ·have hne:(verP c != 0)=true:=bne_iff_ne.2 hv
  refine ⟨[],?_,?_,by simp⟩
  ·unfold zde zcO
   rw [Verify_eq c h,bind_e rfl,hne]
   rfl
  ·unfold zch
   rw [zgn c h,bind_e rfl,hne]
   rfl
theorem zht (c:Code) (a b:Int) (h:c.okl) (ha:Md.I64 a) (hb:Md.I64 b):∃k,zcp k c a b=some true:=by
 cases hs:cB c with
 | false =>
  refine ⟨9223372036854775900,?_⟩
  unfold zcp
  rw [awake_big,bind_e rfl,Bool.not_true,cond_false,Small_eq _ c (by decide) (lenL_ok h),hs,bind_e rfl]
  rfl
 | true =>
  have hS:=cB_sm hs
  refine ⟨K,?_⟩
  unfold zcp
  obtain ⟨l,h1,h2,h3⟩:=ziA c hS a b
  rw [awake_K,bind_e rfl,Bool.not_true,cond_false,Small_eq _ c (by decide) (lenL_mono (lenL_sm hS) (by decide)),hs,bind_e rfl,Bool.not_true,cond_false,Verify_eq c hS,bind_e rfl,zgn c hS,bind_e rfl,beq_self_eq_true,cond_true,h1,bind_e rfl,h2,bind_e rfl,sameI_r K _ _ (by omega) (by unfold K;omega),bind_e rfl,decide_eq_true rfl]
end Md
end Go.Proofs.YtclffekkjfhpdaaGreat

