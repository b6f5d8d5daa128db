import Derived.Test.YtbijabmjbgplbaaGreatDoorQ5
import Derived.Test.YtbijabmjbgplbaaGreatDoorQ4
import Derived.Lib.ItoaLen
set_option linter.unusedVariables false
set_option linter.unusedSimpArgs false
namespace Go.Proofs.YtbijabmjbgplbaaGreatDoor
namespace Md
def pot (s:State):Nat:=if s.reached=true then s.set.toNat else 256
def pots (l:List State):Nat:=(l.map pot).sum
theorem zf4:∀(l:List State) (i:Nat) (v:State),i<l.length->pots (l.set i v)+pot (l.getD i default)=pots l+pot v
 | [],i,v,h=>by cases h
 | a::r,0,v,h=>by simp [pots];omega
 | a::r,i+1,v,h=>by
  have:=zf4 r i v (by simpa using h);simp [pots] at *;omega
theorem zbx (a b:UInt64):(a &&& b).toNat<=a.toNat:=by rw [UInt64.toNat_and];exact Nat.and_le_left
theorem zno (a b:UInt64) (h:(a &&& b).toNat≠a.toNat):(a &&& b).toNat<a.toNat:=by
 have h1:=zbx a b;omega
def Sub (b a:UInt64):Prop:=b &&& a=b
theorem Sub.rfl' (a:UInt64):Sub a a:=UInt64.and_self
theorem Sub.trans {a b c:UInt64} (h1:Sub a b) (h2:Sub b c):Sub a c:=by
 unfold Sub at *;rw [<-h1,UInt64.and_assoc,h2]
theorem Sub.zoz (a b:UInt64):Sub (a &&& b) a:=by
 unfold Sub;rw [UInt64.and_comm a b,UInt64.and_assoc,UInt64.and_self]
theorem Sub.zoA (a b:UInt64):Sub (a &&& b) b:=by
 unfold Sub;rw [UInt64.and_assoc,UInt64.and_self]
theorem J3 {α:Type} [Inhabited α] {l:List α} {i j:Nat} {v:α} (hi:i<l.length):(l.set i v).getD j default=if j=i then v else l.getD j default:=by
 by_cases h:j=i
 .subst h;simp [List.getD,hi]
 .rw [if_neg h]
  simp [List.getD,List.getElem?_set,Ne.symm h]
structure Stp (stk:List Int) (g:UInt64) (tos:List Int) (st:List State) (w:List Int) (st':List State) (w':List Int):Prop where
 len:st'.length=st.length
 mono:∀i,(st.getD i default).reached=true->(st'.getD i default).reached=true/\(st'.getD i default).stack=(st.getD i default).stack/\Sub (st'.getD i default).set (st.getD i default).set
 same:∀i:Nat,(i:Int)∉w'->st'.getD i default=st.getD i default
 sub:∀a∈w,a∈w'
 from':∀a∈w',a∈w\/a∈tos
 got:∀i:Nat,(i:Int)∈tos->(st'.getD i default).reached=true/\(st'.getD i default).stack=stk/\Sub (st'.getD i default).set g
 pot:w'.length+2*pots st'<=w.length+2*pots st
 sl:(∀i,(st.getD i default).stack.length<=40)->∀i,(st'.getD i default).stack.length<=40
 low:(∀i,(st.getD i default).reached=true->(st.getD i default).set.toNat<=255)->∀i,(st'.getD i default).reached=true->(st'.getD i default).set.toNat<=255
theorem zi6 {stk:List Int} {g:UInt64} {a:Int} {r:List Int} {st st1 st':List State} {w w1 w':List Int} (h1:Stp stk g r st w st1 w1) (h2:Stp stk g [a] st1 w1 st' w'):Stp stk g (r++[a]) st w st' w' where
 len:=h2.len.trans h1.len
 mono:=fun i h=>by
  obtain ⟨a1,a2,a3⟩:=h1.mono i h;obtain ⟨b1,b2,b3⟩:=h2.mono i a1;exact ⟨b1,b2.trans a2,b3.trans a3⟩
 same:=fun i h=>(h2.same i h).trans (h1.same i (fun q=>h (h2.sub _ q)))
 sub:=fun a h=>h2.sub _ (h1.sub _ h)
 from':=fun b h=>by
  rcases h2.from' b h with h|h
  .exact (h1.from' b h).imp id (List.mem_append_left _)
  .exact .inr (List.mem_append_right _ h)
 got:=fun i h=>by
  rcases List.mem_append.1 h with h|h
  .obtain ⟨a1,a2,a3⟩:=h1.got i h
   obtain ⟨b1,b2,b3⟩:=h2.mono i a1;exact ⟨b1,b2.trans a2,b3.trans a3⟩
  .exact h2.got i h
 pot:=Nat.le_trans h2.pot h1.pot
 sl:=fun h=>h2.sl (h1.sl h)
 low:=fun h=>h2.low (h1.low h)
theorem zmW (stk:List Int) (g:UInt64) (st:List State) (w:List Int):Stp stk g [] st w st w where
 len:=rfl
 mono:=fun i h=>⟨h,rfl,.rfl' _⟩
 same:=fun i h=>rfl
 sub:=fun a h=>h
 from':=fun a h=>.inl h
 got:=fun i h=>by cases h
 pot:=Nat.le_refl _
 sl:=fun h=>h
 low:=fun h=>h
section
variable {stk:List Int} {g:UInt64} {st:List State} {w:List Int} {i:Nat}
theorem zi5 {v:State} (hg:v.set.toNat<=255) (hs:stk.length<=40) (hi:i<st.length) (hv:v.reached=true/\v.stack=stk/\Sub v.set g) (hm:(st.getD i default).reached=true->(st.getD i default).stack=stk/\Sub v.set (st.getD i default).set) (hp:pot v<pot (st.getD i default)):Stp stk g [(i:Int)] st w (st.set i v) (w++[(i:Int)]):=by
 have G:∀j,(st.set i v).getD j default=if j=i then v else st.getD j default:=fun j=>J3 hi
 refine ⟨by simp,fun j hj=>?_,fun j hj=>?_,fun b hb=>List.mem_append_left _ hb,fun b hb=>List.mem_append.1 hb,fun j hj=>?_,?_,fun h j=>?_,fun h j hj=>?_⟩
 .rw [G]
  split
  .rename_i e
   subst e;exact ⟨hv.1,hv.2.1.trans (hm hj).1.symm,(hm hj).2⟩
  .exact ⟨hj,rfl,.rfl' _⟩
 .rw [G,if_neg fun e=>hj (by rw [e];simp)]
 .have:j=i:=by have:=List.mem_singleton.1 hj;omega
  rw [G,if_pos this];exact hv
 .have:=zf4 st i v hi
  simp only [List.length_append,List.length_singleton];omega
 .rw [G]
  split
  .rw [hv.2.1];exact hs
  .exact h j
 .rw [G] at hj ⊢
  split at hj
  .rename_i e;rw [if_pos e];exact hg
  .rename_i e;rw [if_neg e];exact h j hj
theorem zkI (h1:(st.getD i default).reached=true) (h2:(st.getD i default).stack=stk) (h3:Sub (st.getD i default).set g):Stp stk g [(i:Int)] st w st w where
 len:=rfl
 mono:=fun i h=>⟨h,rfl,.rfl' _⟩
 same:=fun i h=>rfl
 sub:=fun a h=>h
 from':=fun a h=>.inl h
 got:=fun j h=>by
  have:j=i:=by have:=List.mem_singleton.1 h;omega
  rw [this];exact ⟨h1,h2,h3⟩
 pot:=Nat.le_refl _
 sl:=fun h=>h
 low:=fun h=>h
end
def genP (m:zk) (i:Nat) (s:UInt64):UInt64:=if (m.Code.getD i default).Op=3 then s ||| QU 1 (m.Code.getD i default).A.toNat else s
structure Ctx (c:Code) (t:zq) (m:zk):Prop where
 ok:okMt c t m
 len:m.Code.length<=3000
 callee:∀i,i<m.Code.length->(m.Code.getD i default).Op=30->(xJ c (m.Code.getD i default)).Params.length<=4
structure zow (c:Code) (t:zq) (m:zk) (st:List State) (i:Nat):Prop where
 ex:∃r,Af c t m (m.Code.getD i default) (st.getD i default).stack r/\∀j,SJ m i j->j<m.Code.length/\(st.getD j default).reached=true/\(st.getD j default).stack=r/\Sub (st.getD j default).set (genP m i (st.getD i default).set)
structure InvS (c:Code) (t:zq) (m:zk) (st:List State) (w:List Int):Prop where
 len:st.length=m.Code.length
 work:∀a∈w,∃i:Nat,a=(i:Int)/\i<st.length/\(st.getD i default).reached=true
 stk:∀i,(st.getD i default).stack.length<=40
 low:∀i,(st.getD i default).reached=true->(st.getD i default).set.toNat<=255
 zero:(st.getD 0 default).reached=true/\(st.getD 0 default).stack=[]/\Sub (st.getD 0 default).set (QU (1:UInt64) m.Params.length - (1:UInt64))
 done:∀i,i<st.length->(st.getD i default).reached=true->(i:Int)∉w->zow c t m st i
section
variable {c:Code} {t:zq} {m:zk}
theorem JQ (a:UInt64) (n:Nat):(QU a n).toNat=a.toNat*2^min n 64%2^64:=by
 unfold QU;exact UInt64.toNat_ofNat'
theorem zmg (hC:Ctx c t m) {i:Nat} (hi:i<m.Code.length) {s:UInt64} (h:s.toNat<=255):(genP m i s).toNat<=255:=by
 unfold genP;split
 .rename_i e
  have:=(hC.ok.i _ (getD_mem hi)).loc (.inr e);have hl:=hC.ok.l;rw [UInt64.toNat_or,JQ];have h1:(1:UInt64).toNat*2^min (m.Code.getD i default).A.toNat 64%2^64<2^8:=by
   have hA:(m.Code.getD i default).A.toNat<=7:=by omega
   rw [Nat.min_eq_left (by omega)];have:2^(m.Code.getD i default).A.toNat<=2^7:=Nat.pow_le_pow_right (by decide) hA;have e1:(1:UInt64).toNat=1:=rfl;rw [e1,Nat.one_mul,Nat.mod_eq_of_lt (by omega)];omega
  have:=Nat.or_lt_two_pow (n:=8) (x:=s.toNat) (by omega) h1;omega
 .exact h
end
end Md
end Go.Proofs.YtbijabmjbgplbaaGreatDoor
namespace Go.Proofs.YtbijabmjbgplbaaGreatDoor
namespace Md
theorem uq {X Y:Type} {body:(X->Option Y)->X->Option Y} {L:Nat} {y:Y} (σ:Nat->X) (hl:L<5000000) (hs:∀F i,i<L->body F (σ i)=F (σ (i+1))) (he:∀F,body F (σ L)=some y):rounds body K (σ 0)=some y:=by
 have:∀n i,i<=L->L - i<n->rounds body n (σ i)=some y:=by
  intro n
  induction n with
  | zero=>intro i h1 h2;omega
  | succ n ih =>
   intro i h1 h2;rw [rounds_succ]
   by_cases h:i<L
   .rw [hs _ i h];exact ih (i+1) h (by omega)
   .rw [show i=L by omega];exact he _
 exact this K 0 (Nat.zero_le _) (by show L - 0<5000000;omega)
theorem VL {α:Type} [Inhabited α] (f:α->List UInt8) {l:List α} {i:Nat} (h:i<l.length):(l.take (i+1)).flatMap f=(l.take i).flatMap f++f (l.getD i default):=by
 rw [List.take_succ_eq_append_getElem h,List.flatMap_append];simp [List.getD,h]
theorem Xa {α:Type} [Inhabited α] (f:α->List UInt8) {l:List α} {i:Nat} (h:i<l.length):(l.drop i).flatMap f=f (l.getD i default)++(l.drop (i+1)).flatMap f:=by
 rw [List.drop_eq_getElem_cons h,List.flatMap_cons,gd h]
theorem zek {α:Type} [Inhabited α] {l:List α} {i:Nat} (h:i<l.length):l.take (i+1)=l.take i++[l.getD i default]:=by rw [List.take_succ_eq_append_getElem h,gd h]
theorem zeh (a:UInt64) (n:Nat):(Kq a n).toNat=a.toNat/2^min n 64:=by
 unfold Kq;rw [UInt64.toNat_ofNat'];have h1:=a.toNat_lt;have h2:=Nat.div_le_self a.toNat (2^min n 64);exact Nat.mod_eq_of_lt (by omega)
def enc (v:Nat):List UInt8:=if h:v<128 then [.ofNat v] else .ofNat (v%128+128)::enc (v/128)
 termination_by v
 decreasing_by omega
theorem zcs {v:Nat} (h:v<128):enc v=[.ofNat v]:=by rw [enc,dif_pos h]
theorem zhZ {v:Nat} (h:128<=v):enc v=.ofNat (v%128+128)::enc (v/128):=by rw [enc,dif_neg (by omega)]
theorem b_or:∀n,n<256->(UInt8.ofNat n ||| 128)=UInt8.ofNat (n%128+128):=by decide +kernel
theorem byte_of (v:UInt64):v.toUInt8=UInt8.ofNat (v.toNat%256):=by
 apply UInt8.toNat_inj.1;rw [UInt64.toNat_toUInt8,UInt8.toNat_ofNat'];omega
theorem zhC (v:UInt64) (h:v.toNat<128):v.toUInt8=UInt8.ofNat v.toNat:=by rw [byte_of,Nat.mod_eq_of_lt (by omega)]
theorem zlT (v:UInt64):(v.toUInt8 ||| 128)=UInt8.ofNat (v.toNat%128+128):=by
 rw [byte_of,b_or _ (by omega),Nat.mod_mod_of_dvd _ (by decide)]
theorem zkB:∀(n N:Nat) (v:UInt64) (acc:List UInt8),n<N->v.toNat<128^(n+1)->acc.length+n<=3900000 ->
  ∃r,X5 K N (v,acc)=some r/\r.2++[r.1.toUInt8]=acc++enc v.toNat/\r.2.length<=acc.length+n:=by
 intro n;unfold X5
 induction n with
 | zero =>
  intro N v acc hN h1 h2;obtain ⟨N,rfl⟩:∃j,N=j+1:=⟨N - 1,by omega⟩;rw [rounds_succ,decide_eq_false (by simp only;omega),cond_false];exact ⟨_,rfl,by rw [zcs (by omega),zhC v (by omega)],by simp⟩
 | succ n ih =>
  intro N v acc hN h1 h2;obtain ⟨N,rfl⟩:∃j,N=j+1:=⟨N - 1,by omega⟩;rw [rounds_succ]
  by_cases h:128<=v.toNat
  .rw [decide_eq_true (by simp only;omega),cond_true,zy (by simp;omega)]
   have hs:(Kq v 7).toNat=v.toNat/128:=by rw [zeh];rfl
   have hp:128^(n+1+1)=128^(n+1)*128:=Nat.pow_succ ..;obtain ⟨r,e1,e2,e3⟩:=ih N (Kq v 7) (acc++[v.toUInt8 ||| 128]) (by omega) (by rw [hs];omega) (by simp;omega);refine ⟨r,e1,?_,by simp at e3;omega⟩;rw [e2,hs,zhZ h,zlT];simp
  .rw [decide_eq_false (by simp only;omega),cond_false]
   exact ⟨_,rfl,by rw [zcs (by omega),zhC v (by omega)],by simp⟩
theorem ziR (v:UInt64):v.toNat<128^(9+1):=by
 have h1:=v.toNat_lt;have h3:(2:Nat)^64<=128^10:=by decide
 exact Nat.lt_of_lt_of_le h1 h3
theorem ziU (a:List UInt8) (v:UInt64) (ha:a.length<=3800000):Zy K v a=some (a++enc v.toNat):=by
 unfold Zy;obtain ⟨r,e1,e2,e3⟩:=zkB 9 K v a (by decide) (ziR v) (by omega);rw [e1,zu,zy (by simp;omega),e2]
theorem zeR:∀(n v:Nat),v<128^(n+1)->(enc v).length<=n+1:=by
 intro n
 induction n with
 | zero=>intro v h;rw [zcs (by omega)];simp
 | succ n ih =>
  intro v h
  by_cases h2:v<128
  .rw [zcs h2];simp
  .rw [zhZ (by omega)]
   have hp:128^(n+1+1)=128^(n+1)*128:=Nat.pow_succ ..;have:=ih (v/128) (by omega);simp;omega
theorem zdO (v:UInt64):(enc v.toNat).length<=10:=zeR 9 _ (ziR v)
theorem zan (a:List UInt8) (n:Nat) (ha:a.length<=3800000) (hn:n<=10000000):YC K a (n:Int)=some a:=by
 unfold YC;have hW:W (((a.length:Nat):Int)+(n:Int))=((a.length+n:Nat):Int):=(W_id (by omega) (by omega)).trans (by omega);rw [hW,zy (by omega),zy (by omega),zy (by omega)];simp
theorem zdC (a:List UInt8) (v:UInt64) (ha:a.length<=3800000):X4 K a v=some (a++enc v.toNat):=by
 unfold X4;rw [show (10:Int)=((10:Nat):Int) from rfl,zan a 10 (by omega) (by omega),zu,ziU a v ha,zu]
def zz (v:Int):UInt64:=if v<0 then .ofNat (-2*v - 1).toNat else .ofNat (2*v).toNat
theorem zax (n:Int):(UInt64.ofInt n).toNat=(n%18446744073709551616).toNat:=by
 show (UInt64.ofNat (n%2^64).toNat).toNat=_;rw [UInt64.toNat_ofNat'];omega
theorem zj7 {v:Int} (h:v<0) (h2:-9223372036854775808<=v):ishr v 63=-1:=by
 unfold ishr;rw [show min 63 64=63 from rfl,Int.fdiv_eq_ediv_of_nonneg _ (by decide)];omega
theorem zj8 {v:Int} (h:0<=v) (h2:v<=9223372036854775807):ishr v 63=0:=by
 unfold ishr;rw [show min 63 64=63 from rfl,Int.fdiv_eq_ediv_of_nonneg _ (by decide)];omega
theorem zo5 (v:Int) (h:I64 v):(QU (UInt64.ofInt v) 1 ^^^ UInt64.ofInt (ishr v 63))=zz v:=by
 obtain ⟨h1,h2⟩:=h;unfold zz;split
 .rename_i hv
  rw [zj7 hv h1];have hc:∀x:UInt64,x ^^^ UInt64.ofInt (-1) = ~~~x:=fun x=>by
   apply UInt64.toBitVec_inj.1;show x.toBitVec ^^^ BitVec.allOnes 64 = ~~~x.toBitVec;rw [BitVec.xor_allOnes]
  rw [hc];apply UInt64.toNat_inj.1;rw [UInt64.toNat_not,JQ,zax,UInt64.toNat_ofNat',show 2^min 1 64=2 from rfl,show UInt64.size=18446744073709551616 from rfl];omega
 .rename_i hv
  rw [zj8 (by omega) h2];have hc:∀x:UInt64,x ^^^ UInt64.ofInt 0=x:=fun x=>by
   apply UInt64.toBitVec_inj.1;show x.toBitVec ^^^ 0#64=x.toBitVec;simp
  rw [hc];apply UInt64.toNat_inj.1;rw [JQ,zax,UInt64.toNat_ofNat',show 2^min 1 64=2 from rfl];omega
theorem zf6 (a:List UInt8) (v:Int) (hv:I64 v) (ha:a.length<=3800000):Ue K v a=some (a++enc (zz v).toNat):=by
 unfold Ue;rw [zo5 v hv,ziU a _ ha,zu]
def lay (v:UInt64) (c:UInt8) (i:Nat):UInt64:=v ||| QU (c &&& 127).toUInt64 (7*i)
def go:List UInt8->Nat->UInt64->UInt64×Int×Int
 | [],_,_=>(0,0,2)
 | c::r,i,v=>if (i=9/\1<c.toNat)\/(0<i/\c.toNat=0) then (0,0,3) else if c.toNat<128 then (lay v c i,((i+1:Nat):Int),0) else go r (i+1) (lay v c i)
theorem getD_drop (b:List UInt8) {i:Nat} (h:i<b.length):b.drop i=b.getD i default::b.drop (i+1):=by
 rw [List.drop_eq_getElem_cons h];simp [List.getD,h]
theorem zm1 (i:Nat) (c:UInt8):(((((i:Nat):Int)==9)&&(decide ((c.toNat:Int)>1)))||((decide (((i:Nat):Int)>0))&&((c.toNat:Int)==0)))=decide ((i=9/\1<c.toNat)\/(0<i/\c.toNat=0)):=by
 rw [Bool.eq_iff_iff];simp;omega
theorem zjc (b:List UInt8) (hb:b.length<=4000000):∀(n i:Nat) (v:UInt64),i<=b.length->b.length - i<n ->
  ((Uc K b n (v,i)).bind fun o1=>onS o1 (fun _=>some ((0:UInt64),(0:Int),(2:Int))) (fun r1=>some r1))=some (go (b.drop i) i v):=by
 intro n;unfold Uc
 induction n with
 | zero=>intro i v h1 h2;omega
 | succ n ih =>
  intro i v h1 h2;rw [rounds_succ]
  by_cases h:i<b.length
  .rw [decide_eq_true (by simp only;omega),cond_true,zy h,zm1,getD_drop b h]
   have ih':=fun v=>ih (i+1) v;simp only;generalize b.getD i default=c at *;unfold go
   by_cases h3:(i=9/\1<c.toNat)\/(0<i/\c.toNat=0)
   .rw [decide_eq_true h3,cond_true,if_pos h3]
    rfl
   .rw [decide_eq_false h3,cond_false,if_neg h3,zy (by omega)]
    by_cases h4:c.toNat<128
    .rw [decide_eq_true (by omega),cond_true,if_pos h4,zy (by omega)]
     rfl
    .rw [decide_eq_false (by omega),cond_false,if_neg h4,zy (by omega)]
     exact ih' _ (by omega) (by omega)
  .rw [decide_eq_false (by simp only;omega),cond_false,List.drop_of_length_le (by omega)]
   rfl
theorem zm3 (b:List UInt8) (hb:b.length<=4000000):Vd K b=some (go b 0 0):=by
 unfold Vd;have:=zjc b hb K 0 0 (by omega) (by show _<5000000;omega);rwa [List.drop_zero] at this
def uz (u:UInt64):Int:=if u.toNat%2=1 then -((u.toNat/2:Nat):Int) - 1 else ((u.toNat/2:Nat):Int)
theorem zin {a:Int} (h:0<=a) (h2:a<=9223372036854775807):ixor a 0=a:=by
 unfold ixor;rw [show BitVec.ofInt 64 0=0#64 from rfl,BitVec.xor_zero,BitVec.toNat_ofInt];exact (W_id (by omega) (by omega)).trans (by omega)
theorem zim {a:Int} (h:0<=a) (h2:a<=9223372036854775807):ixor a (-1)=-a - 1:=by
 unfold ixor;rw [show BitVec.ofInt 64 (-1)=BitVec.allOnes 64 from rfl,BitVec.xor_allOnes,BitVec.toNat_not,BitVec.toNat_ofInt];unfold W;simp only;split<;>omega
theorem zm5 (u:UInt64):ixor (W ((Kq u 1).toNat:Int)) (W (-(W ((u &&& (1:UInt64)).toNat:Int))))=uz u:=by
 have hu:=u.toNat_lt;have h1:(Kq u 1).toNat=u.toNat/2:=by rw [zeh];rfl
 have h2:(u &&& (1:UInt64)).toNat=u.toNat%2:=by
  rw [UInt64.toNat_and,show (1:UInt64).toNat=1 from rfl,Nat.and_one_is_mod]
 rw [h1,h2,W_id (n:=((u.toNat/2:Nat):Int)) (by omega) (by omega),W_id (n:=((u.toNat%2:Nat):Int)) (by omega) (by omega)];unfold uz;split
 .rename_i h
  rw [h,show W (-((1:Nat):Int))=-1 from rfl,zim (by omega) (by omega)]
 .rename_i h
  rw [show u.toNat%2=0 by omega,show W (-((0:Nat):Int))=0 from rfl,zin (by omega) (by omega)]
theorem zlM:∀n,n<256->(UInt8.ofNat n &&& 127)=UInt8.ofNat n%128:=by decide +kernel
theorem zjA (c:UInt8):c &&& 127=c%128:=by
 have h:=zlM c.toNat c.toNat_lt;rwa [UInt8.ofNat_toNat] at h
theorem zit (a:UInt64) (c:UInt8) (i:Nat) (h1:a.toNat<2^(7*i)) (h2:7*i<=64) (h3:a.toNat+c.toNat%128*2^(7*i)<2^64):(lay a c i).toNat=a.toNat+c.toNat%128*2^(7*i):=by
 unfold lay;have e:(c &&& 127).toUInt64.toNat=c.toNat%128:=by rw [zjA,UInt8.toNat_toUInt64,UInt8.toNat_mod];rfl
 rw [UInt64.toNat_or,JQ,e,Nat.min_eq_left h2,Nat.mod_eq_of_lt (by omega),Nat.mul_comm,Nat.or_comm,<-Nat.two_pow_add_eq_or_of_lt h1,Nat.add_comm]
theorem parts (u P:Nat):u%128*P+u/128*(P*128)=u*P:=by
 have h:=Nat.div_add_mod u 128
 calc u%128*P+u/128*(P*128)=(128*(u/128)+u%128)*P:=by rw [Nat.add_mul,Nat.add_comm,Nat.mul_comm P 128,<-Nat.mul_assoc,Nat.mul_comm (u/128) 128]
  _=u*P:=by rw [h]
theorem pow7 (i:Nat):2^(7*(i+1))=2^(7*i)*128:=by rw [Nat.mul_add,Nat.pow_add]
theorem zmE {i u a:Nat} (h:a+u*2^(7*i)<2^64) (hu:0<i->0<u):i<=9/\(i=9->u<=1):=by
 by_cases h0:i=0
 .subst h0;omega
 have hu:=hu (by omega);have h2:1*2^(7*i)<=u*2^(7*i):=Nat.mul_le_mul_right _ hu;constructor
 .by_cases h9:i<=9
  .exact h9
  .have:(2:Nat)^(7*10)<=2^(7*i):=Nat.pow_le_pow_right (by decide) (by omega)
   have:(2:Nat)^64<=2^(7*10):=by decide
   omega
 .intro h9
  subst h9;have:(2:Nat)^(7*9)*2=2^64:=by decide
  by_cases h1:u<=1
  .exact h1
  .have:2*2^(7*9)<=u*2^(7*9):=Nat.mul_le_mul_right _ (by omega)
   omega
theorem znL (z:List UInt8):∀(n u:Nat),u<=n->∀(i:Nat) (a:UInt64),a.toNat<2^(7*i)->a.toNat+u*2^(7*i)<2^64->(0<i->0<u) ->
  go (enc u++z) i a=(UInt64.ofNat (a.toNat+u*2^(7*i)),((i+(enc u).length:Nat):Int),0):=by
 intro n
 induction n with
 | zero =>
  intro u hu i a h1 h2 h3;have:u=0:=by omega
  subst this;have:i=0:=by omega
  subst this;have h0:a=0:=UInt64.toNat_inj.1 (by simp at h1;simp [h1]);subst h0;rw [zcs (by omega)];rfl
 | succ n ih =>
  intro u hu i a h1 h2 h3;obtain ⟨h4,h5⟩:=zmE h2 h3
  by_cases h:u<128
  .have hc:(UInt8.ofNat u).toNat=u:=by rw [UInt8.toNat_ofNat'];omega
   rw [zcs h,List.singleton_append];unfold go;rw [if_neg (by rw [hc];omega),if_pos (by rw [hc];omega)];refine Prod.ext (UInt64.toNat_inj.1 ?_) rfl;show (lay a _ i).toNat=_;rw [zit a _ i h1 (by omega) (by rw [hc,Nat.mod_eq_of_lt (by omega)];exact h2),hc,Nat.mod_eq_of_lt (by omega),UInt64.toNat_ofNat',Nat.mod_eq_of_lt h2]
  .have hc:(UInt8.ofNat (u%128+128)).toNat=u%128+128:=by rw [UInt8.toNat_ofNat'];omega
   have hp:=parts u (2^(7*i));have hl:=zit a (UInt8.ofNat (u%128+128)) i h1 (by omega) (by rw [hc,show (u%128+128)%128=u%128 by omega];omega);rw [hc,show (u%128+128)%128=u%128 by omega] at hl;rw [zhZ (by omega),List.cons_append];unfold go;rw [if_neg (by rw [hc];omega),if_neg (by rw [hc];omega)];have hlt:a.toNat+u%128*2^(7*i)<2^(7*i)*128:=by
    have:u%128*2^(7*i)<=127*2^(7*i):=Nat.mul_le_mul_right _ (by omega);omega
   rw [ih (u/128) (by omega) (i+1) _ (by rw [hl,pow7];exact hlt) (by rw [hl,pow7];omega) (by omega),hl,pow7,Nat.add_assoc,hp]
   congr 2
   rw [List.length_cons];omega
theorem ziV (v:UInt64) (z:List UInt8) (h:(enc v.toNat).length+z.length<=4000000):Vd K (enc v.toNat++z)=some (v,((enc v.toNat).length:Int),0):=by
 rw [zm3 _ (by rw [List.length_append];exact h)];have hv:=v.toNat_lt;rw [znL z v.toNat v.toNat (Nat.le_refl _) 0 0 (by decide) (by simp;omega) (by omega)];simp
theorem zo0 (v:Int) (h:I64 v):uz (zz v)=v:=by
 obtain ⟨h1,h2⟩:=h;unfold uz zz
 by_cases h:v<0
 .rw [if_pos h,UInt64.toNat_ofNat']
  split<;>omega
 .rw [if_neg h,UInt64.toNat_ofNat']
  split<;>omega
theorem znO (v:Int) (z:List UInt8) (hv:I64 v) (h:(enc (zz v).toNat).length+z.length<=4000000):UO K (enc (zz v).toNat++z)=some (v,((enc (zz v).toNat).length:Int),0):=by
 unfold UO;rw [ziV _ _ h,zu,zm5,zo0 v hv]
end Md
end Go.Proofs.YtbijabmjbgplbaaGreatDoor
namespace Go.Proofs.YtbijabmjbgplbaaGreatDoor
namespace Md
def encS (s:List UInt8):List UInt8:=enc s.length++s
def encI (v:Int):List UInt8:=enc (zz v).toNat
def encL {α:Type} (f:α->List UInt8) (l:List α):List UInt8:=enc l.length++l.flatMap f
def encB (v:Value):List UInt8:=if v.Kind=1 then encI v.N else if v.Kind=2 then [UInt8.ofInt v.N] else if v.Kind=3 then encS v.S else if v.Kind=4 then encL encI v.I else if v.Kind=5 then encL encS v.L else []
def encV (v:Value):List UInt8:=UInt8.ofInt v.Kind::encB v
def encN (n:Int):List UInt8:=enc (UInt64.ofInt n).toNat
def encX (x:Instr):List UInt8:=encN x.Op++(encN x.A++(encN x.B++(if x.Op=1 then encV x.Value else [])))
def encF (f:Field):List UInt8:=encS f.Name++(encN f.Kind++encV f.Init)
def encM (m:zk):List UInt8:=encS m.Name++(encL encI m.Params++(encL encI m.zK++(encN m.Result++(encN (m.Code.length:Nat)++m.Code.flatMap encX))))
def encT (t:zq):List UInt8:=encS t.Name++(encN (t.Fields.length:Nat)++(t.Fields.flatMap encF++(encN (t.Methods.length:Nat)++t.Methods.flatMap encM)))
def encC (c:Code):List UInt8:=encN (c.Types.length:Nat)++c.Types.flatMap encT
theorem zgN {n:Nat} (h:n<=4000000):(UInt64.ofNat n).toNat=n:=by rw [UInt64.toNat_ofNat'];omega
theorem QM (v:Int):(encI v).length<=10:=zdO _
theorem Vw (n:Int):(encN n).length<=10:=zdO _
theorem KC {n:Nat} (h:n<=4000000):(enc n).length<=5:=zeR 4 n (by omega)
theorem ziT (a s:List UInt8) (h:a.length+s.length<=3700000):ZR K s a=some (a++encS s):=by
 unfold ZR encS;have h5:=KC (n:=s.length) (by omega);rw [ziU a _ (by omega),zu,zgN (by omega),zy (by simp;omega),List.append_assoc]
theorem zho (a s:List UInt8) (h:a.length+s.length<=3700000):YN K a s=some (a++encS s):=by
 unfold YN;rw [zy (by omega),zan a (s.length+10) (by omega) (by omega),zu,ziT a s h,zu]
theorem zoG {α:Type} (f:α->List UInt8) (l:List α) (i:Nat):((l.take i).flatMap f).length<=(l.flatMap f).length:=by
 have:l.flatMap f=(l.take i).flatMap f++(l.drop i).flatMap f:=by rw [<-List.flatMap_append,List.take_append_drop]
 rw [this,List.length_append];omega
theorem zaX {α:Type} [Inhabited α] {f:α->List UInt8} {l:List α} {a:List UInt8} (hl:l.length<5000000) {body:(Nat×List UInt8->Option (List UInt8))->Nat×List UInt8->Option (List UInt8)} (hb:∀F i acc,i<l.length->acc.length+(f (l.getD i default)).length<=a.length+(l.flatMap f).length->body F (i,acc)=F (i+1,acc++f (l.getD i default))) (he:∀F acc,body F (l.length,acc)=some acc):rounds body K (0,a)=some (a++l.flatMap f):=by
 have h0:(0,a)=((fun i=>(i,a++(l.take i).flatMap f)) 0:Nat×List UInt8):=by simp
 rw [h0];refine uq (L:=l.length) (fun i=>(i,a++(l.take i).flatMap f)) hl (fun F i hi=>?_) fun F=>?_
 .have e:=VL f hi
  have h2:=zoG f l (i+1);rw [e,List.length_append] at h2;rw [hb F i _ hi (by rw [List.length_append];omega),e,List.append_assoc]
 .rw [he,List.take_of_length_le (Nat.le_refl _)]
theorem zaK (a:List UInt8) (l:List Int) (hl:∀y∈l,I64 y) (h2:l.length<=1000) (h:a.length<=3600000):Zv K a l=some (a++encL encI l):=by
 unfold Zv Vb encL;have h5:=KC (n:=l.length) (by omega);have hf:(l.flatMap encI).length<=10*l.length:=by
  clear hl h2 h h5
  induction l with
  | nil=>simp
  | cons y l ih=>have:=QM y;simp only [List.flatMap_cons,List.length_append,List.length_cons];omega
 rw [zy (by omega),zy (by omega),zan a (10+2*l.length) (by omega) (by omega),zu,ziU a _ (by omega),zu,zgN (by omega)];rw [zaX (f:=encI) (l:=l) (by omega) (fun F i acc hi hacc=>?_) (fun F acc=>?_),zu,List.append_assoc]
 .simp only [List.length_append] at hacc
  dsimp only;rw [lt_t hi,zy hi,zf6 _ _ (hl _ (getD_mem hi)) (by omega),zu,zy (by omega)];rfl
 .exact lt_f
theorem zgw (a:List UInt8) (l:List (List UInt8)) (hl:∀y∈l,y.length<=64) (h2:l.length<=1000) (h:a.length<=3600000):Yi K a l=some (a++encL encS l):=by
 unfold Yi XD encL;have h5:=KC (n:=l.length) (by omega);have hf:(l.flatMap encS).length<=69*l.length:=by
  clear h2 h h5
  induction l with
  | nil=>simp
  | cons y l ih =>
   have:=KC (n:=y.length) (by have:=hl y (List.mem_cons_self ..);omega);have:=hl y (List.mem_cons_self ..);have:=ih fun y hy=>hl y (List.mem_cons_of_mem _ hy);simp only [List.flatMap_cons,List.length_append,List.length_cons,encS];omega
 rw [zy (by omega),zy (by omega),zan a (10+10*l.length) (by omega) (by omega),zu,ziU a _ (by omega),zu,zgN (by omega)];rw [zaX (f:=encS) (l:=l) (by omega) (fun F i acc hi hacc=>?_) (fun F acc=>?_),zu,List.append_assoc]
 .simp only [List.length_append] at hacc
  have:=hl _ (getD_mem hi);dsimp only;rw [lt_t hi,zy hi,ziT _ _ (by omega),zu,zy (by omega)]
 .exact lt_f
structure V6 (v:Value):Prop where
 vv:VV v
 n:I64 v.N
 i:∀x∈v.I,I64 x
theorem zdD (a:List UInt8) {v:Value} (h:V6 v) (ha:a.length<=3500000):qZ K a v=some (a++encV v):=by
 unfold qZ encV encB;have hs:=h.vv.sl;have hi:=h.vv.il;have hl:=h.vv.ll;obtain ⟨b,e,hb⟩:=Ur v;rw [e,zu,hb.2 h.vv,Bool.not_true,cond_false,show (16:Int)=((16:Nat):Int) from rfl,zan a 16 (by omega) (by omega),zu,zy (by simp;omega)]
 by_cases e1:v.Kind=1
 .rw [if_pos e1,beq_iff_eq.2 e1,cond_true,zf6 _ _ h.n (by simp;omega),zu,List.append_assoc];rfl
 rw [if_neg e1,beq_eq_false_iff_ne.2 e1,cond_false]
 by_cases e2:v.Kind=2
 .rw [if_pos e2,beq_iff_eq.2 e2,cond_true,zy (by simp;omega),List.append_assoc];rfl
 rw [if_neg e2,beq_eq_false_iff_ne.2 e2,cond_false]
 by_cases e3:v.Kind=3
 .rw [if_pos e3,beq_iff_eq.2 e3,cond_true,ziT _ _ (by simp;omega),zu,List.append_assoc];rfl
 rw [if_neg e3,beq_eq_false_iff_ne.2 e3,cond_false]
 by_cases e4:v.Kind=4
 .rw [if_pos e4,beq_iff_eq.2 e4,cond_true,zaK _ _ h.i (by omega) (by simp;omega),zu,List.append_assoc];rfl
 rw [if_neg e4,beq_eq_false_iff_ne.2 e4,cond_false]
 by_cases e5:v.Kind=5
 .rw [if_pos e5,beq_iff_eq.2 e5,cond_true,zgw _ _ h.vv.lx (by omega) (by simp;omega),zu,List.append_assoc];rfl
 rw [if_neg e5,beq_eq_false_iff_ne.2 e5,cond_false]
theorem zc9 (b:List UInt8) (n:Int) (h:b.length<=3800000):yI K n b=some (b++encN n):=by
 unfold yI;rw [zdC b _ h,zu];rfl
theorem zja (b s:List UInt8) (h:b.length+s.length<=3700000):uG K s b=some (b++encS s):=by
 unfold uG;rw [zho b s h,zu]
theorem JJ (s:List UInt8):s.length<=(encS s).length:=by unfold encS;simp
structure W6 (m:zk):Prop where
 p:m.Params.length<=1000/\∀y∈m.Params,I64 y
 l:m.zK.length<=1000/\∀y∈m.zK,I64 y
 c:m.Code.length<=100000
 x:∀x∈m.Code,x.Op=1->V6 x.Value
theorem zko {m:zk} (hm:W6 m) (b:List UInt8) (h:b.length+(encM m).length<=3500000):jS K m b=some (b++encM m):=by
 have hs:=JJ m.Name;have hc:=hm.c;unfold jS Z7;unfold encM at h;simp only [List.length_append] at h;rw [zja _ _ (by omega),zu,zaK _ _ hm.p.2 hm.p.1 (by simp;omega),zu,zaK _ _ hm.l.2 hm.l.1 (by simp;omega),zu,zc9 _ _ (by simp;omega),zu,zc9 _ _ (by simp;omega),zu];rw [zaX (f:=encX) (l:=m.Code) (by omega) (fun F i acc hi hacc=>?_) (fun F acc=>?_),zu]
 .unfold encM
  simp only [List.append_assoc]
 .have hx:=hm.x _ (getD_mem hi)
  simp only [List.length_append] at hacc;dsimp only;generalize m.Code.getD i default=x at *;rw [lt_t hi,zy hi];generalize (List.flatMap encX m.Code).length=N at *;unfold encX at hacc ⊢;simp only [List.length_append] at hacc;rw [zc9 _ _ (by omega),zu,zc9 _ _ (by simp;omega),zu,zc9 _ _ (by simp;omega),zu]
  by_cases ho:x.Op=1
  .rw [beq_iff_eq.2 ho,cond_true,if_pos ho]
   rw [if_pos ho] at hacc;rw [show qZ K _ x.Value=_ from zdD (acc++encN x.Op++encN x.A++encN x.B) (hx ho) (by simp;omega),zu,zu,zy (by omega)];simp only [List.append_assoc]
  .rw [beq_eq_false_iff_ne.2 ho,cond_false,if_neg ho,zu,zy (by omega)]
   simp only [List.append_assoc,List.append_nil]
 .exact lt_f
structure Ty6 (t:zq):Prop where
 f:t.Fields.length<=1000/\∀f∈t.Fields,V6 f.Init
 m:t.Methods.length<=1000/\∀m∈t.Methods,W6 m
theorem zjn {c:Code} (hr:xI K c=some true) (hc:c.Types.length<=1000) (ht:∀t∈c.Types,Ty6 t) (h:(encC c).length<=3400000):Yj K c=some (encC c):=by
 unfold Yj WQ;rw [hr,zu,Bool.not_true,cond_false,zc9 _ _ (by simp),zu,List.nil_append];unfold encC at h ⊢;simp only [List.length_append] at h;rw [zaX (f:=encT) (l:=c.Types) (by omega) (fun F i acc hi hacc=>?_) (fun F acc=>?_),zu]
 .have h6:=ht _ (getD_mem hi)
  dsimp only;rw [lt_t hi,zy hi];unfold X6 X7;dsimp only;generalize c.Types.getD i default=t at *;have hs:=JJ t.Name;have hf:=h6.f.1;have hm:=h6.m.1;generalize (List.flatMap encT c.Types).length=N at *;unfold encT at hacc ⊢;simp only [List.length_append] at hacc;rw [zja _ _ (by omega),zu,zc9 _ _ (by simp;omega),zu];rw [zaX (f:=encF) (l:=t.Fields) (by omega) (fun F j acc hj hacc=>?_) (fun F acc=>?_),zu,zc9 _ _ (by simp only [List.length_append];omega),zu];rw [zaX (f:=encM) (l:=t.Methods) (by omega) (fun F j acc hj hacc=>?_) (fun F acc=>?_),zu,zy (by omega)]
  .simp only [List.append_assoc]
  .simp only [List.length_append] at hacc
   dsimp only;rw [lt_t hj,zy hj,zko (h6.m.2 _ (getD_mem hj)) _ (by omega),zu,zy (by omega)]
  .exact lt_f
  .have h7:=h6.f.2 _ (getD_mem hj)
   simp only [List.length_append] at hacc;dsimp only;rw [lt_t hj,zy hj];generalize t.Fields.getD j default=f at *;have hs:=JJ f.Name;generalize (List.flatMap encF t.Fields).length=N' at *;unfold encF at hacc ⊢;simp only [List.length_append] at hacc;rw [zja _ _ (by omega),zu,zc9 _ _ (by simp;omega),zu,show qZ K _ f.Init=_ from zdD (acc++encS f.Name++encN f.Kind) h7 (by simp;omega),zu,zy (by omega)];simp only [List.append_assoc]
  .exact lt_f
 .exact lt_f
end Md
end Go.Proofs.YtbijabmjbgplbaaGreatDoor
namespace Go.Proofs.YtbijabmjbgplbaaGreatDoor
namespace Md
theorem zc_ {m:Int} (h0:0<=m) (h:m<=9223372036854775807):((UInt64.ofInt m).toNat:Int)=m:=by
 rw [zax];omega
theorem zc2 {n:Nat} (h:n<=1000000) {max:Int} (hm:(n:Int)<=max) (hM:max<=9223372036854775807) (z:List UInt8) (hz:z.length<=3900000):WG K (enc n++z) max=some ((n:Int),((enc n).length:Int),0):=by
 have h5:=KC (n:=n) (by omega);have hr:=ziV (UInt64.ofNat n) z (by rw [zgN (by omega)];omega);rw [zgN (by omega)] at hr;unfold WG;rw [decide_eq_false (by omega),cond_false,hr,zu];dsimp only;rw [zgN (by omega),zc_ (by omega) hM,decide_eq_false (by omega),W_id (by omega) (by omega)];rfl
theorem zdl {s:List UInt8} (h:s.length<=1000) {max:Int} (hm:(s.length:Int)<=max) (hM:max<=9223372036854775807) (z:List UInt8) (hz:s.length+z.length<=3900000):Xu K (encS s++z) max=some (s,((encS s).length:Int),0):=by
 have h5:=KC (n:=s.length) (by omega);unfold Xu encS;rw [List.append_assoc,zc2 (by omega) hm hM _ (by rw [List.length_append];omega),zu];dsimp only;have e1:W ((((enc s.length++(s++z)).length:Nat):Int) - ((enc s.length).length:Int))=((s.length+z.length:Nat):Int):=by
  simp only [List.length_append];rw [W_id (by omega) (by omega)];omega
 have e2:W (((enc s.length).length:Int)+(s.length:Int))=(((enc s.length).length+s.length:Nat):Int):=by
  rw [W_id (by omega) (by omega)];omega
 rw [e1,e2,Int.toNat_natCast,Int.toNat_natCast];rw [show ((0:Int) != 0)=false from rfl,cond_false,decide_eq_false (by omega),cond_false,zy (by omega),zy (by omega),zy ⟨by omega,by simp only [List.length_append];omega⟩,List.drop_left,Nat.add_sub_cancel_left,List.take_left,List.length_append]
theorem zli {α:Type} [Inhabited α] {f:α->List UInt8} {l:List α} {z b:List UInt8} (hb:b=enc l.length++(l.flatMap f++z)) (hl:l.length<=1000) (hbl:b.length<=3900000) {rd:List UInt8->Option (α×Int×Int)} (hrd:∀y∈l,∀z',(f y).length+z'.length<=3900000->rd (f y++z')=some (y,((f y).length:Int),0)) {body:(Int×Int×Nat×List α->Option (Int×Int×List α))->Int×Int×Nat×List α->Option (Int×Int×List α)}
  (hbody:∀F x2,body F x2=bif ((x2.2.1==(0:Int))&&(decide (((x2.2.2.1:Nat):Int)<(l.length:Int)))) then (ifp (0<=x2.1)<|ifp ((x2.1).toNat<=b.length)<|(rd (b.drop ((x2.1).toNat))).bind fun x3=>ifp (x2.2.2.2.length+[x3.1].length<=4000000)<|ifp (x2.2.2.1+1<=9223372036854775807)<|F ((W (x2.1+x3.2.1)),x3.2.2,(x2.2.2.1+1),(x2.2.2.2++[x3.1]))) else (some (x2.1,x2.2.1,x2.2.2.2))) :
  rounds body K (((enc l.length).length:Int),0,0,[])=some (((encL f l).length:Int),0,l):=by
 have h0:(((enc l.length).length:Int),(0:Int),0,([]:List α))=(fun i=>((((enc l.length).length+((l.take i).flatMap f).length:Nat):Int),(0:Int),i,l.take i)) 0:=by simp
 rw [h0];refine uq (L:=l.length) (fun i=>((((enc l.length).length+((l.take i).flatMap f).length:Nat):Int),(0:Int),i,l.take i)) (by omega) (fun F i hi=>?_) fun F=>?_
 .have e:=VL f hi
  have e3:b=(enc l.length++(l.take i).flatMap f)++(f (l.getD i default)++((l.drop (i+1)).flatMap f++z)):=by
   rw [hb,List.append_assoc,<-List.append_assoc (f (l.getD i default)),<-Xa f hi,<-List.append_assoc ((l.take i).flatMap f),<-List.flatMap_append,List.take_append_drop]
  have hlb:=congrArg List.length e3;simp only [List.length_append] at hlb;have e4:b.drop ((enc l.length).length+((l.take i).flatMap f).length)=f (l.getD i default)++((l.drop (i+1)).flatMap f++z):=by
   rw [e3,<-List.length_append,List.drop_left]
  rw [hbody];dsimp only;rw [show ((0:Int)==0)=true from rfl,Bool.true_and,lt_t hi,zy (by omega),Int.toNat_natCast,zy (by omega),e4,hrd _ (getD_mem hi) _ (by simp only [List.length_append];omega),zu];dsimp only;rw [zy (by simp;omega),zy (by omega),W_id (by omega) (by omega),e,zek hi,List.length_append]
  congr 2
  omega
 .rw [hbody]
  dsimp only;rw [show ((0:Int)==0)=true from rfl,Bool.true_and,lt_f,List.take_of_length_le (Nat.le_refl _)];unfold encL;rw [List.length_append]
theorem zlg {l:List Int} (hl:∀y∈l,I64 y) {max:Int} (h:l.length<=1000) (hm:(l.length:Int)<=max) (hM:max<=9223372036854775807) (z:List UInt8) (hz:(encL encI l).length+z.length<=3900000):XE K (encL encI l++z) max=some (((encL encI l).length:Int),0,l):=by
 have hz':=hz;unfold encL at hz';simp only [List.length_append] at hz';unfold XE Jc Ud;have hb:encL encI l++z=enc l.length++(l.flatMap encI++z):=by unfold encL;rw [List.append_assoc]
 rw [hb,zc2 (by omega) hm hM _ (by simp only [List.length_append];omega),zu];dsimp only;rw [zli (f:=encI) (rd:=UO K) rfl h (by simp only [List.length_append];omega) (fun y hy z' hz=>znO y z' (hl y hy) (by unfold encI at hz;omega)) fun F x2=>rfl,zu];rfl
theorem zof {l:List (List UInt8)} (hl:∀y∈l,y.length<=64) {max:Int} (h:l.length<=1000) (hm:(l.length:Int)<=max) (hM:max<=9223372036854775807) (z:List UInt8) (hz:(encL encS l).length+z.length<=3900000):YB K (encL encS l++z) max=some (((encL encS l).length:Int),0,l):=by
 have hz':=hz;unfold encL at hz';simp only [List.length_append] at hz';unfold YB Vp Wh;have hb:encL encS l++z=enc l.length++(l.flatMap encS++z):=by unfold encL;rw [List.append_assoc]
 rw [hb,zc2 (by omega) hm hM _ (by simp only [List.length_append];omega),zu];dsimp only;rw [zli (f:=encS) (rd:=YO K) rfl h (by simp only [List.length_append];omega) (fun y hy z' hz=>by
  have:=hl y hy;have:=JJ y;unfold YO;rw [zdl (by omega) (by omega) (by decide) z' (by omega),zu]) fun F x2=>rfl,zu]
 rfl
theorem zkT {v:Value} (h:VV v):v=vz\/v=⟨1,v.N,[],[],[]⟩\/(v=⟨2,v.N,[],[],[]⟩/\(v.N=0\/v.N=1))\/(v=⟨3,0,v.S,[],[]⟩/\v.S.length<=64)\/(v=⟨4,0,[],v.I,[]⟩/\v.I.length<=16)\/(v=⟨5,0,[],[],v.L⟩/\v.L.length<=16/\∀y∈v.L,y.length<=64):=by
 obtain ⟨hk,hn,hs,hi,hl,sl,il,ll,lx⟩:=h;obtain ⟨k,n,S,I,L⟩:=v;simp only at *;have ck:k=0\/k=1\/k=2\/k=3\/k=4\/k=5:=by omega
 have c1:k≠1->k≠2->n=0:=fun h1 h2=>by omega
 have c2:k≠3->S=[]:=fun h=>hs.resolve_right h;have c3:k≠4->I=[]:=fun h=>hi.resolve_right h;have c4:k≠5->L=[]:=fun h=>hl.resolve_right h;rcases ck with rfl|rfl|rfl|rfl|rfl|rfl
 .left;rw [c1 (by decide) (by decide),c2 (by decide),c3 (by decide),c4 (by decide)]
 .right;left;rw [c2 (by decide),c3 (by decide),c4 (by decide)]
 .right;right;left;rw [c2 (by decide),c3 (by decide),c4 (by decide)];exact ⟨rfl,by omega⟩
 .right;right;right;left;rw [c1 (by decide) (by decide),c3 (by decide),c4 (by decide)];exact ⟨rfl,sl⟩
 .right;right;right;right;left;rw [c1 (by decide) (by decide),c2 (by decide),c4 (by decide)];exact ⟨rfl,il⟩
 .right;right;right;right;right;rw [c1 (by decide) (by decide),c2 (by decide),c3 (by decide)];exact ⟨rfl,ll,lx⟩
theorem zaV {c:UInt8} {r:List UInt8} {n:Int} {v:Value} {X:Option (Int×Int×Nat×Int×(List UInt8)×(List Int)×(List (List UInt8)))} (hn:n=(r.length:Int)) (hr:r.length<=3000000) (hX:X=some (n,0,c.toNat,v.N,v.S,v.I,v.L)) (hk:v.Kind=(c.toNat:Int)):(X.bind fun x6=>bif (x6.2.1 != (0:Int)) then (some (vz,(0:Int),x6.2.1)) else (some ((⟨((x6.2.2.1:Nat):Int),x6.2.2.2.1,x6.2.2.2.2.1,x6.2.2.2.2.2.1,x6.2.2.2.2.2.2⟩:Value),(W (x6.1+(1:Int))),(0:Int))))=some (v,(((c::r).length:Nat):Int),0):=by
 rw [hX,zu];dsimp only;rw [<-hk,hn,W_id (by omega) (by omega)];rfl
theorem zm7 {v:Value} (h:V6 v) (z:List UInt8) (hz:(encV v).length+z.length<=3900000) (hv:(encV v).length<=2000):J8 K (encV v++z)=some (v,((encV v).length:Int),0):=by
 have hl:(encV v).length=(encB v).length+1:=rfl;unfold J8;rw [show encV v++z=UInt8.ofInt v.Kind::(encB v++z) from rfl,show ((((UInt8.ofInt v.Kind::(encB v++z)).length:Nat):Int)==0)=false from beq_eq_false_iff_ne.2 (by simp;omega),cond_false,zy (by simp),zy (by simp)];rw [show (encV v)=UInt8.ofInt v.Kind::encB v from rfl];have hd:(UInt8.ofInt v.Kind::(encB v++z)).drop 1=encB v++z:=rfl;have hg:(UInt8.ofInt v.Kind::(encB v++z)).getD 0 default=UInt8.ofInt v.Kind:=rfl;rw [hd,hg];have h6n:=h.n;have h6i:=h.i;rcases zkT h.vv with e|e|⟨e,hN⟩|⟨e,hS⟩|⟨e,hI⟩|⟨e,hL1,hL2⟩
 .rw [e]
  exact zaV rfl (by decide) rfl rfl
 .have hB:encB v=encI v.N:=by rw [e];rfl
  rw [hB] at hl ⊢;have hk:v.Kind=1:=by rw [e]
  refine zaV rfl (by omega) ?_ (by rw [hk];rfl);rw [hk];show ((UO K (encI v.N++z)).bind _)=_;rw [show UO K (encI v.N++z)=_ from znO v.N z h6n (by unfold encI at hl;omega),zu];have e2:v.S=[]/\v.I=[]/\v.L=[]:=by rw [e];exact ⟨rfl,rfl,rfl⟩
  rw [e2.1,e2.2.1,e2.2.2];rfl
 .have hB:encB v=[UInt8.ofInt v.N]:=by rw [e];rfl
  rw [hB] at hl ⊢;have hk:v.Kind=2:=by rw [e]
  refine zaV rfl (by simp) ?_ (by rw [hk];rfl);have e2:v.S=[]/\v.I=[]/\v.L=[]:=by rw [e];exact ⟨rfl,rfl,rfl⟩
  rw [hk,e2.1,e2.2.1,e2.2.2];show ((UQ K (UInt8.ofInt v.N::z)).bind _)=_;unfold UQ;rw [show ((((UInt8.ofInt v.N::z).length:Nat):Int)==0)=false from beq_eq_false_iff_ne.2 (by simp;omega),cond_false,zy (by simp)];rcases hN with hN|hN<;>(rw [hN];rfl)
 .have hB:encB v=encS v.S:=by rw [e];rfl
  rw [hB] at hl ⊢;have hk:v.Kind=3:=by rw [e]
  have hge:=JJ v.S;refine zaV rfl (by omega) ?_ (by rw [hk];rfl);have e2:v.N=0/\v.I=[]/\v.L=[]:=by rw [e];exact ⟨rfl,rfl,rfl⟩
  rw [hk,e2.1,e2.2.1,e2.2.2];show ((Xu K (encS v.S++z) 64).bind _)=_;rw [zdl (by omega) (by omega) (by decide) z (by omega),zu]
 .have hB:encB v=encL encI v.I:=by rw [e];rfl
  rw [hB] at hl ⊢;have hk:v.Kind=4:=by rw [e]
  refine zaV rfl (by omega) ?_ (by rw [hk];rfl);have e2:v.N=0/\v.S=[]/\v.L=[]:=by rw [e];exact ⟨rfl,rfl,rfl⟩
  rw [hk,e2.1,e2.2.1,e2.2.2];show ((XE K (encL encI v.I++z) 16).bind _)=_;rw [zlg h6i (by omega) (by omega) (by decide) z (by omega),zu]
 .have hB:encB v=encL encS v.L:=by rw [e];rfl
  rw [hB] at hl ⊢;have hk:v.Kind=5:=by rw [e]
  refine zaV rfl (by omega) ?_ (by rw [hk];rfl);have e2:v.N=0/\v.S=[]/\v.I=[]:=by rw [e];exact ⟨rfl,rfl,rfl⟩
  rw [hk,e2.1,e2.2.1,e2.2.2];show ((YB K (encL encS v.L++z) 16).bind _)=_;rw [zof hL2 (by omega) (by omega) (by decide) z (by omega),zu]
end Md
end Go.Proofs.YtbijabmjbgplbaaGreatDoor
namespace Go.Proofs.YtbijabmjbgplbaaGreatDoor
namespace Md
section
variable {z:List UInt8} {f:Bool}
theorem zgj {e:List UInt8}:wo K (e.length:Int) 0 (e++z) f=some (z,f):=by
 unfold wo;rw [show ((0:Int) != 0)=false from rfl,cond_false,zy (by omega),Int.toNat_natCast,zy (by simp),List.drop_left]
theorem zc8 {n max:Int} (h0:0<=n) (h1:n<=max) (h2:max<=9223372036854775807) (hz:z.length<=3900000):yH K max (encN n++z) f=some (n,z,f):=by
 have hl:=Vw n;unfold yH;rw [show Vd K (encN n++z)=_ from ziV _ z (by unfold encN at hl;omega),zu];dsimp only;rw [show wo K (((enc (UInt64.ofInt n).toNat).length:Nat):Int) 0 (encN n++z) f=_ from zgj,zu,zc_ h0 (by omega),zc_ (by omega) h2,decide_eq_false (by omega),cond_false,W_id (by omega) (by omega)]
theorem zi_ {s:List UInt8} (h:s.length<=32) (hz:s.length+z.length<=3900000):uF K (encS s++z) f=some (s,z,f):=by
 unfold uF;rw [zdl (by omega) (by omega) (by decide) z hz,zu,zgj,zu]
theorem zlj {l:List Int} {max:Int} (hl:∀y∈l,I64 y) (h:l.length<=1000) (hm:(l.length:Int)<=max) (hM:max<=9223372036854775807) (hz:(encL encI l).length+z.length<=3900000):jc K max (encL encI l++z) f=some (l,z,f):=by
 unfold jc;rw [zlg hl h hm hM z hz,zu];dsimp only;rw [zgj,zu]
theorem zjd {v:Value} (h:V6 v) (hz:(encV v).length+z.length<=3900000) (hv:(encV v).length<=2000):qx K (encV v++z) f=some (v,z,f):=by
 unfold qx;rw [zm7 h z hz hv,zu,zgj,zu]
end
theorem zfC {v:Value} (h:VV v):(encV v).length<=1242:=by
 have h1:=h.sl;have h2:=h.il;have h3:=h.ll;have fI:∀l:List Int,(l.flatMap encI).length<=10*l.length:=fun l=>by
  induction l with
  | nil=>simp
  | cons y l ih=>have:=QM y;simp only [List.flatMap_cons,List.length_append,List.length_cons];omega
 have fS:∀l:List (List UInt8),(∀y∈l,y.length<=64)->(l.flatMap encS).length<=69*l.length:=fun l hl=>by
  induction l with
  | nil=>simp
  | cons y l ih =>
   have:=KC (n:=y.length) (by have:=hl y (List.mem_cons_self ..);omega);have:=hl y (List.mem_cons_self ..);have:=ih fun y hy=>hl y (List.mem_cons_of_mem _ hy);simp only [List.flatMap_cons,List.length_append,List.length_cons,encS];omega
 have a1:=QM v.N;have a2:=fI v.I;have a3:=fS v.L h.lx;have b1:=KC (n:=v.S.length) (by omega);have b2:=KC (n:=v.I.length) (by omega);have b3:=KC (n:=v.L.length) (by omega);unfold encV encB encS encL;simp only [List.length_cons];split
 .omega
 split
 .simp
 split
 .simp only [List.length_append];omega
 split
 .simp only [List.length_append];omega
 split
 .unfold encS at a3;simp only [List.length_append];omega
 .simp
structure I7 (x:Instr):Prop where
 o:0<=x.Op/\x.Op<=36
 a:0<=x.A/\x.A<=9223372036854775807
 b:0<=x.B/\x.B<=9223372036854775807
 v:(x.Op=1/\V6 x.Value)\/(x.Op≠1/\x.Value=vz)
structure W7 (m:zk):Prop where
 n:m.Name.length<=32
 p:m.Params.length<=4/\∀y∈m.Params,I64 y
 l:m.zK.length<=8/\∀y∈m.zK,I64 y
 r:0<=m.Result/\m.Result<=5
 c:m.Code.length<=3000
 x:∀x∈m.Code,I7 x
structure Ty7 (t:zq):Prop where
 n:t.Name.length<=32
 f:t.Fields.length<=8/\∀f∈t.Fields,f.Name.length<=32/\(0<=f.Kind/\f.Kind<=5)/\V6 f.Init
 m:t.Methods.length<=16/\∀m∈t.Methods,W7 m
theorem zdA {n i:Nat} (h:i<n) (hn:n<=4000000):W (((n - i:Nat):Int) - 1)=((n - (i+1):Nat):Int):=by rw [W_id (by omega) (by omega)];omega
theorem gt_t {n i:Nat} (h:i<n):decide (((n - i:Nat):Int)>0)=true:=decide_eq_true (by omega)
theorem gt_f {n:Nat}:decide (((n - n:Nat):Int)>0)=false:=decide_eq_false (by omega)
theorem zkm {m:zk} (h:W7 m) {z:List UInt8} (hz:(encM m).length+z.length<=3900000):jR K (encM m++z) false=some (m.Name,m.Result,m.Params,m.zK,m.Code,z,false):=by
 have hz':=hz;unfold encM at hz';simp only [List.length_append] at hz';have hs:=JJ m.Name;have hn:=h.n;have hp:=h.p.1;have hl:=h.l.1;have hc:=h.c;unfold jR Z4 encM;simp only [List.append_assoc];rw [zi_ (by omega) (by simp only [List.length_append];omega),zu];dsimp only;rw [zlj h.p.2 (by omega) (by omega) (by decide) (by simp only [List.length_append];omega),zu];dsimp only;rw [zlj h.l.2 (by omega) (by omega) (by decide) (by simp only [List.length_append];omega),zu];dsimp only;rw [zc8 h.r.1 h.r.2 (by decide) (by simp only [List.length_append];omega),zu];dsimp only;rw [zc8 (by omega) (by omega) (by decide) (by simp only [List.length_append];omega),zu];dsimp only;have h0:(((m.Code.length:Nat):Int),m.Code.flatMap encX++z,false,m.Name,m.Result,([]:List Instr))=(fun i=>(((m.Code.length - i:Nat):Int),(m.Code.drop i).flatMap encX++z,false,m.Name,m.Result,m.Code.take i)) 0:=by simp
 rw [h0,uq (L:=m.Code.length) (y:=(z,false,m.Name,m.Result,m.Code)) (fun i=>(((m.Code.length - i:Nat):Int),(m.Code.drop i).flatMap encX++z,false,m.Name,m.Result,m.Code.take i)) (by omega) (fun F i hi=>?_) fun F=>?_,zu]
 .have hx:=h.x _ (getD_mem hi)
  have e:=Xa encX hi;have hle:((m.Code.drop i).flatMap encX).length<=(m.Code.flatMap encX).length:=by
   have:m.Code.flatMap encX=(m.Code.take i).flatMap encX++(m.Code.drop i).flatMap encX:=by rw [<-List.flatMap_append,List.take_append_drop]
   rw [this,List.length_append];omega
  rw [zek hi];rw [e] at hle ⊢;dsimp only;rw [gt_t hi,Bool.not_false,Bool.and_self,cond_true];generalize m.Code.getD i default=x at *;obtain ⟨o,a,b,v⟩:=x;have hxo:=hx.o;have hxa:=hx.a;have hxb:=hx.b;have hxv:=hx.v;simp only at hxo hxa hxb hxv;have hX:(encX ⟨o,a,b,v⟩).length=(encN o).length+((encN a).length+((encN b).length+(if o=1 then encV v else []).length)):=by unfold encX;simp only [List.length_append]
  rw [List.length_append,hX] at hle;rw [show encX ⟨o,a,b,v⟩=encN o++(encN a++(encN b++(if o=1 then encV v else []))) from rfl];simp only [List.append_assoc];rw [zc8 hxo.1 hxo.2 (by decide) (by simp only [List.length_append];omega),zu];dsimp only;rw [zc8 hxa.1 hxa.2 (by decide) (by simp only [List.length_append];omega),zu];dsimp only;rw [zc8 hxb.1 hxb.2 (by decide) (by simp only [List.length_append];omega),zu];dsimp only;rcases hxv with ⟨h1,h2⟩|⟨h1,h2⟩
  .rw [if_pos h1] at hle ⊢
   rw [beq_iff_eq.2 h1,cond_true,zjd h2 (by simp only [List.length_append];omega) (by have:=zfC h2.vv;omega),zu,zu];dsimp only;rw [zy (by simp;omega),zdA hi (by omega)]
  .rw [if_neg h1] at hle ⊢
   rw [beq_eq_false_iff_ne.2 h1,cond_false,zu];dsimp only;rw [zy (by simp;omega),zdA hi (by omega),h2];rfl
 .dsimp only
  rw [gt_f,Bool.false_and,cond_false,List.drop_length,List.take_of_length_le (Nat.le_refl _)];rfl
theorem zoZ {t:zq} (h:Ty7 t) {z:List UInt8} (hz:(encT t).length+z.length<=3900000):ZB K (encT t++z) false=some (t.Name,t.Fields,t.Methods,z,false):=by
 have hz':=hz;unfold encT at hz';simp only [List.length_append] at hz';have hs:=JJ t.Name;have hn:=h.n;have hf:=h.f.1;have hm:=h.m.1;unfold ZB Y8 Y9 encT;simp only [List.append_assoc];rw [zi_ (by omega) (by simp only [List.length_append];omega),zu];dsimp only;rw [zc8 (by omega) (by omega) (by decide) (by simp only [List.length_append];omega),zu];dsimp only;have h0:(((t.Fields.length:Nat):Int),t.Fields.flatMap encF++(encN (t.Methods.length:Nat)++(t.Methods.flatMap encM++z)),false,t.Name,([]:List Field))=(fun i=>(((t.Fields.length - i:Nat):Int),(t.Fields.drop i).flatMap encF++(encN (t.Methods.length:Nat)++(t.Methods.flatMap encM++z)),false,t.Name,t.Fields.take i)) 0:=by simp
 rw [h0,uq (L:=t.Fields.length) (y:=((encN (t.Methods.length:Nat)++(t.Methods.flatMap encM++z)),false,t.Name,t.Fields)) (fun i=>(((t.Fields.length - i:Nat):Int),(t.Fields.drop i).flatMap encF++(encN (t.Methods.length:Nat)++(t.Methods.flatMap encM++z)),false,t.Name,t.Fields.take i)) (by omega) (fun F i hi=>?_) fun F=>?_,zu]
 .dsimp only
  rw [zc8 (by omega) (by omega) (by decide) (by simp only [List.length_append];omega),zu];dsimp only;have h0:(((t.Methods.length:Nat):Int),t.Methods.flatMap encM++z,false,t.Name,([]:List zk))=(fun i=>(((t.Methods.length - i:Nat):Int),(t.Methods.drop i).flatMap encM++z,false,t.Name,t.Methods.take i)) 0:=by simp
  rw [h0,uq (L:=t.Methods.length) (y:=(z,false,t.Name,t.Methods)) (fun i=>(((t.Methods.length - i:Nat):Int),(t.Methods.drop i).flatMap encM++z,false,t.Name,t.Methods.take i)) (by omega) (fun F i hi=>?_) fun F=>?_,zu]
  .have hx:=h.m.2 _ (getD_mem hi)
   have e:=Xa encM hi;have hle:((t.Methods.drop i).flatMap encM).length<=(t.Methods.flatMap encM).length:=by
    have:t.Methods.flatMap encM=(t.Methods.take i).flatMap encM++(t.Methods.drop i).flatMap encM:=by rw [<-List.flatMap_append,List.take_append_drop]
    rw [this,List.length_append];omega
   rw [zek hi];rw [e] at hle ⊢;rw [List.length_append] at hle;dsimp only;rw [gt_t hi,Bool.not_false,Bool.and_self,cond_true,List.append_assoc,zkm hx (by simp only [List.length_append];omega),zu];dsimp only;rw [zy (by simp;omega),zdA hi (by omega)]
  .dsimp only
   rw [gt_f,Bool.false_and,cond_false,List.drop_length,List.take_of_length_le (Nat.le_refl _)];rfl
 .have hx:=h.f.2 _ (getD_mem hi)
  have e:=Xa encF hi;have hle:((t.Fields.drop i).flatMap encF).length<=(t.Fields.flatMap encF).length:=by
   have:t.Fields.flatMap encF=(t.Fields.take i).flatMap encF++(t.Fields.drop i).flatMap encF:=by rw [<-List.flatMap_append,List.take_append_drop]
   rw [this,List.length_append];omega
  rw [zek hi];rw [e] at hle ⊢;dsimp only;rw [gt_t hi,Bool.not_false,Bool.and_self,cond_true];generalize t.Fields.getD i default=fd at *;have hs:=JJ fd.Name;have hX:(encF fd).length=(encS fd.Name).length+((encN fd.Kind).length+(encV fd.Init).length):=by unfold encF;simp only [List.length_append]
  rw [List.length_append,hX] at hle;rw [show encF fd=encS fd.Name++(encN fd.Kind++encV fd.Init) from rfl];simp only [List.append_assoc];rw [zi_ (by omega) (by simp only [List.length_append];omega),zu];dsimp only;rw [zc8 hx.2.1.1 hx.2.1.2 (by decide) (by simp only [List.length_append];omega),zu];dsimp only;rw [zjd hx.2.2 (by simp only [List.length_append];omega) (by have:=zfC hx.2.2.vv;omega),zu];dsimp only;rw [zy (by simp;omega),zdA hi (by omega)]
 .dsimp only
  rw [gt_f,Bool.false_and,cond_false,List.drop_length,List.take_of_length_le (Nat.le_refl _)];rfl
theorem zjm {c:Code} (hr:xI K c=some true) (hc:c.Types.length<=8) (ht:∀t∈c.Types,Ty7 t) (h:(encC c).length<=3400000):XH K (encC c)=some (c,((encC c).length:Int),0):=by
 have h':=h;unfold encC at h';simp only [List.length_append] at h';unfold XH WO;rw [show encC c=encN (c.Types.length:Nat)++c.Types.flatMap encT from rfl,zc8 (by omega) (by omega) (by decide) (by omega),zu];dsimp only;have h0:(((c.Types.length:Nat):Int),([]:List zq),c.Types.flatMap encT,false)=(fun i=>(((c.Types.length - i:Nat):Int),c.Types.take i,(c.Types.drop i).flatMap encT,false)) 0:=by simp
 rw [h0,uq (L:=c.Types.length) (y:=(c.Types,[],false)) (fun i=>(((c.Types.length - i:Nat):Int),c.Types.take i,(c.Types.drop i).flatMap encT,false)) (by omega) (fun F i hi=>?_) fun F=>?_,zu]
 .dsimp only
  rw [cond_false,show xI K (⟨c.Types⟩:Code)=some true from hr,zu,zu,Bool.not_true,cond_false,W_id (by simp only [List.length_append,List.length_nil];omega) (by simp only [List.length_append,List.length_nil];omega)];simp
 .have hx:=ht _ (getD_mem hi)
  have e:=Xa encT hi;have hle:((c.Types.drop i).flatMap encT).length<=(c.Types.flatMap encT).length:=by
   have:c.Types.flatMap encT=(c.Types.take i).flatMap encT++(c.Types.drop i).flatMap encT:=by rw [<-List.flatMap_append,List.take_append_drop]
   rw [this,List.length_append];omega
  rw [zek hi];rw [e] at hle ⊢;rw [List.length_append] at hle;dsimp only;rw [gt_t hi,Bool.not_false,Bool.and_self,cond_true,zoZ hx (by omega),zu];dsimp only;rw [zy (by simp;omega),zdA hi (by omega)]
 .dsimp only
  rw [gt_f,Bool.false_and,cond_false,List.drop_length,List.take_of_length_le (Nat.le_refl _)];rfl
end Md
end Go.Proofs.YtbijabmjbgplbaaGreatDoor
namespace Go.Proofs.YtbijabmjbgplbaaGreatDoor
namespace Md
section
variable {c:Code} {t:zq} {m:zk}
theorem zj6 (hC:Ctx c t m) {st:List State} {w0 tos r:List Int} {i:Nat} {g:UInt64} (h:InvS c t m st (w0++[(i:Int)])) (hi:i<st.length) (hg:g=genP m i (st.getD i default).set) (ha:Af c t m (m.Code.getD i default) (st.getD i default).stack r) (ht:(∀a∈tos,0<=a/\a<(m.Code.length:Int))/\∀j:Nat,SJ m i j->(j:Int)∈tos)
  {st':List State} {w':List Int} (hs:Stp r g tos st w0 st' w'):InvS c t m st' w':=by
 have hri:(st.getD i default).reached=true:=by
  obtain ⟨j,e,_,hj⟩:=h.work (i:Int) (by simp);have:j=i:=by omega
  rw [<-this];exact hj
 have hlen:=h.len;refine ⟨hs.len.trans hlen,fun a ha=>?_,hs.sl h.stk,hs.low h.low,?_,fun j hj hr hw=>?_⟩
 .rcases hs.from' a ha with q|q
  .obtain ⟨j,e,hj,hjr⟩:=h.work a (List.mem_append_left _ q)
   exact ⟨j,e,by rw [hs.len];exact hj,(hs.mono j hjr).1⟩
  .have:=ht.1 a q
   have e:a=((a.toNat:Nat):Int):=by omega
   exact ⟨a.toNat,e,by rw [hs.len];omega,(hs.got a.toNat (by rw [<-e];exact q)).1⟩
 .obtain ⟨a1,a2,a3⟩:=hs.mono 0 h.zero.1
  exact ⟨a1,a2.trans h.zero.2.1,a3.trans h.zero.2.2⟩
 .have e:=hs.same j hw
  by_cases hji:j=i
  .subst hji
   refine ⟨r,by rw [e];exact ha,fun q hq=>?_⟩;have hq':=ht.2 q hq;rw [e,<-hg];exact ⟨by have:=(ht.1 _ hq').2;omega,hs.got q hq'⟩
  .rw [e] at hr
   obtain ⟨r2,d1,d2⟩:=(h.done j (by rw [<-hs.len];exact hj) hr (fun q=>by
    rcases List.mem_append.1 q with q|q
    .exact hw (hs.sub _ q)
    .exact hji (by have:=List.mem_singleton.1 q;omega))).ex
   refine ⟨r2,by rw [e];exact d1,fun q hq=>?_⟩;obtain ⟨b0,b1,b2,b3⟩:=d2 q hq;obtain ⟨a1,a2,a3⟩:=hs.mono q b1;rw [e];exact ⟨b0,a1,a2.trans b2,a3.trans b3⟩
theorem zkk {tos stk:List Int} {b1 b2:Bool} {g:UInt64} {st:List State} {w:List Int} (ht:tos.length<=2) (hr:∀a∈tos,0<=a/\a<(st.length:Int)) (hg:g.toNat<=255) (hs:stk.length<=40) (hsl:∀i,(st.getD i default).stack.length<=40) (hw:w.length<=2000000) (hlow:∀i,(st.getD i default).reached=true->(st.getD i default).set.toNat<=255) :
  Tot (ZA K (b1,tos) (stk,b2) g K (0,w,st)) fun o=>(∃r,o=.inl r/\Stp stk g tos st w r.2 r.1)\/∃r,o=.inr (.inr (false,r)):=by
 unfold ZA;refine tK (fun x=>x.1<=tos.length/\Stp stk g (tos.take x.1) st w x.2.2 x.2.1/\x.2.1.length<=w.length+x.1) (fun x=>tos.length - x.1) (fun F x hx hF=>?_) ⟨Nat.zero_le _,zmW _ _ _ _,Nat.le_refl _⟩ (by simp only;omega);obtain ⟨x1,x2,x3⟩:=hx;refine tD (fun e=>?_) fun e=>tS (.inl ⟨_,rfl,by rw [List.take_of_length_le (by simp only at e;omega)] at x2;exact x2⟩);have e1:x.1<tos.length:=by simp only at e;omega
 have hl:=x2.len;have hm:=hr _ (getD_mem e1);have st1:tos.take (x.1+1)=tos.take x.1++[tos.getD x.1 default]:=by rw [gd e1,List.take_succ_eq_append_getElem e1]
 simp only;generalize tos.getD x.1 default=a at *;obtain ⟨i,rfl⟩:∃i:Nat,a=(i:Int):=⟨a.toNat,by omega⟩;simp only [Int.toNat_natCast];have hi:i<x.2.2.length:=by omega
 refine tB (P:=fun o=>(∃w' s',o=.inl (w',s')/\Stp stk g [(i:Int)] x.2.2 x.2.1 s' w'/\w'.length<=x.2.1.length+1)\/∃r,o=.inr (.inr (.inr (false,r)))) (tI e1 fun _=>tI e1 fun _=>tI (by omega) fun _=>tI hi fun _=>tC (fun e2=>tI hi fun _=>tI (by simp;omega) fun _=>tS (.inl ⟨_,_,rfl,?_,by simp⟩)) fun e2=>tI hi fun _=>?_) ?_
 .have er:(x.2.2.getD i default).reached=false:=by simpa using e2
  refine zi5 hg hs hi ⟨rfl,rfl,.rfl' _⟩ (fun h=>by rw [er] at h;cases h) ?_;show g.toNat<pot _;unfold pot;rw [er];show g.toNat<256;omega
 .have er:(x.2.2.getD i default).reached=true:=by simpa using e2
  have sl:=x2.sl hsl i;rw [KJ (by omega)];refine tB (tS (Q:=fun b=>b=true->(x.2.2.getD i default).stack=stk) fun e=>of_decide_eq_true e) fun b hb=>tC (fun _=>tS (.inr ⟨_,rfl⟩)) fun e3=>tI hi fun _=>tI hi fun _=>tN (fun e4=>tI hi fun _=>tI hi fun _=>tI (by simp;omega) fun _=>tS (.inl ⟨_,_,rfl,?_,by simp⟩)) fun e4=>tS (.inl ⟨_,_,rfl,?_,by omega⟩)
  .have lw:=x2.low hlow i er
   refine zi5 (Nat.le_trans (zbx _ _) lw) hs hi ⟨er,hb (noB e3),.zoA _ _⟩ (fun _=>⟨hb (noB e3),.zoz _ _⟩) ?_;unfold pot;rw [er];simp only [if_true];exact zno _ _ (by omega)
  .refine zkI er (hb (noB e3)) ?_
   have:(x.2.2.getD i default).set &&& g=(x.2.2.getD i default).set:=UInt64.toNat_inj.1 (by omega);exact this
 .rintro o (⟨w',s',rfl,q1,q2⟩|⟨r,rfl⟩)
  .refine tI (by omega) fun _=>hF _ ⟨by simp only;omega,?_,by simp only;omega⟩ (by simp only;omega)
   simp only [st1];exact zi6 x2 q1
  .exact tS (.inr ⟨r,rfl⟩)
def bit (s:UInt64) (i:Nat):Bool:=(((Kq s i) &&& (1:UInt64)).toNat:Int)==1
theorem zoC {s:UInt64} {i:Nat} (h:((((Kq s i) &&& (1:UInt64)).toNat:Int)==(0:Int))=false):bit s i=true:=by
 have h1:=beq_eq_false_iff_ne.1 h;have h2:((Kq s i) &&& (1:UInt64)).toNat<=1:=by rw [UInt64.toNat_and];exact Nat.and_le_right
 exact beq_iff_eq.2 (by omega)
structure FinS (c:Code) (t:zq) (m:zk) (st:List State):Prop where
 inv:InvS c t m st []
 all:∀i,i<m.Code.length->(st.getD i default).reached=true
 bits:∀i,i<m.Code.length->(m.Code.getD i default).Op=2->bit (st.getD i default).set (m.Code.getD i default).A.toNat=true
theorem zi3:∀p,p<5->(QU (1:UInt64) p - (1:UInt64)).toNat<=255:=by decide +kernel
def st0 (m:zk):List State:=(List.replicate m.Code.length (⟨false,([]:List Int),(0:UInt64)⟩:State)).set 0 (⟨true,([]:List Int),QU (1:UInt64) m.Params.length - (1:UInt64)⟩:State)
theorem zkC (n i:Nat):(List.replicate n (⟨false,([]:List Int),(0:UInt64)⟩:State)).getD i default=⟨false,[],0⟩:=by
 by_cases h:i<n
 .simp [List.getD,h]
 .simp [List.getD,h];rfl
theorem zb7 (h:0<m.Code.length) (i:Nat):(st0 m).getD i default=if i=0 then ⟨true,[],QU (1:UInt64) m.Params.length - (1:UInt64)⟩ else ⟨false,[],0⟩:=by
 unfold st0;rw [J3 (by simpa using h),zkC]
theorem zmV (hC:Ctx c t m):InvS c t m (st0 m) [0]:=by
 have hp:=hC.ok.cl;have hl:(st0 m).length=m.Code.length:=by simp [st0]
 have hr:∀i,((st0 m).getD i default).reached=true->i=0:=fun i h=>by
  rw [zb7 hp] at h;split at h
  .assumption
  .cases h
 refine ⟨hl,fun a ha=>?_,fun i=>?_,fun i h=>?_,?_,fun i hi h hw=>?_⟩
 .exact ⟨0,List.mem_singleton.1 ha,by omega,by rw [zb7 hp,if_pos rfl]⟩
 .rw [zb7 hp];split<;>simp
 .rw [hr i h,zb7 hp,if_pos rfl]
  have:=hC.ok.p;exact zi3 _ (by omega)
 .rw [zb7 hp,if_pos rfl];exact ⟨rfl,rfl,.rfl' _⟩
 .exact absurd (by rw [hr i h];simp) hw
theorem ziQ:∀(l:List State),(∀s∈l,s.reached=true->s.set.toNat<=255)->pots l<=256*l.length
 | [],_=>by simp [pots]
 | a::r,h=>by
  have h1:=ziQ r (fun s hs=>h s (List.mem_cons_of_mem _ hs));have h2:pot a<=256:=by
   unfold pot;split
   .have:=h a (List.mem_cons_self ..) (by assumption);omega
   .omega
  simp [pots] at *;omega
theorem zhi (hC:Ctx c t m):Tot (xk K c t m) fun r=>r.1=true->FinS c t m r.2:=by
 have hp:=hC.ok.cl;have hl:=hC.len;have hI:=zmV hC;have hlen:(st0 m).length=m.Code.length:=hI.len;have hpot:=ziQ (st0 m) (fun s hs h=>by
  obtain ⟨i,hi,e⟩:=List.getElem_of_mem hs;have e2:(st0 m).getD i default=s:=by rw [gd hi,e]
  rw [<-e2] at h ⊢;exact hI.low i h)
 unfold xk;refine tI (by omega) fun _=>tI (by simpa using hp) fun _=>tI (by simpa using hp) fun _=>tB (P:=fun o=>(∃st,o=.inl st/\InvS c t m st [])\/∃r,o=.inr (false,r)) ?_ ?_
 .refine tK (fun x=>InvS c t m x.2 x.1/\x.1.length+2*pots x.2<=1600000) (fun x=>x.1.length+2*pots x.2) (fun F x hx hF=>?_) ⟨hI,by show 1+2*pots (st0 m)<=_;omega⟩ (by show 1+2*pots (st0 m)<_;omega)
  obtain ⟨hx,hb⟩:=hx;refine tD (fun e=>?_) fun e=>tS (.inl ⟨_,rfl,by rw [List.length_eq_zero_iff.1 (show x.1.length=0 by omega)] at hx;exact hx⟩);rw [W_id (by omega) (by omega)];have et:(((x.1.length:Nat):Int) - 1).toNat=x.1.length - 1:=by omega
  rw [et];have hne:x.1.length - 1<x.1.length:=by omega
  have hw:x.1=x.1.take (x.1.length - 1)++[x.1.getD (x.1.length - 1) default]:=by
   rw [gd hne,<-List.take_succ_eq_append_getElem hne,Nat.sub_add_cancel (by omega),List.take_length]
  obtain ⟨i,ei,hi,hir⟩:=hx.work _ (getD_mem hne);have hil:i<m.Code.length:=by rw [<-hx.len];exact hi
  rw [ei];simp only [Int.toNat_natCast];have hk:=hC.ok.i _ (getD_mem hil);refine tI (by omega) fun _=>tI hne fun _=>tI (by omega) fun _=>tI (by omega) fun _=>tI (by omega) fun _=>tI (by omega) fun _=>tI hi fun _=>tB (zlL hk (hC.callee i hil) (hx.stk i)) fun a ha=>tB (zoh hil (by omega) hk) fun s hs=>tC (fun _=>tS (.inr ⟨_,rfl⟩)) fun e2=>?_;have ha:=ha (noB (Bool.or_eq_false_iff.1 e2).1);obtain ⟨s1,s2,s3⟩:=hs (noB (Bool.or_eq_false_iff.1 e2).2);refine tB (P:=fun g=>g=genP m i (x.2.getD i default).set) (tE (fun e3=>tI (hk.loc (.inr e3)).1 fun _=>tS (by unfold genP;rw [if_pos e3])) fun e3=>tS (by unfold genP;rw [if_neg e3])) fun g hg=>?_;rw [ei] at hw;rw [hw] at hx;refine tB (zkk (b1:=s.1) (b2:=a.2) (tos:=s.2) (stk:=a.1) s1 (fun y hy=>by rw [hx.len];exact s2 y hy) (by rw [hg];exact zmg hC hil (hx.low i hir)) ha.l hx.stk (by rw [List.length_take];omega) hx.low) ?_;rintro o (⟨r,rfl,hr⟩|⟨r,rfl⟩)
  .have hp:=hr.pot
   have:x.1.length=(x.1.take (x.1.length - 1)).length+1:=by simp;omega
   exact hF _ ⟨zj6 hC hx hi hg ha ⟨s2,s3⟩ hr,by simp only;omega⟩ (by simp only;omega)
  .exact tS (.inr ⟨_,rfl⟩)
 .rintro o (⟨st,rfl,hst⟩|⟨r,rfl⟩)
  .have hsl:=hst.len
   refine tB (P:=fun o=>(o=.inl ()/\∀i,i<m.Code.length->(st.getD i default).reached=true/\((m.Code.getD i default).Op=2->bit (st.getD i default).set (m.Code.getD i default).A.toNat=true))\/∃r,o=.inr (false,r)) (tK (fun i=>i<=st.length/\∀j,j<i->(st.getD j default).reached=true/\((m.Code.getD j default).Op=2->bit (st.getD j default).set (m.Code.getD j default).A.toNat=true)) (fun i=>st.length - i) (fun F i hi hF=>?_) ⟨Nat.zero_le _,fun j hj=>by omega⟩ (by omega)) ?_
   .refine tD (fun e=>tI (by omega) fun _=>tI (by omega) fun _=>tI (by omega) fun _=>tB (P:=fun b=>b=false->(st.getD i default).reached=true/\((m.Code.getD i default).Op=2->bit (st.getD i default).set (m.Code.getD i default).A.toNat=true)) (orB noB (tB (P:=fun b=>b=false->((m.Code.getD i default).Op=2->bit (st.getD i default).set (m.Code.getD i default).A.toNat=true)) (tE (fun e2=>tI ((hC.ok.i _ (getD_mem (by omega))).loc (.inl e2)).1 fun _=>tS fun e3 _=>zoC e3) fun e2=>tS fun _ e3=>absurd e3 e2) fun b hb=>tS hb)) fun b hb=>tC (fun _=>tS (.inr ⟨_,rfl⟩)) fun e2=>tI (by omega) fun _=>hF _ ⟨by omega,fun j hj=>?_⟩ (by omega)) fun e=>tS (.inl ⟨rfl,fun j hj=>hi.2 j (by omega)⟩)
    by_cases e3:j=i
    .rw [e3];exact hb e2
    .exact hi.2 j (by omega)
   .rintro o (⟨rfl,h⟩|⟨r,rfl⟩)
    .exact tS fun _=>⟨hst,fun i hi=>(h i hi).1,fun i hi=>(h i hi).2⟩
    .exact tS fun e=>by cases e
  .exact tS fun e=>by cases e
end
structure Ver (c:Code):Prop where
 ok:okC c
 an:∀t∈c.Types,∀m∈t.Methods,∃st,xk K c t m=some (true,st)/\FinS c t m st
theorem zk4 {c:Code} (h:okC c) {t:zq} (ht:t∈c.Types) {m:zk} (hm:m∈t.Methods):Ctx c t m:=by
 obtain ⟨h1,h2⟩:=h.m t ht m hm;refine ⟨h1,h2,fun i hi e=>?_⟩;have:=(h1.i _ (getD_mem hi)).call e;exact (h.m _ (getD_mem (l:=c.Types) (by omega)) _ (getD_mem (by omega))).1.p
theorem zjv {c:Code} (hs:szC c):Tot (vC K c) fun r=>r=0->Ver c:=by
 have h8:=hs.l;unfold vC;refine tB (zb0 hs) fun b hb=>tC (fun _=>tS fun e=>by cases e) fun e=>?_;have ok:=hb (noB e);refine tB (P:=fun o=>(o=.inl ()/\∀t∈c.Types,∀m∈t.Methods,∃st,xk K c t m=some (true,st)/\FinS c t m st)\/o=.inr 16) (tK (fun x=>x<=c.Types.length/\∀i,i<x->∀m∈(c.Types.getD i default).Methods,∃st,xk K c (c.Types.getD i default) m=some (true,st)/\FinS c (c.Types.getD i default) m st) (fun x=>c.Types.length - x) (fun F x hx hF=>?_) ⟨Nat.zero_le _,fun i hi=>by omega⟩ (by omega)) ?_
 .obtain ⟨x2,x3⟩:=hx
  refine tD (fun e=>tI (by omega) fun _=>?_) fun e=>tS (.inl ⟨rfl,QD (P:=fun t:zq=>∀m∈t.Methods,∃st,xk K c t m=some (true,st)/\FinS c t m st) fun i hi=>x3 i (by omega)⟩);have htm:=getD_mem (l:=c.Types) (i:=x) (by omega);have hm:=(hs.t _ htm).m;refine tB (P:=fun o=>(o=.inl ()/\∀m∈(c.Types.getD x default).Methods,∃st,xk K c (c.Types.getD x default) m=some (true,st)/\FinS c (c.Types.getD x default) m st)\/o=.inr (.inr 16)) (tK (fun y=>y<=(c.Types.getD x default).Methods.length/\∀i,i<y->∃st,xk K c (c.Types.getD x default) ((c.Types.getD x default).Methods.getD i default)=some (true,st)/\FinS c (c.Types.getD x default) ((c.Types.getD x default).Methods.getD i default) st) (fun y=>(c.Types.getD x default).Methods.length - y) (fun G y hy hG=>?_) ⟨Nat.zero_le _,fun i hi=>by omega⟩ (by omega)) ?_
  .refine tD (fun e=>tI (by omega) fun _=>?_) fun e=>tS (.inl ⟨rfl,QD (P:=fun m:zk=>∃st,xk K c (c.Types.getD x default) m=some (true,st)/\FinS c (c.Types.getD x default) m st) fun i hi=>hy.2 i (by omega)⟩)
   obtain ⟨⟨b,st⟩,r1,r2⟩:=zhi (zk4 ok htm (getD_mem (l:=(c.Types.getD x default).Methods) (i:=y) (by omega)));rw [r1,zu];refine tC (fun _=>tS (.inr rfl)) fun e2=>tI (by omega) fun _=>hG _ ⟨by omega,fun i hi=>?_⟩ (by omega)
   by_cases e3:i=y
   .rw [e3]
    have:b=true:=noB e2;subst this;exact ⟨st,r1,r2 rfl⟩
   .exact hy.2 i (by omega)
  .rintro o (⟨rfl,h⟩|rfl)
   .refine tI (by omega) fun _=>hF _ ⟨by omega,fun i hi=>?_⟩ (by omega)
    by_cases e3:i=x
    .rw [e3];exact h
    .exact x3 i (by omega)
   .exact tS (.inr rfl)
 .rintro o (⟨rfl,h⟩|rfl)
  .exact tS fun _=>⟨ok,h⟩
  .exact tS fun e=>by cases e
end Md
end Go.Proofs.YtbijabmjbgplbaaGreatDoor
namespace Go.Proofs.YtbijabmjbgplbaaGreatDoor
namespace Md
section
variable {p:Program} {ns:List Node} {b:Body} {c:List Instr}
def Vl (c:List Instr) (a z:Nat):Prop:=a<=z/\∀j,a<=j->j<z->∃x,c[j]?=some x/\okV x.Value
theorem Vl.nil {a:Nat}:Vl c a a:=⟨Nat.le_refl _,fun j h1 h2=>by omega⟩
theorem Vl.app {a y z:Nat} (h:Vl c a y) (k:Vl c y z):Vl c a z:=⟨Nat.le_trans h.1 k.1,fun j h1 h2=>by
 by_cases e:j<y
 .exact h.2 j h1 e
 .exact k.2 j (by omega) h2⟩
theorem Vl.one {a z:Nat} {x:Instr} (h:Vl c a z) (k:c[z]?=some x) (v:okV x.Value):Vl c a (z+1):=h.app ⟨by omega,fun j h1 h2=>⟨x,by rw [show j=z by omega];exact k,v⟩⟩
theorem CL.vl {l:List Int} (h:∀k∈l,∀a z,CE p ns b c k a z->Vl c a z):∀{a z:Nat},CL p ns b c l a z->Vl c a z:=by
 induction l with
 | nil=>intro a z t;cases t;exact .nil
 | cons k l ih=>intro a z t;cases t with|cons h1 t=>exact (h k (List.mem_cons_self ..) _ _ h1).app (ih (fun k hk=>h k (List.mem_cons_of_mem _ hk)) t)
theorem Vq {i:Int} {j:Nat} (h:j<(nd ns i).Kids.length):kd ns i j∈(nd ns i).Kids:=getD_mem h
theorem CE.vl (h:VN ns):∀(N:Nat) (i:Int),i.toNat<N->0<=i->i<(ns.length:Int)->∀a z,CE p ns b c i a z->Vl c a z:=by
 intro N
 induction N with
 | zero=>intro i h;omega
 | succ N ih =>
  intro i hN h0 h1 a z hc;have hv:okV (nd ns i).Value:=(h.k _ (getD_mem (l:=ns) (i:=i.toNat) (by omega))).v;have ko:KO ns (nd ns i):=h.b.ko i.toNat (by omega);have ho:opAt ns i=(nd ns i).Op:=rfl;have hk:∀k∈(nd ns i).Kids,∀a z,CE p ns b c k a z->Vl c a z:=fun k hk=>by
   have:=h.kid h0 h1 hk;exact ih k (by omega) this.1 (by omega)
  have ok1:okV ⟨2,1,[],[],[]⟩:=zce ⟨by omega,by omega⟩ ⟨by omega,by omega⟩;have ok0:okV ⟨2,0,[],[],[]⟩:=zce ⟨by omega,by omega⟩ i0;cases hc with
  | const o h=>exact Vl.nil.one h hv
  | var o h=>exact Vl.nil.one h WY
  | self o h=>exact Vl.nil.one h WY
  | un o k h=>exact (CL.vl hk k).one h WY
  | and o n k h l j q =>
   have l2:(nd ns i).Kids.length=2:=by cases ko<;>omega
   exact ((((hk _ (Vq (by omega)) _ _ k).one h WY).app (hk _ (Vq (by omega)) _ _ l)).one j WY).one q ok0
  | or o n k h q j l =>
   have l2:(nd ns i).Kids.length=2:=by cases ko<;>omega
   exact ((((hk _ (Vq (by omega)) _ _ k).one h WY).one q ok1).one j WY).app (hk _ (Vq (by omega)) _ _ l)
  | bin o n k h=>exact (CL.vl hk k).one h WY
  | app o n k h=>exact (CL.vl hk k).one h WY
  | call o k h=>exact (CL.vl hk k).one h WY
  | asg o k h=>exact (CL.vl hk k).one h WY
  | drop o k n h=>exact (CL.vl hk k).one h WY
  | do_ o k n=>exact CL.vl hk k
  | if2 o n k h l=>exact ((hk _ (Vq (by omega)) _ _ k).one h WY).app (hk _ (Vq (by omega)) _ _ l)
  | ifE o n k h l e m =>
   have l3:(nd ns i).Kids.length=3:=by cases ko<;>omega
   exact (((hk _ (Vq (by omega)) _ _ k).one h WY).app (hk _ (Vq (by omega)) _ _ l)).app (hk _ (Vq (by omega)) _ _ m)
  | if3 o n k h l j m =>
   have l3:(nd ns i).Kids.length=3:=by cases ko<;>omega
   exact ((((hk _ (Vq (by omega)) _ _ k).one h WY).app (hk _ (Vq (by omega)) _ _ l)).one j WY).app (hk _ (Vq (by omega)) _ _ m)
  | whE o k h l e =>
   have l2:2<=(nd ns i).Kids.length:=by cases ko<;>omega
   exact ((hk _ (Vq (by omega)) _ _ k).one h WY).app (hk _ (Vq (by omega)) _ _ l)
  | wh o k h l j =>
   have l2:2<=(nd ns i).Kids.length:=by cases ko<;>omega
   exact (((hk _ (Vq (by omega)) _ _ k).one h WY).app (hk _ (Vq (by omega)) _ _ l)).one j WY
  | ret o k h=>exact (CL.vl hk k).one h WY
  | fail o k h=>exact (CL.vl hk k).one h WY
  | eff o k h=>exact (CL.vl hk k).one h WY
  | blk o k=>exact CL.vl hk k
end
structure MC (p:Program) (m:Method) (b:Body) (cm:zk):Prop where
 n:cm.Name=m.Name
 r:cm.Result=m.Result
 pk:cm.Params=m.Params.map Param.Kind
 lk:cm.zK=b.locals.map Param.Kind
 s:szM cm
 c:∃z,CE p m.Nodes b cm.Code ((m.Nodes.length:Int) - 1) 0 z/\((cm.Code.length=z/\EN m.Nodes ((m.Nodes.length:Int) - 1))\/(cm.Code[z]?=some (mkI 32 0 0)/\cm.Code.length=z+1))
def cmOf (r:List UInt8×Int×List Int×List Int×List Instr):zk:=⟨r.1,r.2.2.1,r.2.1,r.2.2.2.1,r.2.2.2.2⟩
theorem zbo {α β:Type} [Inhabited α] {f:α->β} {l:List α} {i:Nat} (h:i<l.length):(l.take (i+1)).map f=(l.take i).map f++[f (l.getD i default)]:=by
 rw [List.take_succ_eq_append_getElem h,List.map_append,gd h];rfl
theorem zbA {p:Program} {x:Info} (hp:IOw p x) {i j:Int} (hi:0<=i/\i<(p.Types.length:Int)) (hj:0<=j/\j<((p.Types.getD i.toNat default).Methods.length:Int)):Tot (jT K p x i j) fun r=>MC p ((p.Types.getD i.toNat default).Methods.getD j.toNat default) ((x.bodies.getD i.toNat default).getD j.toNat default) (cmOf r):=by
 have hi':i.toNat<p.Types.length:=by omega
 have hj':j.toNat<(p.Types.getD i.toNat default).Methods.length:=by omega
 have ht:=hp.v.t _ (getD_mem hi');have hm:=ht.b _ (getD_mem hj');obtain ⟨hb1,hb2⟩:=hp.m _ hi';have hb:=hb2 _ hj';have hxl:=hp.l;have h16:=ht.m;have hb':vI K x i j=some ((x.bodies.getD i.toNat default).getD j.toNat default,true):=zk2 ⟨by omega,by omega⟩ ⟨by omega,by omega⟩;unfold jT;refine tI (by omega) fun _=>tI (by omega) fun _=>?_;unfold Z8;generalize hme:(p.Types.getD i.toNat default).Methods.getD j.toNat default=me at *;generalize hbe:(x.bodies.getD i.toNat default).getD j.toNat default=bo at *;have hp4:=hm.p;have hl8:=hb.l;refine tB (tK (fun y=>y.1<=me.Params.length/\y.2.1=me.Name/\y.2.2.1=me.Result/\y.2.2.2=(me.Params.take y.1).map Param.Kind) (fun y=>me.Params.length - y.1) (Q:=fun r=>r.1=me.Name/\r.2.1=me.Result/\r.2.2=me.Params.map Param.Kind) (fun F y hy hF=>?_) ⟨Nat.zero_le _,rfl,rfl,rfl⟩ (by simp only;omega)) fun r1 hr1=>?_
 .obtain ⟨y1,y2,y3,y4⟩:=hy
  refine tD (fun e=>?_) fun e=>tS ⟨y2,y3,by rw [y4,List.take_of_length_le (by omega)]⟩;exact tI (by omega) fun _=>tI (by rw [y4];simp;omega) fun _=>tI (by omega) fun _=>hF _ ⟨by simp only;omega,y2,y3,by simp only;rw [y4,zbo (by omega)]⟩ (by simp only;omega)
 unfold Zu;rw [hb',zu];simp only;rw [zy (by omega),zu];refine tB (tK (fun y=>y.1<=bo.locals.length/\y.2.1=me.Name/\y.2.2.1=me.Result/\y.2.2.2=(bo.locals.take y.1).map Param.Kind) (fun y=>bo.locals.length - y.1) (Q:=fun r=>r.1=me.Name/\r.2.1=me.Result/\r.2.2=bo.locals.map Param.Kind) (fun F y hy hF=>?_) ⟨Nat.zero_le _,hr1.1,hr1.2.1,rfl⟩ (by simp only;omega)) fun r2 hr2=>?_
 .obtain ⟨y1,y2,y3,y4⟩:=hy
  refine tD (fun e=>?_) fun e=>tS ⟨y2,y3,by rw [y4,List.take_of_length_le (by omega)]⟩;exact tI (by omega) fun _=>tI (by omega) fun _=>tI (by rw [y4];simp;omega) fun _=>tI (by omega) fun _=>hF _ ⟨by simp only;omega,y2,y3,by simp only;rw [y4,zbo (by omega)]⟩ (by simp only;omega)
 have hlen:=hm.b.len;have hl15:=hm.l;have vn:VN me.Nodes:=⟨hm.b,hm.ok.k,hm.l⟩;have cx:CX p me.Nodes bo ⟨⟨p.Types⟩,x,i,j,me.Nodes⟩:=⟨hp.v,vn,rfl,rfl,hb'⟩;obtain ⟨sz,hsz⟩:=hm.b.sz;rw [W_id (by omega) (by omega)];have hr:=(hsz (me.Nodes.length - 1) (by omega)).2;rw [show ((me.Nodes.length - 1:Nat):Int)=(me.Nodes.length:Int) - 1 by omega] at hr;refine tB (znY (D:=DK bo.kinds) cx hsz (me.Nodes.length+1) ((me.Nodes.length:Int) - 1) (by omega) (by omega) (by omega) hb.t K (by show _<=5000000;omega) [] (by simp only [List.length_nil];omega)) fun r3 hr3=>?_;obtain ⟨q1,q2,q3⟩:=hr3;simp only [List.length_nil] at q2 q3;have ce:=q3.r;simp only [List.length_nil] at ce;refine tB (P:=fun r=>(r.2=r3.2/\EN me.Nodes ((me.Nodes.length:Int) - 1))\/r.2=r3.2++[mkI 32 0 0]) ?_ fun r4 hr4=>tS ?_
 .refine tB (zeJ (A:=⟨⟨p.Types⟩,x,i,j,me.Nodes⟩) cx (by show (me.Nodes.length:Int) - 1<_;omega)) fun e he=>tC (fun _=>?_) fun e2=>tS (.inl ⟨rfl,he (noB e2)⟩)
  rw [XK (by omega),zu];exact tS (.inr rfl)
 .have CE1:∀c',(∀j,j<r3.2.length->c'[j]?=r3.2[j]?)->CE p me.Nodes bo c' ((me.Nodes.length:Int) - 1) 0 r3.2.length:=fun c' h=>ce c' fun j _ hj=>h j hj
  have vl:∀c',CE p me.Nodes bo c' ((me.Nodes.length:Int) - 1) 0 r3.2.length->∀y,∀j:Nat,j<r3.2.length->c'[j]?=some y->okV y.Value:=fun c' h y j hj hy=>by
   obtain ⟨z,hz,hv⟩:=(CE.vl vn _ _ (Nat.lt_succ_self _) (by omega) (by omega) _ _ h).2 j (Nat.zero_le _) hj;rw [hz] at hy;rw [<-Option.some.inj hy];exact hv
  have base:∀cd:List Instr,cd.length<=100000->(∀y∈cd,okV y.Value)->(∃z,CE p me.Nodes bo cd ((me.Nodes.length:Int) - 1) 0 z/\((cd.length=z/\EN me.Nodes ((me.Nodes.length:Int) - 1))\/(cd[z]?=some (mkI 32 0 0)/\cd.length=z+1)))->cd=r4.2->MC p me bo (cmOf (r2.1,r2.2.1,r1.2.2,r2.2.2,r4.2)):=fun cd h1 h2 h3 h4=>by
   subst h4;refine ⟨hr2.1,hr2.2.1,hr1.2.2,hr2.2.2,⟨?_,?_,?_,h1,h2⟩,h3⟩
   .show r2.1.length<=6000
    rw [hr2.1];exact hm.ok.n
   .show r1.2.2.length<=4
    rw [hr1.2.2];simpa using hp4
   .show r2.2.2.length<=8
    rw [hr2.2.2];simpa using hl8
  rcases hr4 with ⟨e1,e2⟩|e1
  .have k:=CE1 r3.2 fun _ _=>rfl
   exact base r3.2 (by omega) (fun y hy=>by
    obtain ⟨j,hj,rfl⟩:=List.getElem_of_mem hy;exact vl _ k _ j hj (List.getElem?_eq_getElem hj)) ⟨_,k,.inl ⟨rfl,e2⟩⟩ e1.symm
  .have k:=CE1 (r3.2++[mkI 32 0 0]) fun j hj=>List.getElem?_append_left hj
   exact base (r3.2++[mkI 32 0 0]) (by simp;omega) (fun y hy=>by
    rcases List.mem_append.1 hy with hy|hy
    .obtain ⟨j,hj,rfl⟩:=List.getElem_of_mem hy
     exact vl _ k _ j hj (by rw [List.getElem?_append_left hj];exact List.getElem?_eq_getElem hj)
    .rw [List.mem_singleton.1 hy];exact WY) ⟨_,k,.inr ⟨by simp,by simp⟩⟩ e1.symm
structure CP (p:Program) (x:Info) (c:Code):Prop where
 l:c.Types.length=p.Types.length
 t:∀i,i<p.Types.length->(c.Types.getD i default).Name=(p.Types.getD i default).Name/\(c.Types.getD i default).Fields=(p.Types.getD i default).Fields/\(c.Types.getD i default).Methods.length=(p.Types.getD i default).Methods.length/\∀j,j<(p.Types.getD i default).Methods.length->MC p ((p.Types.getD i default).Methods.getD j default) ((x.bodies.getD i default).getD j default) ((c.Types.getD i default).Methods.getD j default)
theorem CP.sz {p:Program} {x:Info} {c:Code} (h:CP p x c) (hp:VP p):szC c:=by
 refine ⟨by rw [h.l];exact hp.l,QD (P:=szT) fun i hi=>?_⟩;rw [h.l] at hi;obtain ⟨h1,h2,h3,h4⟩:=h.t i hi;have ht:=hp.t _ (getD_mem hi);exact ⟨by rw [h1];exact ht.ok.n,by rw [h2];exact ht.f,fun f hf=>by rw [h2] at hf;exact ⟨(ht.ok.f f hf).n,(ht.ok.f f hf).i⟩,by rw [h3];exact ht.m,QD (P:=szM) fun j hj=>(h4 j (by omega)).s⟩
structure zkW (p:Program) (x:Info) (c:Code):Prop where
 an:∃l,YK K p=some (.inr (x,l,0))
 io:IOw p x
 cp:CP p x c
 sz:szC c
 vr:vC K c=some 0
 ver:Ver c
theorem zg0 {p:Program} (h:okPr p):Tot (ZI K p) fun r=>r.2.2=0->∃x,zkW p x r.1:=by
 unfold ZI;obtain ⟨o,ho,hr⟩:=zgY h;rw [ho,zu];rcases hr with ⟨r,rfl,hr⟩|⟨x,l,rfl,hx⟩
 .show Tot (bif (r.2 != (0:Int)) then _ else _) _
  exact tN (fun e=>tS fun e2=>absurd e2 e) fun e=>absurd e hr
 show Tot (Option.bind _ _) _;have h8:=hx.v.l;refine tB (P:=fun ts=>CP p x ⟨ts⟩) (tK (fun y=>y.1<=p.Types.length/\y.2.length=y.1/\∀i,i<y.2.length->(y.2.getD i default).Name=(p.Types.getD i default).Name/\(y.2.getD i default).Fields=(p.Types.getD i default).Fields/\(y.2.getD i default).Methods.length=(p.Types.getD i default).Methods.length/\∀j,j<(p.Types.getD i default).Methods.length->MC p ((p.Types.getD i default).Methods.getD j default) ((x.bodies.getD i default).getD j default) ((y.2.getD i default).Methods.getD j default)) (fun y=>p.Types.length - y.1) (fun F y hy hF=>?_) ⟨Nat.zero_le _,rfl,fun i hi=>by simp at hi⟩ (by simp only;omega)) fun ts hts=>?_
 .obtain ⟨y1,y2,y3⟩:=hy
  refine tD (fun e=>tI (by omega) fun _=>?_) fun e=>tS ⟨by simp only;omega,fun i hi=>y3 i (by omega)⟩;have ht:=hx.v.t _ (getD_mem (l:=p.Types) (i:=y.1) (by omega));have hf:=ht.f;have hm:=ht.m;refine tB (P:=fun r=>r.1=(p.Types.getD y.1 default).Name/\r.2=(p.Types.getD y.1 default).Fields) (tK (fun z=>z.1<=(p.Types.getD y.1 default).Fields.length/\z.2.1=(p.Types.getD y.1 default).Name/\z.2.2=(p.Types.getD y.1 default).Fields.take z.1) (fun z=>(p.Types.getD y.1 default).Fields.length - z.1) (fun G z hz hG=>?_) ⟨Nat.zero_le _,rfl,rfl⟩ (by simp only;omega)) fun r1 hr1=>tB (P:=fun r=>r.1=(p.Types.getD y.1 default).Name/\r.2.length=(p.Types.getD y.1 default).Methods.length/\∀j,j<r.2.length->MC p ((p.Types.getD y.1 default).Methods.getD j default) ((x.bodies.getD y.1 default).getD j default) (r.2.getD j default)) (tK (fun z=>z.1<=(p.Types.getD y.1 default).Methods.length/\z.2.1=(p.Types.getD y.1 default).Name/\z.2.2.length=z.1/\∀j,j<z.2.2.length->MC p ((p.Types.getD y.1 default).Methods.getD j default) ((x.bodies.getD y.1 default).getD j default) (z.2.2.getD j default)) (fun z=>(p.Types.getD y.1 default).Methods.length - z.1) (fun G z hz hG=>?_) ⟨Nat.zero_le _,hr1.1,rfl,fun j hj=>by simp at hj⟩ (by simp only;omega)) fun r2 hr2=>tI (by simp;omega) fun _=>tI (by omega) fun _=>hF _ ⟨by simp only;omega,by simp [y2],?_⟩ (by simp only;omega)
  .obtain ⟨z1,z2,z3⟩:=hz
   refine tD (fun e=>?_) fun e=>tS ⟨z2,by rw [z3,List.take_of_length_le (by omega)]⟩;have e1:z.1<(p.Types.getD y.1 default).Fields.length:=by omega
   have hf1:=(ht.ok.f _ (getD_mem e1)).i;have:=hf1.i;have:=hf1.l;exact tI e1 fun _=>tI (by omega) fun _=>tI (by omega) fun _=>tI (by rw [z3];simp;omega) fun _=>tI (by omega) fun _=>hG _ ⟨by simp only;omega,z2,by simp only;rw [z3,gd e1,<-List.take_succ_eq_append_getElem e1]⟩ (by simp only;omega)
  .obtain ⟨z1,z2,z3,z4⟩:=hz
   refine tD (fun e=>?_) fun e=>tS ⟨z2,by simp only;omega,z4⟩;refine tB (zbA hx (i:=(y.1:Int)) (j:=(z.1:Int)) (by omega) ⟨by omega,by show (z.1:Int)<((p.Types.getD y.1 default).Methods.length:Int);omega⟩) fun r hr=>tI (by simp;omega) fun _=>tI (by omega) fun _=>hG _ ⟨by simp only;omega,z2,by simp [z3],?_⟩ (by simp only;omega);simp only [List.length_append,List.length_singleton];exact zbk (P:=fun j cm=>MC p ((p.Types.getD y.1 default).Methods.getD j default) ((x.bodies.getD y.1 default).getD j default) cm) z4 (by rw [z3];exact hr)
  .simp only [List.length_append,List.length_singleton]
   exact zbk (P:=fun i (t:zq)=>t.Name=(p.Types.getD i default).Name/\t.Fields=(p.Types.getD i default).Fields/\t.Methods.length=(p.Types.getD i default).Methods.length/\∀j,j<(p.Types.getD i default).Methods.length->MC p ((p.Types.getD i default).Methods.getD j default) ((x.bodies.getD i default).getD j default) (t.Methods.getD j default)) y3 (by rw [y2];exact ⟨hr2.1,hr1.2,hr2.2.1,fun j hj=>hr2.2.2 j (by omega)⟩)
 .have sz:=hts.sz hx.v
  obtain ⟨r,hr1,hr2⟩:=zjv sz;rw [hr1,zu];refine tN (fun _=>tS fun e=>by cases e) fun e=>tS fun _=>⟨x,⟨l,ho⟩,hx,hts,sz,by rw [<-e];exact hr1,hr2 e⟩
end Md
end Go.Proofs.YtbijabmjbgplbaaGreatDoor
namespace Go.Proofs.YtbijabmjbgplbaaGreatDoor
open Go
namespace Md
structure Vi (v:Value):Prop where
 vv:VV v
 n:I64 v.N
 i:∀x∈v.I,I64 x
def TV (k:Int) (v:Value):Prop:=v.Kind=k/\Vi v
def cpOk (v:Value):Prop:=v.I.length<=4000000/\v.L.length<=4000000
theorem zbB:cpOk vz:=⟨by decide,by decide⟩
theorem VV.cp {v:Value} (h:VV v):cpOk v:=⟨by have:=h.il;omega,by have:=h.ll;omega⟩
theorem Yo {v:Value} (h:cpOk v):qp K v=some (v.Kind,v.N,v.S,v.I,v.L):=by
 unfold qp;rw [zy h.1,zy h.2]
theorem zdj {α:Type} [Inhabited α] {l:List α} {i:Nat} (h:i<l.length):l.set i (l.getD i default)=l:=by
 rw [gd h,List.set_getElem_self]
theorem zal {l:List Value} (hl:l.length<=4000000) (h:∀v∈l,cpOk v):Xe K l=some l:=by
 have:Tot (Xe K l) fun r=>r=l:=by
  unfold Xe;refine tI hl fun _=>tB (P:=fun r=>r=l) (tK (fun x=>x.1<=l.length/\x.2=l) (fun x=>l.length - x.1) (fun F x hx hF=>?_) ⟨Nat.zero_le _,rfl⟩ (by simp only;omega)) fun r hr=>tS hr;obtain ⟨x1,x2⟩:=hx;rw [x2];refine tD (fun e=>?_) fun _=>tS rfl;have e1:x.1<l.length:=by omega
  refine tI e1 fun _=>tI e1 fun _=>?_;rw [Yo (h _ (getD_mem e1)),zu];exact tI e1 fun _=>tI e1 fun _=>tI (by omega) fun _=>hF _ ⟨by simp only;omega,zdj e1⟩ (by simp only;omega)
 obtain ⟨r,e,rfl⟩:=this;exact e
theorem zhJ {l:List Value} (hl:l.length<=4000000) (h:∀v∈l,cpOk v):JV K l=some l:=zal hl h
theorem Qk {l:List Value} (hl:l.length<=4000000) (h:∀v∈l,cpOk v):yM K l=some l:=by
 have:Tot (yM K l) fun r=>r=l:=by
  unfold yM;refine tI hl fun _=>tB (P:=fun r=>r=l) (tK (fun x=>x.1<=l.length/\x.2=l) (fun x=>l.length - x.1) (fun F x hx hF=>?_) ⟨Nat.zero_le _,rfl⟩ (by simp only;omega)) fun r hr=>tS hr;obtain ⟨x1,x2⟩:=hx;rw [x2];refine tD (fun e=>?_) fun _=>tS rfl;have e1:x.1<l.length:=by omega
  have hc:=h _ (getD_mem e1);rw [zdj e1];exact tI e1 fun _=>tI e1 fun _=>tI hc.1 fun _=>tI e1 fun _=>tI e1 fun _=>tI hc.2 fun _=>tI e1 fun _=>tI e1 fun _=>tI e1 fun _=>tI e1 fun _=>tI (by omega) fun _=>hF _ ⟨by simp only;omega,zdj e1⟩ (by simp only;omega)
 obtain ⟨r,e,rfl⟩:=this;exact e
theorem zfM {v:Value} {k:Int}:Tot (zab K v k) fun b=>b=true↔(v.Kind=k/\VV v):=by
 unfold zab;exact tB (P:=fun b=>b=true↔(v.Kind=k/\VV v)) (tE (fun e=>tB (Ur v) fun b hb=>tS ⟨fun h=>⟨e,hb.1 h⟩,fun h=>hb.2 h.2⟩) fun e=>tS ⟨fun h=>(by cases h),fun h=>absurd h.1 e⟩) fun b hb=>tS hb
def FitL (l:List Value) (ks:List Int):Prop:=l.length=ks.length/\∀i,i<l.length->(l.getD i default).Kind=ks.getD i default/\VV (l.getD i default)
theorem zcG {l:List Value} {ks:List Int} (hl:ks.length<5000000):Tot (V9 K l ks) fun b=>b=true↔FitL l ks:=by
 unfold V9 xP;refine tB (P:=fun b=>b=true↔FitL l ks) (tN (fun e=>tS ⟨fun h=>(by cases h),fun h=>absurd (by rw [h.1]) e⟩) fun e=>?_) fun b hb=>tS hb;refine tB (P:=fun o=>(o=.inl ()/\∀i,i<l.length->(l.getD i default).Kind=ks.getD i default/\VV (l.getD i default))\/(o=.inr false/\¬FitL l ks)) (tK (fun i=>i<=l.length/\∀j,j<i->(l.getD j default).Kind=ks.getD j default/\VV (l.getD j default)) (fun i=>l.length - i) (fun F i hi hF=>?_) ⟨Nat.zero_le _,fun j hj=>by omega⟩ (by omega)) ?_
 .refine tD (fun e2=>tI (by omega) fun _=>tI (by omega) fun _=>tB zfM fun b hb=>tC (fun e3=>tS (.inr ⟨rfl,fun h=>?_⟩)) fun e3=>tI (by omega) fun _=>hF _ ⟨by omega,fun j hj=>?_⟩ (by omega)) fun e2=>tS (.inl ⟨rfl,fun j hj=>hi.2 j (by omega)⟩)
  .rw [hb.2 (h.2 i (by omega))] at e3;cases e3
  .by_cases e4:j=i
   .rw [e4];exact hb.1 (noB e3)
   .exact hi.2 j (by omega)
 .rintro o (⟨rfl,h⟩|⟨rfl,h⟩)
  .exact tS ⟨fun _=>⟨by omega,h⟩,fun _=>rfl⟩
  .exact tS ⟨fun h=>(by cases h),fun k=>absurd k h⟩
theorem zgl {n:Int} (h:I64 n):TV 1 ⟨1,n,[],[],[]⟩:=⟨rfl,⟨⟨by simp only;omega,.inr (.inl rfl),.inl rfl,.inl rfl,.inl rfl,by simp,by simp,by simp,by simp⟩,h,by simp⟩⟩
theorem zgm {s:List UInt8} (h:s.length<=64):TV 3 ⟨3,0,s,[],[]⟩:=⟨rfl,⟨⟨by simp only;omega,.inl rfl,.inr rfl,.inl rfl,.inl rfl,h,by simp,by simp,by simp⟩,i0,by simp⟩⟩
theorem zjb {n:Int} (h:n=0\/n=1):TV 2 ⟨2,n,[],[],[]⟩:=⟨rfl,⟨⟨by simp only;omega,by rcases h with rfl|rfl<;>simp,.inl rfl,.inl rfl,.inl rfl,by simp,by simp,by simp,by simp⟩,by rcases h with rfl|rfl<;>exact ⟨by decide,by decide⟩,by simp⟩⟩
theorem VJ {b:Bool}:Tot (ZQ K b) fun r=>TV 2 r:=by
 unfold ZQ;exact tC (fun _=>tS (zjb (.inr rfl))) fun _=>tS (zjb (.inl rfl))
theorem zok {x y:Int} (hx:I64 x):I64 (x.tmod y):=by
 have h1:(x.tmod y).natAbs<=x.natAbs:=by rw [Int.natAbs_tmod];exact Nat.mod_le _ _
 have h2:0<=x->0<=x.tmod y:=fun h=>Int.tmod_nonneg y h;have h3:x<=0->x.tmod y<=0:=fun h=>by
  have:=Int.tmod_nonneg y (show 0<=-x by omega);rw [Int.neg_tmod] at this;omega
 unfold I64 at *
 by_cases h:0<=x
 .have:=h2 h;omega
 .have:=h3 (by omega);omega
theorem zgZ {op:List UInt8} {x y:Int} (hx:I64 x):Tot (XZ K op x y) fun r=>I64 r.1:=by
 unfold XZ;refine tB (P:=fun o=>o=.inl ()\/∃r,o=.inr r/\I64 r.1) ?_ ?_
 .have no:Tot (some (Sum.inl ()):Option (Unit ⊕ (Int×Int))) fun o=>o=.inl ()\/∃r,o=.inr r/\I64 r.1:=tS (.inl rfl)
  have ok:∀{n e:Int},I64 n->Tot (some (Sum.inr (n,e)):Option (Unit ⊕ (Int×Int))) fun o=>o=.inl ()\/∃r,o=.inr r/\I64 r.1:=fun h=>tS (.inr ⟨_,rfl,h⟩);refine tC (fun _=>tC (fun _=>ok (W_i _)) fun _=>no) fun _=>tC (fun _=>tC (fun _=>ok (W_i _)) fun _=>no) fun _=>tC (fun _=>tC (fun _=>ok i0) fun e=>tI (fun h=>?_) fun _=>tC (fun _=>ok (W_i _)) fun _=>no) fun _=>tC (fun _=>tE (fun _=>ok i0) fun e=>tC (fun _=>tI e fun _=>ok (W_i _)) fun _=>no) fun _=>tC (fun _=>tE (fun _=>ok i0) fun e=>tI e fun _=>ok (zok hx)) fun _=>no;rw [h] at e;simp at e
 .rintro o (rfl|⟨r,rfl,hr⟩)
  .exact tS i0
  .exact tS hr
theorem zeu {nm:List UInt8} {x:Value} (hx:Vi x):Tot (WM K nm x) fun r=>(nm=[33]->TV 2 r.1)/\(nm≠[33]->TV 1 r.1):=by
 unfold WM;exact tD (fun e=>tB VJ fun b hb=>tS ⟨fun _=>hb,fun h=>absurd e h⟩) fun e=>tB (zgZ i0) fun r hr=>tB (tS (Q:=fun v=>TV 1 v) (zgl hr)) fun v hv=>tS ⟨fun h=>absurd h e,fun _=>hv⟩
def resB (nm:List UInt8) (k:Int):Int:=if nm∈[[61,61],[33,61],[60],[60,61],[62],[62,61]] then 2 else if nm=[43]/\k=3 then 3 else 1
theorem zfs {nm:List UInt8} {x y:Value} (hx:Vi x) (hy:Vi y):Tot (W9 K nm x y) fun r=>r.2=0->TV (resB nm x.Kind) r.1:=by
 have cm:∀{s:List UInt8} {v:Value},nm=s->s∈[[61,61],[33,61],[60],[60,61],[62],[62,61]]->TV 2 v->TV (resB nm x.Kind) v:=fun {s v} e h k=>by
  unfold resB;rw [e,if_pos h];exact k
 have le:∀{a b:Value},Tot (zac K a b) fun _=>True:=by
  intro a b;unfold zac;exact tC (fun _=>tS trivial) fun _=>tS trivial
 unfold W9;have hs1:=hx.vv.sl;have hs2:=hy.vv.sl;have sv:wQ K x y=some (decide (x=y)):=QC hx.vv.sm;rw [sv];refine tD (fun e=>tA (tS trivial) fun b=>tB VJ fun v hv=>tS fun _=>cm e (by simp) hv) fun n1=>tD (fun e=>tA (tS trivial) fun b=>tB VJ fun v hv=>tS fun _=>cm e (by simp) hv) fun n2=>tD (fun e=>tA le fun b=>tB VJ fun v hv=>tS fun _=>cm e (by simp) hv) fun n3=>tD (fun e=>tA le fun b=>tB VJ fun v hv=>tS fun _=>cm e (by simp) hv) fun n4=>tD (fun e=>tA le fun b=>tB VJ fun v hv=>tS fun _=>cm e (by simp) hv) fun n5=>tD (fun e=>tA le fun b=>tB VJ fun v hv=>tS fun _=>cm e (by simp) hv) fun n6=>?_;have nc:nm∉[[61,61],[33,61],[60],[60,61],[62],[62,61]]:=by simp [n1,n2,n3,n4,n5,n6]
 refine tC (fun e=>tI (by omega) fun _=>tD (fun _=>tS fun e=>by cases e) fun e2=>tI (by omega) fun _=>tS fun _=>?_) fun e=>tB (zgZ hx.n) fun r hr=>tB (tS (Q:=fun v=>TV 1 v) (zgl hr)) fun v hv=>tS fun _=>?_
 .obtain ⟨q1,q2⟩:=Bool.and_eq_true _ _▸e
  unfold resB;rw [if_neg nc,if_pos ⟨of_decide_eq_true q1,by simpa using q2⟩];exact zgm (by rw [List.length_append];omega)
 .unfold resB
  rw [if_neg nc,if_neg]
  .exact hv
  .rintro ⟨h1,h2⟩
   rw [decide_eq_true h1,h2] at e;cases e
theorem zb6 {v:Value} (h:VV v):WE K v=some ((v.S.length+v.I.length+v.L.length:Nat):Int):=by
 have:=h.sl;have:=h.il;have:=h.ll;unfold WE;rw [zy (by omega),zy (by omega)]
theorem collect {α:Type} {f:Value->α} {l:List Value} (hl:l.length<=1000) {body:(Nat×List UInt8×List α->Option (List UInt8×List α))->Nat×List UInt8×List α->Option (List UInt8×List α)} (hb:∀F x1,body F x1=bif (decide (((x1.1:Nat):Int)<((l.length:Nat):Int))) then (ifp (x1.1<l.length)<|ifp (x1.2.2.length+[f (l.getD x1.1 default)].length<=4000000)<|ifp (x1.1+1<=9223372036854775807)<|F ((x1.1+1),x1.2.1,(x1.2.2++[f (l.getD x1.1 default)]))) else (some (x1.2.1,x1.2.2))):rounds body K (0,[],[])=some ([],l.map f):=by
 have:Tot (rounds body K (0,[],[])) fun r=>r=([],l.map f):=by
  refine tK (fun x=>x.1<=l.length/\x.2.1=[]/\x.2.2=(l.take x.1).map f) (fun x=>l.length - x.1) (fun F x hx hF=>?_) ⟨Nat.zero_le _,rfl,rfl⟩ (by simp only;omega);obtain ⟨x1,x2,x3⟩:=hx;rw [hb];refine tD (fun e=>?_) fun e=>tS (by rw [x2,x3,List.take_of_length_le (by omega)]);have e1:x.1<l.length:=by omega
  exact tI e1 fun _=>tI (by rw [x3];simp;omega) fun _=>tI (by omega) fun _=>hF _ ⟨by simp only;omega,x2,by simp only;rw [x3,zbo e1]⟩ (by simp only;omega)
 obtain ⟨r,e,rfl⟩:=this;exact e
def TL (ks:List Int) (l:List Value):Prop:=l.length=ks.length/\∀i,i<l.length->TV (ks.getD i default) (l.getD i default)
theorem TL.nil:TL [] []:=⟨rfl,fun i h=>by simp at h⟩
theorem TL.cons {k:Int} {ks:List Int} {v:Value} {l:List Value}:TL (k::ks) (v::l)↔TV k v/\TL ks l:=by
 constructor
 .rintro ⟨h1,h2⟩
  exact ⟨h2 0 (by simp),by simpa using h1,fun i hi=>h2 (i+1) (by simpa using hi)⟩
 .rintro ⟨h1,h2,h3⟩
  refine ⟨by simpa using h2,fun i hi=>?_⟩;cases i with
  | zero=>exact h1
  | succ i=>exact h3 i (by simpa using hi)
theorem TL.app {ks ks':List Int}:∀{l l':List Value},TL ks l->TL ks' l'->TL (ks++ks') (l++l'):=by
 induction ks with
 | nil =>
  intro l l' h k;have:l=[]:=List.length_eq_zero_iff.1 (by simpa using h.1);rw [this];exact k
 | cons a ks ih =>
  intro l l' h k;cases l with
  | nil=>simp [TL] at h
  | cons v l =>
   obtain ⟨h1,h2⟩:=TL.cons.1 h;exact TL.cons.2 ⟨h1,ih h2 k⟩
theorem TL.split {ks ks':List Int}:∀{l:List Value},TL (ks++ks') l->∃a b,l=a++b/\TL ks a/\TL ks' b:=by
 induction ks with
 | nil=>intro l h;exact ⟨[],l,rfl,.nil,h⟩
 | cons a ks ih =>
  intro l h;cases l with
  | nil=>simp [TL] at h
  | cons v l =>
   obtain ⟨h1,h2⟩:=TL.cons.1 h;obtain ⟨x,y,e,hx,hy⟩:=ih h2;exact ⟨v::x,y,by rw [e];rfl,TL.cons.2 ⟨h1,hx⟩,hy⟩
theorem TL.mem {ks:List Int} {l:List Value} (h:TL ks l):∀v∈l,Vi v:=fun v hv=>by
 obtain ⟨i,hi,rfl⟩:=List.getElem_of_mem hv;have:=(h.2 i hi).2;rwa [gd hi] at this
theorem TL.cp {ks:List Int} {l:List Value} (h:TL ks l):∀v∈l,cpOk v:=fun v hv=>(h.mem v hv).vv.cp
inductive Bt:List UInt8->List Int->Int->Prop
 | len {k:Int} (hk:k=3\/k=4\/k=5):Bt [108,101,110] [k] 1
 | at4:Bt [97,116] [4,1] 1
 | at5:Bt [97,116] [5,1] 3
 | app4:Bt [97,112,112,101,110,100] [4,1] 4
 | app5:Bt [97,112,112,101,110,100] [5,3] 5
 | set4:Bt [115,101,116] [4,1,1] 4
 | set5:Bt [115,101,116] [5,1,3] 5
 | str:Bt [115,116,114] [1] 3
 | ints {n:Nat} (h:n<=16):Bt [105,110,116,115] (List.replicate n 1) 4
 | strs {n:Nat} (h:n<=16):Bt [115,116,114,105,110,103,115] (List.replicate n 3) 5
theorem tl1 {k:Int} {l:List Value} (h:TL [k] l):∃a,l=[a]/\TV k a:=by
 cases l with
 | nil=>simp [TL] at h
 | cons a l=>obtain ⟨h1,h2⟩:=TL.cons.1 h;exact ⟨a,by
   have:l=[]:=List.length_eq_zero_iff.1 (by simpa using h2.1);rw [this],h1⟩
theorem tl2 {k j:Int} {l:List Value} (h:TL [k,j] l):∃a b,l=[a,b]/\TV k a/\TV j b:=by
 cases l with
 | nil=>simp [TL] at h
 | cons a l=>obtain ⟨h1,h2⟩:=TL.cons.1 h;obtain ⟨b,rfl,hb⟩:=tl1 h2;exact ⟨a,b,rfl,h1,hb⟩
theorem tl3 {k j i:Int} {l:List Value} (h:TL [k,j,i] l):∃a b c,l=[a,b,c]/\TV k a/\TV j b/\TV i c:=by
 cases l with
 | nil=>simp [TL] at h
 | cons a l=>obtain ⟨h1,h2⟩:=TL.cons.1 h;obtain ⟨b,c,rfl,hb,hc⟩:=tl2 h2;exact ⟨a,b,c,rfl,h1,hb,hc⟩
theorem zfk {l:List Int} (h:l.length<=16) (k:∀x∈l,I64 x):TV 4 ⟨4,0,[],l,[]⟩:=⟨rfl,⟨⟨by simp only;omega,.inl rfl,.inl rfl,.inr rfl,.inl rfl,by simp,h,by simp,by simp⟩,i0,k⟩⟩
theorem zfl {l:List (List UInt8)} (h:l.length<=16) (k:∀x∈l,x.length<=64):TV 5 ⟨5,0,[],[],l⟩:=⟨rfl,⟨⟨by simp only;omega,.inl rfl,.inl rfl,.inl rfl,.inr rfl,by simp,by simp,h,k⟩,i0,by simp⟩⟩
theorem tv4 {v:Value} (h:TV 4 v):v.N=0/\v.S=[]/\v.L=[]/\v.I.length<=16/\∀x∈v.I,I64 x:=by
 obtain ⟨h1,h2,h3,h4⟩:=h;have a:=h2.n;have b:=h2.s;have c:=h2.l;rw [h1] at a b c;simp at a b c;exact ⟨a,b,c,h2.il,h4⟩
theorem tv5 {v:Value} (h:TV 5 v):v.N=0/\v.S=[]/\v.I=[]/\v.L.length<=16/\∀x∈v.L,x.length<=64:=by
 obtain ⟨h1,h2,h3,h4⟩:=h;have a:=h2.n;have b:=h2.s;have c:=h2.i;rw [h1] at a b c;simp at a b c;exact ⟨a,b,c,h2.ll,h2.lx⟩
theorem tTt {α:Type} {b:Bool} {X Y:Option α} {Q:α->Prop} (h:b=true) (k:Tot X Q):Tot (bif b then X else Y) Q:=by rw [h];exact k
theorem tFf {α:Type} {b:Bool} {X Y:Option α} {Q:α->Prop} (h:b=false) (k:Tot Y Q):Tot (bif b then X else Y) Q:=by rw [h];exact k
theorem zi1 {α:Type} {l:List α} {i:Nat} {a:α} {P:α->Prop} (h:∀x∈l,P x) (k:P a):∀x∈l.set i a,P x:=fun x hx=>by
 rcases List.mem_or_eq_of_mem_set hx with hx|rfl
 .exact h x hx
 .exact k
theorem zdu {nm:List UInt8} {ks:List Int} {k:Int} {l:List Value} (h:Bt nm ks k) (hl:TL ks l):Tot (VG K nm l) fun r=>r.2=0->TV k r.1:=by
 unfold VG;have no:∀{X Y:Option (Value×Int)} {a b:List UInt8} {Q:Value×Int->Prop},(decide (a=b))=false->Tot Y Q->Tot (bif decide (a=b) then X else Y) Q:=fun e h=>by rw [e];exact h
 have yes:∀{X Y:Option (Value×Int)} {a:List UInt8} {Q:Value×Int->Prop},Tot X Q->Tot (bif decide (a=a) then X else Y) Q:=fun h=>by rw [decide_eq_true rfl];exact h
 cases h with
 | ints hn =>
  refine yes ?_;rw [show Ji K l K (0,[],[])=_ from collect (f:=Value.N) (by have:=hl.1;simp at this;omega) fun _ _=>rfl,zu];refine tS fun _=>zfk (by simpa [hl.1] using hn) fun x hx=>?_;obtain ⟨v,hv,rfl⟩:=List.mem_map.1 hx;exact (hl.mem v hv).n
 | strs hn =>
  refine no (by decide) (yes ?_);rw [show Qv K l K (0,[],[])=_ from collect (f:=Value.S) (by have:=hl.1;simp at this;omega) fun _ _=>rfl,zu];refine tS fun _=>zfl (by simpa [hl.1] using hn) fun x hx=>?_;obtain ⟨v,hv,rfl⟩:=List.mem_map.1 hx;exact (hl.mem v hv).vv.sl
 | len hk =>
  obtain ⟨a,rfl,ha⟩:=tl1 hl;refine no (by decide) (no (by decide) (tI (by simp) fun _=>?_));rw [show ([a].getD 0 default)=a from rfl,Yo ha.2.vv.cp,zu];refine yes ?_;rw [show WE K _=_ from zb6 (v:=a) ha.2.vv,zu];have:=ha.2.vv.sl;have:=ha.2.vv.il;have:=ha.2.vv.ll;exact tS fun _=>zgl ⟨by omega,by omega⟩
 | str =>
  obtain ⟨a,rfl,ha⟩:=tl1 hl;refine no (by decide) (no (by decide) (tI (by simp) fun _=>?_));rw [show ([a].getD 0 default)=a from rfl,Yo ha.2.vv.cp,zu];refine no (by decide) (yes ?_);unfold strconv_Itoa;rw [YG];have hn:=ha.2.n;exact tI hn fun _=>tS fun _=>zgm (Nat.le_trans (Lib.itoa_length_le _ hn.1 hn.2) (by decide))
 | app4 =>
  obtain ⟨a,b,rfl,ha,hb⟩:=tl2 hl;obtain ⟨q1,q2,q3,h1,h2⟩:=tv4 ha;refine no (by decide) (no (by decide) (tI (by simp) fun _=>?_));rw [show ([a,b].getD 0 default)=a from rfl,Yo ha.2.vv.cp,zu];refine no (by decide) (no (by decide) (yes ?_));rw [show WE K _=_ from zb6 (v:=a) ha.2.vv,zu];refine tE (fun _=>tS fun e=>by cases e) fun e2=>?_;refine tB (P:=fun r=>r=(a.Kind,a.N,a.S,a.I++[b.N],a.L)) (tTt (by rw [ha.1];rfl) (tI (by simp) fun _=>tI (by simp;omega) fun _=>tS rfl)) fun r hr=>tS fun _=>?_;subst hr;simp only [ha.1,q1,q2,q3];rw [q2,q3] at e2;exact zfk (by simp at e2 ⊢;omega) (mem1 h2 hb.2.n)
 | app5 =>
  obtain ⟨a,b,rfl,ha,hb⟩:=tl2 hl;obtain ⟨q1,q2,q3,h1,h2⟩:=tv5 ha;refine no (by decide) (no (by decide) (tI (by simp) fun _=>?_));rw [show ([a,b].getD 0 default)=a from rfl,Yo ha.2.vv.cp,zu];refine no (by decide) (no (by decide) (yes ?_));rw [show WE K _=_ from zb6 (v:=a) ha.2.vv,zu];refine tE (fun _=>tS fun e=>by cases e) fun e2=>?_;refine tB (P:=fun r=>r=(a.Kind,a.N,a.S,a.I,a.L++[b.S])) (tFf (by rw [ha.1];rfl) (tI (by simp) fun _=>tI (by simp;omega) fun _=>tS rfl)) fun r hr=>tS fun _=>?_;subst hr;simp only [ha.1,q1,q2,q3];rw [q2,q3] at e2;exact zfl (by simp at e2 ⊢;omega) (mem1 h2 hb.2.vv.sl)
 | at4 =>
  obtain ⟨a,b,rfl,ha,hb⟩:=tl2 hl;obtain ⟨q1,q2,q3,h1,h2⟩:=tv4 ha;refine no (by decide) (no (by decide) (tI (by simp) fun _=>?_));rw [show ([a,b].getD 0 default)=a from rfl,Yo ha.2.vv.cp,zu];refine no (by decide) (no (by decide) (no (by decide) (tI (by simp) fun _=>?_)));rw [show ([a,b].getD 1 default)=b from rfl];rw [show WE K _=_ from zb6 (v:=a) ha.2.vv,zu];refine tB (P:=fun c=>c=false->0<=b.N/\b.N<((a.S.length+a.I.length+a.L.length:Nat):Int)) (tD (fun _=>tS fun e=>by cases e) fun e3=>tS fun e4=>⟨by omega,by have:=of_decide_eq_false e4;omega⟩) fun c hc=>tC (fun _=>tS fun e=>by cases e) fun e3=>?_;have hc:=hc e3;rw [q2,q3] at hc;simp at hc;refine tB (P:=fun o=>∃v,o=.inr (v,0)/\TV 1 v) (tTt (by rw [ha.1];rfl) (tI ⟨hc.1,hc.2⟩ fun _=>tI (by omega) fun _=>tS ⟨_,rfl,zgl (h2 _ (getD_mem (by omega)))⟩)) ?_;rintro o ⟨v,rfl,hv⟩;exact tS fun _=>hv
 | at5 =>
  obtain ⟨a,b,rfl,ha,hb⟩:=tl2 hl;obtain ⟨q1,q2,q3,h1,h2⟩:=tv5 ha;refine no (by decide) (no (by decide) (tI (by simp) fun _=>?_));rw [show ([a,b].getD 0 default)=a from rfl,Yo ha.2.vv.cp,zu];refine no (by decide) (no (by decide) (no (by decide) (tI (by simp) fun _=>?_)));rw [show ([a,b].getD 1 default)=b from rfl];rw [show WE K _=_ from zb6 (v:=a) ha.2.vv,zu];refine tB (P:=fun c=>c=false->0<=b.N/\b.N<((a.S.length+a.I.length+a.L.length:Nat):Int)) (tD (fun _=>tS fun e=>by cases e) fun e3=>tS fun e4=>⟨by omega,by have:=of_decide_eq_false e4;omega⟩) fun c hc=>tC (fun _=>tS fun e=>by cases e) fun e3=>?_;have hc:=hc e3;rw [q2,q3] at hc;simp at hc;refine tB (P:=fun o=>∃v,o=.inr (v,0)/\TV 3 v) (tFf (by rw [ha.1];rfl) (tTt rfl (tI ⟨hc.1,hc.2⟩ fun _=>tI (by omega) fun _=>tS ⟨_,rfl,zgm (h2 _ (getD_mem (by omega)))⟩))) ?_;rintro o ⟨v,rfl,hv⟩;exact tS fun _=>hv
 | set4 =>
  obtain ⟨a,b,d,rfl,ha,hb,hd⟩:=tl3 hl;obtain ⟨q1,q2,q3,h1,h2⟩:=tv4 ha;refine no (by decide) (no (by decide) (tI (by simp) fun _=>?_));rw [show ([a,b,d].getD 0 default)=a from rfl,Yo ha.2.vv.cp,zu];refine no (by decide) (no (by decide) (no (by decide) (tI (by simp) fun _=>?_)));rw [show ([a,b,d].getD 1 default)=b from rfl];rw [show WE K _=_ from zb6 (v:=a) ha.2.vv,zu];refine tB (P:=fun c=>c=false->0<=b.N/\b.N<((a.S.length+a.I.length+a.L.length:Nat):Int)) (tD (fun _=>tS fun e=>by cases e) fun e3=>tS fun e4=>⟨by omega,by have:=of_decide_eq_false e4;omega⟩) fun c hc=>tC (fun _=>tS fun e=>by cases e) fun e3=>?_;have hc:=hc e3;rw [q2,q3] at hc;simp at hc;refine tB (P:=fun o=>o=.inl (a.I.set b.N.toNat d.N,a.L)) (tFf rfl (tFf rfl (tTt (by rw [ha.1];rfl) (tI (by simp) fun _=>tI ⟨hc.1,hc.2⟩ fun _=>tI (by omega) fun _=>tS rfl)))) ?_;rintro o rfl;refine tS fun _=>?_;simp only [ha.1,q1,q2,q3];exact zfk (by simpa using h1) (zi1 h2 hd.2.n)
 | set5 =>
  obtain ⟨a,b,d,rfl,ha,hb,hd⟩:=tl3 hl;obtain ⟨q1,q2,q3,h1,h2⟩:=tv5 ha;refine no (by decide) (no (by decide) (tI (by simp) fun _=>?_));rw [show ([a,b,d].getD 0 default)=a from rfl,Yo ha.2.vv.cp,zu];refine no (by decide) (no (by decide) (no (by decide) (tI (by simp) fun _=>?_)));rw [show ([a,b,d].getD 1 default)=b from rfl];rw [show WE K _=_ from zb6 (v:=a) ha.2.vv,zu];refine tB (P:=fun c=>c=false->0<=b.N/\b.N<((a.S.length+a.I.length+a.L.length:Nat):Int)) (tD (fun _=>tS fun e=>by cases e) fun e3=>tS fun e4=>⟨by omega,by have:=of_decide_eq_false e4;omega⟩) fun c hc=>tC (fun _=>tS fun e=>by cases e) fun e3=>?_;have hc:=hc e3;rw [q2,q3] at hc;simp at hc;refine tB (P:=fun o=>o=.inl (a.I,a.L.set b.N.toNat d.S)) (tFf rfl (tFf rfl (tFf (by rw [ha.1];rfl) (tI (by simp) fun _=>tI ⟨hc.1,hc.2⟩ fun _=>tI (by omega) fun _=>tS rfl)))) ?_;rintro o rfl;refine tS fun _=>?_;simp only [ha.1,q1,q2,q3];exact zfl (by simpa using h1) (zi1 h2 hd.2.vv.sl)
theorem zjl {k n:Int} {l:List Value} (h:(k=1/\2<=l.length)\/(k=2/\3<=l.length)\/(k=3/\1<=l.length)):Tot (za7 K k l n) fun r=>r.2=0->n<16:=by
 unfold za7;refine tI (by omega) fun _=>tC (fun _=>tS fun e=>by cases e) fun e=>?_;have hn:n<16:=by
  simp only [Bool.or_eq_false_iff,decide_eq_false_iff_not] at e;omega
 exact tA (tE (fun e=>tI (by omega) fun _=>tS trivial) fun _=>tE (fun e=>tI (by omega) fun _=>tI (by omega) fun _=>tC (fun _=>tS trivial) fun _=>tS trivial) fun _=>tS trivial) fun o=>tO (fun _ _=>tS fun _=>hn) fun _ _=>tS fun _=>hn
end Md
end Go.Proofs.YtbijabmjbgplbaaGreatDoor
namespace Go.Proofs.YtbijabmjbgplbaaGreatDoor
namespace Md
structure VS where
 pc:Nat
 lo:List Value
 fi:List Value
 st:List Value
 ef:List Effect
inductive VO
 | go (s:VS)
 | er (e:Int)
 | cl (s:VS) (c:vS)
 | fi (s:VS) (v:Value)
structure VX where
 c:Code
 m:zk
 ti:Int
 mi:Int
 key:List UInt8
abbrev zc:vS:=⟨⟨[],[]⟩,[],[]⟩
abbrev zm:Machine:=⟨0,0,0,[]⟩
def VX.A (X:VX) (pc:Int):yj:=⟨X.c,X.m,X.ti,X.mi,pc⟩
def segE (k:Int) (v:Value) (c:vS):zi:=⟨k,v,c,0,zm,[],[],0⟩
def resN (m:zk):Int:=if m.Result=0 then 0 else 1
def stp (X:VX) (C:yE) (s:VS):Option (Int×yj×yK×yE×(List Value)×(List Value)×(List Value)×(List Effect)) :=
 zI K (X.A s.pc) ⟨X.key⟩ C s.lo s.fi s.st s.ef 0 0 0 0 1 1 1 [45] 1 [33] 2 [43] 2 [43] 2 [45] 2 [42] 2 [47] 2 [37] 2 [61,61] 2 [33,61] 2 [60] 2 [60,61] 2 [62] 2 [62,61] 1 [108,101,110] 2 [97,116] 2 [97,112,112,101,110,100] 3 [115,101,116] 1 [115,116,114] [105,110,116,115] [115,116,114,105,110,103,115] 0 1 1 (resN X.m) 0 2 1 3 2 1 3
def SR (X:VX) (C:yE):VO->(Int×yj×yK×yE×(List Value)×(List Value)×(List Value)×(List Effect))->Prop
 | .go s,r=>r=(0,X.A s.pc,⟨X.key⟩,C,s.lo,s.fi,s.st,s.ef)
 | .er e,r=>r.1=e/\e≠0
 | .cl s c,r=>r=(0,X.A s.pc,⟨X.key⟩,⟨true,segE 2 vz c⟩,s.lo,s.fi,s.st,s.ef)
 | .fi s v,r=>r=(0,X.A s.pc,⟨X.key⟩,⟨true,segE 1 v zc⟩,s.lo,s.fi,s.st,s.ef)
def Ex (X:VX) (s:VS) (o:VO):Prop:=∀C,Tot (stp X C s) (SR X C o)
theorem tDn {α:Type} {p:Prop} [Decidable p] {X Y:Option α} {Q:α->Prop} (h:¬p) (k:Tot Y Q):Tot (bif decide p then X else Y) Q:=by rw [decide_eq_false h];exact k
theorem tDy {α:Type} {p:Prop} [Decidable p] {X Y:Option α} {Q:α->Prop} (h:p) (k:Tot X Q):Tot (bif decide p then X else Y) Q:=by rw [decide_eq_true h];exact k
section
variable {X:VX} {pc:Nat} {lo fi S a:List Value} {ef:List Effect} {v w:Value} {e:Int}
theorem hW {n:Int} (hn:n=(a.length:Int)) (hl:S.length<=1000):W ((((S++a).length:Nat):Int) - n)=(S.length:Int):=by
 rw [show ((((S++a).length:Nat):Int) - n)=(S.length:Int) by rw [List.length_append];omega,W_id (by omega) (by omega)]
theorem zaR {A:yj} {B:yK} {C:yE} (hl:S.length<=1000):wV K v A B C lo fi S ef=some (A,B,C,S++[v]):=by
 unfold wV;rw [zy (by simp;omega)]
theorem zay {A:yj} {B:yK} {C:yE} (hl:S.length<=1000):uU K v e A B C lo fi S ef=some (e,A,B,C,if e=0 then S++[v] else S):=by
 unfold uU
 by_cases h:e=0
 .rw [h,zaR hl];rfl
 .rw [if_neg h,beq_eq_false_iff_ne.2 h];rfl
def VX.at_ (X:VX) (pc:Nat):Instr:=X.m.Code.getD pc default
def pshd (pc:Nat) (lo fi S:List Value) (ef:List Effect) (v:Value) (e:Int):VO:=if e=0 then .go ⟨pc+1,lo,fi,S++[v],ef⟩ else .er e
theorem zn3 {C:yE} (hl:pc<100000):SR X C (pshd pc lo fi S ef v e) (e,X.A (W ((pc:Int)+1)),⟨X.key⟩,C,lo,fi,(if e=0 then S++[v] else S),ef):=by
 unfold pshd;rw [W_id (by omega) (by omega)]
 by_cases h:e=0
 .rw [if_pos h,if_pos h,h];rfl
 .rw [if_neg h,if_neg h];exact ⟨rfl,h⟩
theorem Ve:((X.A (pc:Int)).method.Code.getD (X.A (pc:Int)).pc.toNat default)=X.at_ pc:=rfl
theorem hA_e (hp:pc<100000):(⟨⟨(X.A (pc:Int)).code.Types⟩,⟨(X.A (pc:Int)).method.Name,(X.A (pc:Int)).method.Params,(X.A (pc:Int)).method.Result,(X.A (pc:Int)).method.zK,(X.A (pc:Int)).method.Code⟩,(X.A (pc:Int)).jW,(X.A (pc:Int)).y9,W ((X.A (pc:Int)).pc+1)⟩:yj)=X.A ((pc+1:Nat):Int):=by
 show X.A (W ((pc:Int)+1))=_;rw [W_id (by omega) (by omega)];rfl
theorem zf5 {C:yE} (hl:pc<100000):SR X C (pshd pc lo fi S ef v e) (e,X.A ((pc+1:Nat):Int),⟨X.key⟩,C,lo,fi,(if e=0 then S++[v] else S),ef):=by
 have:=zn3 (X:=X) (C:=C) (pc:=pc) (lo:=lo) (fi:=fi) (S:=S) (ef:=ef) (v:=v) (e:=e) hl;rwa [W_id (by omega) (by omega)] at this
variable (hp:pc<X.m.Code.length) (hl:X.m.Code.length<=3000) (hS:S.length<=1000)
include hp hl hS
theorem zeS (h:(X.at_ pc).Op=1) (hc:cpOk (X.at_ pc).Value):Ex X ⟨pc,lo,fi,S,ef⟩ (.go ⟨pc+1,lo,fi,S++[(X.at_ pc).Value],ef⟩):=fun C=>by
 unfold stp zI;refine tI (show 0<=(pc:Int)/\(pc:Int)<(X.m.Code.length:Int) by omega) fun _=>?_;have hne:∀n,n≠1->¬(X.at_ pc).Op=n:=fun n hn e=>hn (e.symm.trans h)
 repeat (refine tDn (hne _ (by decide)) ?_)
 refine tDy h ?_;simp only;rw [Ve,hA_e (by omega)];rw [show zJ K _ 0=some 0 from rfl,zu];have e0:=hW (S:=S) (a:=[]) (n:=0) rfl hS;rw [List.append_nil] at e0;simp only [e0,List.drop_length,List.take_length,Int.toNat_natCast];refine tI (by omega) fun _=>tI (by simp) fun _=>tI (by simp) fun _=>tI (by omega) fun _=>tI (by simp) fun _=>?_;unfold zad Y1;rw [zu,show qp K _=_ from Yo hc,zu,zaR hS,zu,zu];exact tS rfl
theorem zia (h:(X.at_ pc).Op=2) (hA:0<=(X.at_ pc).A/\(X.at_ pc).A<(lo.length:Int)) (hc:cpOk (lo.getD (X.at_ pc).A.toNat default)):Ex X ⟨pc,lo,fi,S,ef⟩ (.go ⟨pc+1,lo,fi,S++[(lo.getD (X.at_ pc).A.toNat default)],ef⟩):=fun C=>by
 unfold stp zI;refine tI (show 0<=(pc:Int)/\(pc:Int)<(X.m.Code.length:Int) by omega) fun _=>?_;have hne:∀n,n≠2->¬(X.at_ pc).Op=n:=fun n hn e=>hn (e.symm.trans h)
 repeat (refine tDn (hne _ (by decide)) ?_)
 refine tDy h ?_;simp only;rw [Ve,hA_e (by omega)];rw [show zJ K _ 0=some 0 from rfl,zu];have e0:=hW (S:=S) (a:=[]) (n:=0) rfl hS;rw [List.append_nil] at e0;simp only [e0,List.drop_length,List.take_length,Int.toNat_natCast];refine tI (by omega) fun _=>tI (by simp) fun _=>tI (by simp) fun _=>tI (by omega) fun _=>tI (by simp) fun _=>?_;unfold U8 Y2;rw [zy hA,zy (by omega)];rw [zu,show qp K _=_ from Yo hc,zu,zaR hS,zu,zu];exact tS rfl
theorem zk9 (h:(X.at_ pc).Op=4) (hA:0<=(X.at_ pc).A/\(X.at_ pc).A<(fi.length:Int)) (hc:cpOk (fi.getD (X.at_ pc).A.toNat default)):Ex X ⟨pc,lo,fi,S,ef⟩ (.go ⟨pc+1,lo,fi,S++[(fi.getD (X.at_ pc).A.toNat default)],ef⟩):=fun C=>by
 unfold stp zI;refine tI (show 0<=(pc:Int)/\(pc:Int)<(X.m.Code.length:Int) by omega) fun _=>?_;have hne:∀n,n≠4->¬(X.at_ pc).Op=n:=fun n hn e=>hn (e.symm.trans h)
 repeat (refine tDn (hne _ (by decide)) ?_)
 refine tDy h ?_;simp only;rw [Ve,hA_e (by omega)];rw [show zJ K _ 0=some 0 from rfl,zu];have e0:=hW (S:=S) (a:=[]) (n:=0) rfl hS;rw [List.append_nil] at e0;simp only [e0,List.drop_length,List.take_length,Int.toNat_natCast];refine tI (by omega) fun _=>tI (by simp) fun _=>tI (by simp) fun _=>tI (by omega) fun _=>tI (by simp) fun _=>?_;unfold U9 Y3;rw [zy hA,zy (by omega)];rw [zu,show qp K _=_ from Yo hc,zu,zaR hS,zu,zu];exact tS rfl
theorem zib (h:(X.at_ pc).Op=6):Ex X ⟨pc,lo,fi,S,ef⟩ (.go ⟨pc+1,lo,fi,S++[⟨3,0,X.key,[],[]⟩],ef⟩):=fun C=>by
 unfold stp zI;refine tI (show 0<=(pc:Int)/\(pc:Int)<(X.m.Code.length:Int) by omega) fun _=>?_;have hne:∀n,n≠6->¬(X.at_ pc).Op=n:=fun n hn e=>hn (e.symm.trans h)
 repeat (refine tDn (hne _ (by decide)) ?_)
 refine tDy h ?_;simp only;rw [Ve,hA_e (by omega)];rw [show zJ K _ 0=some 0 from rfl,zu];have e0:=hW (S:=S) (a:=[]) (n:=0) rfl hS;rw [List.append_nil] at e0;simp only [e0,List.drop_length,List.take_length,Int.toNat_natCast];refine tI (by omega) fun _=>tI (by simp) fun _=>tI (by simp) fun _=>tI (by omega) fun _=>tI (by simp) fun _=>?_;unfold Qa Y4;rw [zu,show qp K _=_ from Yo (v:=⟨3,0,X.key,[],[]⟩) ⟨by simp,by simp⟩,zu,zaR hS,zu,zu];exact tS rfl
theorem zfJ (h:(X.at_ pc).Op=3) (hA:0<=(X.at_ pc).A/\(X.at_ pc).A<(lo.length:Int)) (hc:cpOk v):Ex X ⟨pc,lo,fi,S++[v],ef⟩ (.go ⟨pc+1,lo.set (X.at_ pc).A.toNat v,fi,S,ef⟩):=fun C=>by
 unfold stp zI;refine tI (show 0<=(pc:Int)/\(pc:Int)<(X.m.Code.length:Int) by omega) fun _=>?_;have hne:∀n,n≠3->¬(X.at_ pc).Op=n:=fun n hn e=>hn (e.symm.trans h)
 repeat (refine tDn (hne _ (by decide)) ?_)
 refine tDy h ?_;simp only;rw [Ve,hA_e (by omega)];rw [show zJ K _ 1=some 1 from rfl,zu];simp only [hW (S:=S) (a:=[v]) (n:=1) rfl hS,Int.toNat_natCast,List.drop_left,List.take_left];refine tI (by omega) fun _=>tI (by simp) fun _=>tI (by simp) fun _=>tI (by omega) fun _=>tI (by simp) fun _=>?_;unfold zae Y5;rw [zy hA,zu,zy (by simp),show qp K ([v].getD 0 default)=_ from Yo hc,zu,zy (by omega),zu];exact tS rfl
theorem zlc (h:(X.at_ pc).Op=5) (hA:0<=(X.at_ pc).A/\(X.at_ pc).A<(fi.length:Int)) (hc:cpOk v):Ex X ⟨pc,lo,fi,S++[v],ef⟩ (.go ⟨pc+1,lo,fi.set (X.at_ pc).A.toNat v,S,ef⟩):=fun C=>by
 unfold stp zI;refine tI (show 0<=(pc:Int)/\(pc:Int)<(X.m.Code.length:Int) by omega) fun _=>?_;have hne:∀n,n≠5->¬(X.at_ pc).Op=n:=fun n hn e=>hn (e.symm.trans h)
 repeat (refine tDn (hne _ (by decide)) ?_)
 refine tDy h ?_;simp only;rw [Ve,hA_e (by omega)];rw [show zJ K _ 1=some 1 from rfl,zu];simp only [hW (S:=S) (a:=[v]) (n:=1) rfl hS,Int.toNat_natCast,List.drop_left,List.take_left];refine tI (by omega) fun _=>tI (by simp) fun _=>tI (by simp) fun _=>tI (by omega) fun _=>tI (by simp) fun _=>?_;unfold Qb Y6;rw [zy hA,zu,zy (by simp),show qp K ([v].getD 0 default)=_ from Yo hc,zu,zy (by omega),zu];exact tS rfl
theorem zla (h:(X.at_ pc).Op=7) (hr:WM K [45] v=some (w,e)):Ex X ⟨pc,lo,fi,S++[v],ef⟩ (pshd pc lo fi S ef w e):=fun C=>by
 unfold stp zI;refine tI (show 0<=(pc:Int)/\(pc:Int)<(X.m.Code.length:Int) by omega) fun _=>?_;have hne:∀n,n≠7->¬(X.at_ pc).Op=n:=fun n hn e=>hn (e.symm.trans h)
 repeat (refine tDn (hne _ (by decide)) ?_)
 refine tDy h ?_;simp only;rw [Ve,hA_e (by omega)];rw [show zJ K _ 1=some 1 from rfl,zu];simp only [hW (S:=S) (a:=[v]) (n:=1) rfl hS,Int.toNat_natCast,List.drop_left,List.take_left];refine tI (by omega) fun _=>tI (by simp) fun _=>tI (by simp) fun _=>tI (by omega) fun _=>tI (by simp) fun _=>?_;unfold Qy;rw [zy (by simp),show WM K [45] ([v].getD 0 default)=_ from hr,zu,zay hS,zu,zu];exact tS (zf5 (by omega))
theorem zlb (h:(X.at_ pc).Op=8) (hr:WM K [33] v=some (w,e)):Ex X ⟨pc,lo,fi,S++[v],ef⟩ (pshd pc lo fi S ef w e):=fun C=>by
 unfold stp zI;refine tI (show 0<=(pc:Int)/\(pc:Int)<(X.m.Code.length:Int) by omega) fun _=>?_;have hne:∀n,n≠8->¬(X.at_ pc).Op=n:=fun n hn e=>hn (e.symm.trans h)
 repeat (refine tDn (hne _ (by decide)) ?_)
 refine tDy h ?_;simp only;rw [Ve,hA_e (by omega)];rw [show zJ K _ 1=some 1 from rfl,zu];simp only [hW (S:=S) (a:=[v]) (n:=1) rfl hS,Int.toNat_natCast,List.drop_left,List.take_left];refine tI (by omega) fun _=>tI (by simp) fun _=>tI (by simp) fun _=>tI (by omega) fun _=>tI (by simp) fun _=>?_;unfold Qy;rw [zy (by simp),show WM K [33] ([v].getD 0 default)=_ from hr,zu,zay hS,zu,zu];exact tS (zf5 (by omega))
theorem zk8 {nm:List UInt8} (hb:(nm,(X.at_ pc).Op)∈bOp) {u:Value} (hr:W9 K nm u v=some (w,e)):Ex X ⟨pc,lo,fi,S++[u,v],ef⟩ (pshd pc lo fi S ef w e):=fun C=>by
 have fin:Tot ((xX K (X.at_ pc) [u,v] (X.A ((pc+1:Nat):Int)) ⟨X.key⟩ C lo fi S ef nm).bind fun x40=>some (x40.1,x40.2.1,x40.2.2.1,x40.2.2.2.1,lo,fi,x40.2.2.2.2,ef)) (SR X C (pshd pc lo fi S ef w e)):=by
  unfold xX;rw [zy (by simp),zy (by simp),show W9 K nm ([u,v].getD 0 default) ([u,v].getD 1 default)=_ from hr,zu,zay hS,zu,zu];exact tS (zf5 (by omega))
 simp only [bOp,List.mem_cons,Prod.mk.injEq,List.not_mem_nil,or_false] at hb;rcases hb with ⟨rfl,h⟩|⟨rfl,h⟩|⟨rfl,h⟩|⟨rfl,h⟩|⟨rfl,h⟩|⟨rfl,h⟩|⟨rfl,h⟩|⟨rfl,h⟩|⟨rfl,h⟩|⟨rfl,h⟩|⟨rfl,h⟩|⟨rfl,h⟩
 all_goals
  unfold stp zI;refine tI (show 0<=(pc:Int)/\(pc:Int)<(X.m.Code.length:Int) by omega) fun _=>?_;have hne:∀n,n≠(X.at_ pc).Op->¬(X.at_ pc).Op=n:=fun n hn e=>hn e.symm
  repeat (refine tDn (hne _ (by rw [h];decide)) ?_)
  refine tDy h ?_;simp only;rw [Ve,hA_e (by omega)];rw [show zJ K _ 2=some 2 from rfl,zu];simp only [hW (S:=S) (a:=[u,v]) (n:=2) rfl hS,Int.toNat_natCast,List.drop_left,List.take_left];exact tI (by omega) fun _=>tI (by simp) fun _=>tI (by simp) fun _=>tI (by omega) fun _=>tI (by simp) fun _=>fin
theorem zk7 {nm:List UInt8} (hb:(nm,(X.at_ pc).Op,(X.at_ pc).A)∈aOp a.length) (ha:arOk nm a.length) (ha2:a.length<=100) (hr:VG K nm a=some (w,e)):Ex X ⟨pc,lo,fi,S++a,ef⟩ (pshd pc lo fi S ef w e):=fun C=>by
 have fin:Tot ((jB K (X.at_ pc) a (X.A ((pc+1:Nat):Int)) ⟨X.key⟩ C lo fi S ef nm).bind fun x40=>some (x40.1,x40.2.1,x40.2.2.1,x40.2.2.2.1,lo,fi,x40.2.2.2.2,ef)) (SR X C (pshd pc lo fi S ef w e)):=by
  unfold jB;rw [hr,zu,zay hS,zu,zu];exact tS (zf5 (by omega))
 simp only [aOp,List.mem_cons,Prod.mk.injEq,List.not_mem_nil,or_false] at hb;rcases hb with ⟨rfl,h,hA⟩|⟨rfl,h,hA⟩|⟨rfl,h,hA⟩|⟨rfl,h,hA⟩|⟨rfl,h,hA⟩|⟨rfl,h,hA⟩|⟨rfl,h,hA⟩
 .have hn:(1:Int)=(a.length:Int):=by
   have:a.length=1:=by rcases ha with h|h|⟨h,q⟩|⟨h,q⟩|⟨h,q⟩|⟨h,q⟩|⟨h,q⟩<;>first|exact q|exact absurd h (by decide)
   omega
  unfold stp zI;refine tI (show 0<=(pc:Int)/\(pc:Int)<(X.m.Code.length:Int) by omega) fun _=>?_;have hne:∀n,n≠(X.at_ pc).Op->¬(X.at_ pc).Op=n:=fun n hn e=>hn e.symm
  repeat (refine tDn (hne _ (by rw [h];decide)) ?_)
  refine tDy h ?_;simp only;rw [Ve,hA_e (by omega)];rw [show zJ K _ 1=some 1 from rfl,zu];simp only [hW (S:=S) (a:=a) (n:=1) hn hS,Int.toNat_natCast,List.drop_left,List.take_left];exact tI (by omega) fun _=>tI (by simp) fun _=>tI (by omega) fun _=>tI (by omega) fun _=>tI (by simp) fun _=>fin
 .have hn:(2:Int)=(a.length:Int):=by
   have:a.length=2:=by rcases ha with h|h|⟨h,q⟩|⟨h,q⟩|⟨h,q⟩|⟨h,q⟩|⟨h,q⟩<;>first|exact q|exact absurd h (by decide)
   omega
  unfold stp zI;refine tI (show 0<=(pc:Int)/\(pc:Int)<(X.m.Code.length:Int) by omega) fun _=>?_;have hne:∀n,n≠(X.at_ pc).Op->¬(X.at_ pc).Op=n:=fun n hn e=>hn e.symm
  repeat (refine tDn (hne _ (by rw [h];decide)) ?_)
  refine tDy h ?_;simp only;rw [Ve,hA_e (by omega)];rw [show zJ K _ 2=some 2 from rfl,zu];simp only [hW (S:=S) (a:=a) (n:=2) hn hS,Int.toNat_natCast,List.drop_left,List.take_left];exact tI (by omega) fun _=>tI (by simp) fun _=>tI (by omega) fun _=>tI (by omega) fun _=>tI (by simp) fun _=>fin
 .have hn:(2:Int)=(a.length:Int):=by
   have:a.length=2:=by rcases ha with h|h|⟨h,q⟩|⟨h,q⟩|⟨h,q⟩|⟨h,q⟩|⟨h,q⟩<;>first|exact q|exact absurd h (by decide)
   omega
  unfold stp zI;refine tI (show 0<=(pc:Int)/\(pc:Int)<(X.m.Code.length:Int) by omega) fun _=>?_;have hne:∀n,n≠(X.at_ pc).Op->¬(X.at_ pc).Op=n:=fun n hn e=>hn e.symm
  repeat (refine tDn (hne _ (by rw [h];decide)) ?_)
  refine tDy h ?_;simp only;rw [Ve,hA_e (by omega)];rw [show zJ K _ 2=some 2 from rfl,zu];simp only [hW (S:=S) (a:=a) (n:=2) hn hS,Int.toNat_natCast,List.drop_left,List.take_left];exact tI (by omega) fun _=>tI (by simp) fun _=>tI (by omega) fun _=>tI (by omega) fun _=>tI (by simp) fun _=>fin
 .have hn:(3:Int)=(a.length:Int):=by
   have:a.length=3:=by rcases ha with h|h|⟨h,q⟩|⟨h,q⟩|⟨h,q⟩|⟨h,q⟩|⟨h,q⟩<;>first|exact q|exact absurd h (by decide)
   omega
  unfold stp zI;refine tI (show 0<=(pc:Int)/\(pc:Int)<(X.m.Code.length:Int) by omega) fun _=>?_;have hne:∀n,n≠(X.at_ pc).Op->¬(X.at_ pc).Op=n:=fun n hn e=>hn e.symm
  repeat (refine tDn (hne _ (by rw [h];decide)) ?_)
  refine tDy h ?_;simp only;rw [Ve,hA_e (by omega)];rw [show zJ K _ 3=some 3 from rfl,zu];simp only [hW (S:=S) (a:=a) (n:=3) hn hS,Int.toNat_natCast,List.drop_left,List.take_left];exact tI (by omega) fun _=>tI (by simp) fun _=>tI (by omega) fun _=>tI (by omega) fun _=>tI (by simp) fun _=>fin
 .have hn:(1:Int)=(a.length:Int):=by
   have:a.length=1:=by rcases ha with h|h|⟨h,q⟩|⟨h,q⟩|⟨h,q⟩|⟨h,q⟩|⟨h,q⟩<;>first|exact q|exact absurd h (by decide)
   omega
  unfold stp zI;refine tI (show 0<=(pc:Int)/\(pc:Int)<(X.m.Code.length:Int) by omega) fun _=>?_;have hne:∀n,n≠(X.at_ pc).Op->¬(X.at_ pc).Op=n:=fun n hn e=>hn e.symm
  repeat (refine tDn (hne _ (by rw [h];decide)) ?_)
  refine tDy h ?_;simp only;rw [Ve,hA_e (by omega)];rw [show zJ K _ 1=some 1 from rfl,zu];simp only [hW (S:=S) (a:=a) (n:=1) hn hS,Int.toNat_natCast,List.drop_left,List.take_left];exact tI (by omega) fun _=>tI (by simp) fun _=>tI (by omega) fun _=>tI (by omega) fun _=>tI (by simp) fun _=>fin
 .unfold stp zI
  refine tI (show 0<=(pc:Int)/\(pc:Int)<(X.m.Code.length:Int) by omega) fun _=>?_;have hne:∀n,n≠(X.at_ pc).Op->¬(X.at_ pc).Op=n:=fun n hn e=>hn e.symm
  repeat (refine tDn (hne _ (by rw [h];decide)) ?_)
  refine tDy h ?_;simp only;rw [Ve,hA_e (by omega)];rw [show WC K (X.at_ pc)=some (a.length:Int) from by unfold WC;rw [hA],zu];simp only [hW (S:=S) (a:=a) (n:=(a.length:Int)) rfl hS,Int.toNat_natCast,List.drop_left,List.take_left];exact tI (by omega) fun _=>tI (by simp) fun _=>tI (by omega) fun _=>tI (by omega) fun _=>tI (by simp) fun _=>fin
 .unfold stp zI
  refine tI (show 0<=(pc:Int)/\(pc:Int)<(X.m.Code.length:Int) by omega) fun _=>?_;have hne:∀n,n≠(X.at_ pc).Op->¬(X.at_ pc).Op=n:=fun n hn e=>hn e.symm
  repeat (refine tDn (hne _ (by rw [h];decide)) ?_)
  refine tDy h ?_;simp only;rw [Ve,hA_e (by omega)];rw [show WC K (X.at_ pc)=some (a.length:Int) from by unfold WC;rw [hA],zu];simp only [hW (S:=S) (a:=a) (n:=(a.length:Int)) rfl hS,Int.toNat_natCast,List.drop_left,List.take_left];exact tI (by omega) fun _=>tI (by simp) fun _=>tI (by omega) fun _=>tI (by omega) fun _=>tI (by simp) fun _=>fin
theorem zh_ (h:(X.at_ pc).Op=28) (hA:0<=(X.at_ pc).A):Ex X ⟨pc,lo,fi,S,ef⟩ (.go ⟨(X.at_ pc).A.toNat,lo,fi,S,ef⟩):=fun C=>by
 unfold stp zI;refine tI (show 0<=(pc:Int)/\(pc:Int)<(X.m.Code.length:Int) by omega) fun _=>?_;have hne:∀n,n≠28->¬(X.at_ pc).Op=n:=fun n hn e=>hn (e.symm.trans h)
 repeat (refine tDn (hne _ (by decide)) ?_)
 refine tDy h ?_;simp only;rw [Ve,hA_e (by omega)];rw [show zJ K _ 0=some 0 from rfl,zu];have e0:=hW (S:=S) (a:=[]) (n:=0) rfl hS;rw [List.append_nil] at e0;simp only [e0,List.drop_length,List.take_length,Int.toNat_natCast];refine tI (by omega) fun _=>tI (by simp) fun _=>tI (by simp) fun _=>tI (by omega) fun _=>tI (by simp) fun _=>?_;unfold zca;rw [show ((X.at_ pc).A)=(((X.at_ pc).A.toNat:Nat):Int) by omega];exact tS rfl
theorem zk_ (h:(X.at_ pc).Op=29) (hA:0<=(X.at_ pc).A):Ex X ⟨pc,lo,fi,S++[v],ef⟩ (.go ⟨if v.N=0 then (X.at_ pc).A.toNat else pc+1,lo,fi,S,ef⟩):=fun C=>by
 unfold stp zI;refine tI (show 0<=(pc:Int)/\(pc:Int)<(X.m.Code.length:Int) by omega) fun _=>?_;have hne:∀n,n≠29->¬(X.at_ pc).Op=n:=fun n hn e=>hn (e.symm.trans h)
 repeat (refine tDn (hne _ (by decide)) ?_)
 refine tDy h ?_;simp only;rw [Ve,hA_e (by omega)];rw [show zJ K _ 1=some 1 from rfl,zu];simp only [hW (S:=S) (a:=[v]) (n:=1) rfl hS,Int.toNat_natCast,List.drop_left,List.take_left];refine tI (by omega) fun _=>tI (by simp) fun _=>tI (by simp) fun _=>tI (by omega) fun _=>tI (by simp) fun _=>?_;unfold zca;rw [show ((X.at_ pc).A)=(((X.at_ pc).A.toNat:Nat):Int) by omega]
 by_cases e:v.N=0
 .rw [if_pos e]
  refine tB (tB (P:=fun r=>r=(X.A ((X.at_ pc).A.toNat:Int),⟨X.key⟩,C)) (tB (tFf rfl (tI (by simp) fun _=>tS (Q:=fun b=>b=true) (by simpa using e))) fun b hb=>tTt hb (tS rfl)) fun r hr=>tS (Q:=fun r=>r=((0:Int),X.A ((X.at_ pc).A.toNat:Int),(⟨X.key⟩:yK),C)) (by rw [hr])) fun r hr=>tS (by rw [hr];rfl)
 .rw [if_neg e]
  refine tB (tB (P:=fun r=>r=(X.A ((pc+1:Nat):Int),⟨X.key⟩,C)) (tB (tFf rfl (tI (by simp) fun _=>tS (Q:=fun b=>b=false) (by simpa using e))) fun b hb=>tFf hb (tS rfl)) fun r hr=>tS (Q:=fun r=>r=((0:Int),X.A ((pc+1:Nat):Int),(⟨X.key⟩:yK),C)) (by rw [hr])) fun r hr=>tS (by rw [hr];rfl)
theorem zh7 (h:(X.at_ pc).Op=31):Ex X ⟨pc,lo,fi,S++[v],ef⟩ (.go ⟨pc+1,lo,fi,S,ef⟩):=fun C=>by
 unfold stp zI;refine tI (show 0<=(pc:Int)/\(pc:Int)<(X.m.Code.length:Int) by omega) fun _=>?_;have hne:∀n,n≠31->¬(X.at_ pc).Op=n:=fun n hn e=>hn (e.symm.trans h)
 repeat (refine tDn (hne _ (by decide)) ?_)
 refine tDy h ?_;simp only;rw [Ve,hA_e (by omega)];rw [show zJ K _ 1=some 1 from rfl,zu];simp only [hW (S:=S) (a:=[v]) (n:=1) rfl hS,Int.toNat_natCast,List.drop_left,List.take_left];refine tI (by omega) fun _=>tI (by simp) fun _=>tI (by simp) fun _=>tI (by omega) fun _=>tI (by simp) fun _=>?_;exact tS rfl
theorem zh9 (h:(X.at_ pc).Op=33):Ex X ⟨pc,lo,fi,S,ef⟩ (.er 26):=fun C=>by
 unfold stp zI;refine tI (show 0<=(pc:Int)/\(pc:Int)<(X.m.Code.length:Int) by omega) fun _=>?_;have hne:∀n,n≠33->¬(X.at_ pc).Op=n:=fun n hn e=>hn (e.symm.trans h)
 repeat (refine tDn (hne _ (by decide)) ?_)
 refine tDy h ?_;simp only;rw [Ve,hA_e (by omega)];rw [show zJ K _ 0=some 0 from rfl,zu];have e0:=hW (S:=S) (a:=[]) (n:=0) rfl hS;rw [List.append_nil] at e0;simp only [e0,List.drop_length,List.take_length,Int.toNat_natCast];refine tI (by omega) fun _=>tI (by simp) fun _=>tI (by simp) fun _=>tI (by omega) fun _=>tI (by simp) fun _=>?_;exact tS ⟨rfl,by decide⟩
theorem zh8 (h:(X.at_ pc).Op=34) (hn:a.length=2) {g:Effect} (hr:za7 K 1 a ((ef.length:Nat):Int)=some (g,e)) (he:ef.length<=1000):Ex X ⟨pc,lo,fi,S++a,ef⟩ (if e=0 then .go ⟨pc+1,lo,fi,S,ef++[g]⟩ else .er e):=fun C=>by
 unfold stp zI;refine tI (show 0<=(pc:Int)/\(pc:Int)<(X.m.Code.length:Int) by omega) fun _=>?_;have hne:∀n,n≠34->¬(X.at_ pc).Op=n:=fun n hn e=>hn (e.symm.trans h)
 repeat (refine tDn (hne _ (by decide)) ?_)
 refine tDy h ?_;simp only;rw [Ve,hA_e (by omega)];rw [show zJ K _ 2=some 2 from rfl,zu];simp only [hW (S:=S) (a:=a) (n:=2) (by omega) hS,Int.toNat_natCast,List.drop_left,List.take_left];refine tI (by omega) fun _=>tI (by simp) fun _=>tI (by omega) fun _=>tI (by omega) fun _=>tI (by simp) fun _=>?_;unfold WA;rw [hr,zu]
 by_cases q:e=0
 .subst q
  rw [if_pos rfl];refine tB (tB (P:=fun r=>r=(X.A ((pc+1:Nat):Int),⟨X.key⟩,C,ef++[g])) (tTt rfl (tI (by simp;omega) fun _=>tS rfl)) fun r hr=>tS (Q:=fun r=>r=((0:Int),X.A ((pc+1:Nat):Int),(⟨X.key⟩:yK),C,ef++[g])) (by rw [hr])) fun r hr=>tS (by rw [hr];rfl)
 .rw [if_neg q]
  refine tB (tB (P:=fun r=>True) (tFf (beq_eq_false_iff_ne.2 q) (tS trivial)) fun r hr=>tS (Q:=fun r:Int×yj×yK×yE×List Effect=>r.1=e) rfl) fun r hr=>tS ⟨hr,q⟩
theorem zdT (h:(X.at_ pc).Op=35) (hn:a.length=3) {g:Effect} (hr:za7 K 2 a ((ef.length:Nat):Int)=some (g,e)) (he:ef.length<=1000):Ex X ⟨pc,lo,fi,S++a,ef⟩ (if e=0 then .go ⟨pc+1,lo,fi,S,ef++[g]⟩ else .er e):=fun C=>by
 unfold stp zI;refine tI (show 0<=(pc:Int)/\(pc:Int)<(X.m.Code.length:Int) by omega) fun _=>?_;have hne:∀n,n≠35->¬(X.at_ pc).Op=n:=fun n hn e=>hn (e.symm.trans h)
 repeat (refine tDn (hne _ (by decide)) ?_)
 refine tDy h ?_;simp only;rw [Ve,hA_e (by omega)];rw [show zJ K _ 3=some 3 from rfl,zu];simp only [hW (S:=S) (a:=a) (n:=3) (by omega) hS,Int.toNat_natCast,List.drop_left,List.take_left];refine tI (by omega) fun _=>tI (by simp) fun _=>tI (by omega) fun _=>tI (by omega) fun _=>tI (by simp) fun _=>?_;unfold WA;rw [hr,zu]
 by_cases q:e=0
 .subst q
  rw [if_pos rfl];refine tB (tB (P:=fun r=>r=(X.A ((pc+1:Nat):Int),⟨X.key⟩,C,ef++[g])) (tTt rfl (tI (by simp;omega) fun _=>tS rfl)) fun r hr=>tS (Q:=fun r=>r=((0:Int),X.A ((pc+1:Nat):Int),(⟨X.key⟩:yK),C,ef++[g])) (by rw [hr])) fun r hr=>tS (by rw [hr];rfl)
 .rw [if_neg q]
  refine tB (tB (P:=fun r=>True) (tFf (beq_eq_false_iff_ne.2 q) (tS trivial)) fun r hr=>tS (Q:=fun r:Int×yj×yK×yE×List Effect=>r.1=e) rfl) fun r hr=>tS ⟨hr,q⟩
theorem zdS (h:(X.at_ pc).Op=36) (hn:a.length=1) {g:Effect} (hr:za7 K 3 a ((ef.length:Nat):Int)=some (g,e)) (he:ef.length<=1000):Ex X ⟨pc,lo,fi,S++a,ef⟩ (if e=0 then .go ⟨pc+1,lo,fi,S,ef++[g]⟩ else .er e):=fun C=>by
 unfold stp zI;refine tI (show 0<=(pc:Int)/\(pc:Int)<(X.m.Code.length:Int) by omega) fun _=>?_;have hne:∀n,n≠36->¬(X.at_ pc).Op=n:=fun n hn e=>hn (e.symm.trans h)
 repeat (refine tDn (hne _ (by decide)) ?_)
 refine tDy h ?_;simp only;rw [Ve,hA_e (by omega)];rw [show zJ K _ 1=some 1 from rfl,zu];simp only [hW (S:=S) (a:=a) (n:=1) (by omega) hS,Int.toNat_natCast,List.drop_left,List.take_left];refine tI (by omega) fun _=>tI (by simp) fun _=>tI (by omega) fun _=>tI (by omega) fun _=>tI (by simp) fun _=>?_;unfold WA;rw [hr,zu]
 by_cases q:e=0
 .subst q
  rw [if_pos rfl];refine tB (tB (P:=fun r=>r=(X.A ((pc+1:Nat):Int),⟨X.key⟩,C,ef++[g])) (tTt rfl (tI (by simp;omega) fun _=>tS rfl)) fun r hr=>tS (Q:=fun r=>r=((0:Int),X.A ((pc+1:Nat):Int),(⟨X.key⟩:yK),C,ef++[g])) (by rw [hr])) fun r hr=>tS (by rw [hr];rfl)
 .rw [if_neg q]
  refine tB (tB (P:=fun r=>True) (tFf (beq_eq_false_iff_ne.2 q) (tS trivial)) fun r hr=>tS (Q:=fun r:Int×yj×yK×yE×List Effect=>r.1=e) rfl) fun r hr=>tS ⟨hr,q⟩
theorem zld (h:(X.at_ pc).Op=32) (ha:(a.length:Int)=resN X.m) (hc:∀v∈a,cpOk v):Ex X ⟨pc,lo,fi,S++a,ef⟩ (.fi ⟨pc+1,lo,fi,S,ef⟩ (a.getD 0 vz)):=fun C=>by
 unfold stp zI;refine tI (show 0<=(pc:Int)/\(pc:Int)<(X.m.Code.length:Int) by omega) fun _=>?_;have hne:∀n,n≠32->¬(X.at_ pc).Op=n:=fun n hn e=>hn (e.symm.trans h)
 repeat (refine tDn (hne _ (by decide)) ?_)
 refine tDy h ?_;simp only;rw [Ve,hA_e (by omega)];have h1:a.length<=1:=by unfold resN at ha;split at ha<;>omega
 rw [show zJ K _ (resN X.m)=some (resN X.m) from rfl,zu];simp only [hW (S:=S) (a:=a) (n:=resN X.m) ha.symm hS,Int.toNat_natCast,List.drop_left,List.take_left];refine tI (by omega) fun _=>tI (by simp) fun _=>tI (by omega) fun _=>tI (by omega) fun _=>tI (by simp) fun _=>?_;unfold zb_;cases a with
 | nil=>exact tS rfl
 | cons v l =>
  have:l=[]:=List.length_eq_zero_iff.1 (by simpa using h1);subst this;refine tB (tB (P:=fun r=>r=(X.A ((pc+1:Nat):Int),⟨X.key⟩,⟨true,segE 1 v zc⟩)) (tTt rfl (tI (by simp) fun _=>?_)) fun r hr=>tS (Q:=fun r=>r=((0:Int),X.A ((pc+1:Nat):Int),(⟨X.key⟩:yK),(⟨true,segE 1 v zc⟩:yE))) (by rw [hr])) fun r hr=>tS (by rw [hr];rfl);rw [show qp K ([v].getD 0 default)=_ from Yo (hc v (by simp)),zu];exact tS rfl
theorem zh6 (h:(X.at_ pc).Op=30) (hA:0<=(X.at_ pc).A/\(X.at_ pc).A<(X.c.Types.length:Int)) (hB:0<=(X.at_ pc).B/\(X.at_ pc).B<((X.c.Types.getD (X.at_ pc).A.toNat default).Methods.length:Int)) {args:List Value} (ha:args.length=(xJ X.c (X.at_ pc)).Params.length) (hl4:args.length<=100) (hc:∀v∈args,cpOk v):Ex X ⟨pc,lo,fi,S++v::args,ef⟩ (if v.S.length>32 then .er 5 else .cl ⟨pc+1,lo,fi,S,ef⟩ ⟨⟨(X.c.Types.getD (X.at_ pc).A.toNat default).Name,v.S⟩,(xJ X.c (X.at_ pc)).Name,args⟩):=fun C=>by
 unfold stp zI;refine tI (show 0<=(pc:Int)/\(pc:Int)<(X.m.Code.length:Int) by omega) fun _=>?_;have hne:∀n,n≠30->¬(X.at_ pc).Op=n:=fun n hn e=>hn (e.symm.trans h)
 repeat (refine tDn (hne _ (by decide)) ?_)
 refine tDy h ?_;simp only;rw [Ve,hA_e (by omega)];have hca:∀{A:yj},A.code=X.c->vP K (X.at_ pc) A ⟨X.key⟩ C lo fi (S++v::args) ef=some (X.c.Types.getD (X.at_ pc).A.toNat default,xJ X.c (X.at_ pc)):=fun {A} e=>by
  unfold vP;rw [e,zy hA,zy hB];rfl
 have hcb:∀{A:yj},A.code=X.c->vP K (X.at_ pc) A ⟨X.key⟩ C lo fi S ef=some (X.c.Types.getD (X.at_ pc).A.toNat default,xJ X.c (X.at_ pc)):=fun {A} e=>by
  unfold vP;rw [e,zy hA,zy hB];rfl
 have hn:(((1+(xJ X.c (X.at_ pc)).Params.length:Nat)):Int)=((v::args).length:Int):=by simp;omega
 rw [show Zc K (X.at_ pc) (X.A ((pc+1:Nat):Int)) ⟨X.key⟩ C lo fi (S++v::args) ef=some (((v::args).length:Nat):Int) from by
  unfold Zc;rw [hca rfl,zu,zy (by simp only;omega),hn],zu]
 simp only [hW (S:=S) (a:=v::args) (n:=(((v::args).length:Nat):Int)) rfl hS,Int.toNat_natCast,List.drop_left,List.take_left];refine tI (by omega) fun _=>tI (by simp) fun _=>tI (by simp;omega) fun _=>tI (by omega) fun _=>tI (by simp) fun _=>?_;unfold zfo;rw [YG];refine tI (by simp) fun _=>?_;rw [ZK]
 by_cases q:v.S.length>32
 .rw [if_pos q]
  exact tTt (decide_eq_true (show (((v.S.length:Nat):Int)>32) by omega)) (tS ⟨rfl,by decide⟩)
 .rw [if_neg q]
  refine tFf (decide_eq_false (show ¬(((v.S.length:Nat):Int)>32) by omega)) ?_;rw [hcb rfl,zu,YG];refine tI (by simp) fun _=>?_;rw [YG];refine tI (by simp) fun _=>?_;rw [show Xe K ((v::args).drop 1)=some args from zal (l:=args) (by omega) hc,zu];exact tS rfl
end
end Md
end Go.Proofs.YtbijabmjbgplbaaGreatDoor
namespace Go.Proofs.YtbijabmjbgplbaaGreatDoor
namespace Md
theorem zhy {s:UInt64} {i:Nat} (h:i<=63):bit s i=s.toNat.testBit i:=by
 unfold bit Kq;have h1:s.toNat/2^min i 64<2^64:=Nat.lt_of_le_of_lt (Nat.div_le_self ..) s.toNat_lt;rw [Nat.testBit_eq_decide_div_mod_eq,UInt64.toNat_and,UInt64.toNat_ofNat',Nat.mod_eq_of_lt h1,show (1:UInt64).toNat=1 from rfl,Nat.and_one_is_mod,Nat.min_eq_left (by omega)];generalize s.toNat/2^i%2=n
 by_cases e:n=1
 .rw [e];rfl
 .rw [decide_eq_false e]
  exact beq_eq_false_iff_ne.2 (by omega)
theorem zhA {a b:UInt64} {i:Nat} (h:Sub b a) (hi:i<=63) (hb:bit b i=true):bit a i=true:=by
 rw [zhy hi] at *;unfold Sub at h;have h2:b.toNat &&& a.toNat=b.toNat:=by rw [<-UInt64.toNat_and,h]
 rw [<-h2,Nat.testBit_and,Bool.and_eq_true] at hb;exact hb.2
theorem zns {s:UInt64} {i n:Nat} (hi:i<=63) (hn:n<=63) (h:bit (s ||| QU 1 n) i=true):bit s i=true\/i=n:=by
 rw [zhy hi] at *;have e:(QU 1 n).toNat=2^n:=by
  rw [JQ,Nat.min_eq_left (by omega),show (1:UInt64).toNat=1 from rfl,Nat.one_mul,Nat.mod_eq_of_lt (Nat.pow_lt_pow_right (by omega) (by omega))]
 rw [UInt64.toNat_or,e,Nat.testBit_or,Nat.testBit_two_pow,Bool.or_eq_true,decide_eq_true_eq] at h;exact h.imp id Eq.symm
theorem zhz:∀p,p<5->∀i,i<8->p<=i->bit (QU (1:UInt64) p - (1:UInt64)) i=false:=by decide
structure WT (X:VX) (t:zq) (st:List State) (s:VS):Prop where
 pc:s.pc<X.m.Code.length
 re:(st.getD s.pc default).reached=true
 stk:TL (st.getD s.pc default).stack s.st
 lo:s.lo.length=X.m.zK.length
 lv:∀i,i<s.lo.length->TV (X.m.zK.getD i default) (s.lo.getD i default)\/(bit (st.getD s.pc default).set i=false/\s.lo.getD i default=vz)
 fi:TL (t.Fields.map Field.Kind) s.fi
 ef:s.ef.length<=16
def SgO (t:zq) (v:Value) (l:List Value) (s:VS):Prop:=cpOk v/\(l.length<=100/\∀u∈l,cpOk u)/\TL (t.Fields.map Field.Kind) s.fi/\s.ef.length<=16
inductive Snd (X:VX) (t:zq) (st:List State) (s:VS):Prop
 | go (s':VS) (x:Ex X s (.go s')) (w:WT X t st s')
 | er (e:Int) (x:Ex X s (.er e))
 | cl (s':VS) (c:vS) (x:Ex X s (.cl s' c)) (o:(X.at_ s.pc).Op=30) (hp:s'.pc=s.pc+1) (w:∀fi r,TL (t.Fields.map Field.Kind) fi->TL (resK (xJ X.c (X.at_ s.pc))) r->WT X t st ⟨s'.pc,s'.lo,fi,r,[]⟩) (g:SgO t vz c.Args s')
 | fi (s':VS) (v:Value) (x:Ex X s (.fi s' v)) (g:SgO t v [] s')
structure VC (X:VX) (t:zq) (st:List State):Prop where
 k:X.key.length<=32
 fl:t.Fields.length<=8
 v:∀x∈X.m.Code,okV x.Value
 c:Ctx X.c t X.m
 f:FinS X.c t X.m st
section
variable {X:VX} {t:zq} {st:List State} {pc:Nat} {lo fi Sv av:List Value} {ef:List Effect}
theorem WT.cp (h:WT X t st ⟨pc,lo,fi,Sv++av,ef⟩):∀v∈av,cpOk v:=fun v hv=>h.stk.cp v (List.mem_append_right _ hv)
theorem zdr (hC:VC X t st) (h:WT X t st ⟨pc,lo,fi,Sv++av,ef⟩) {S a p:List Int} {r:List Int} (hd:∀j,SJ X.m pc j->j<X.m.Code.length/\(st.getD j default).reached=true/\(st.getD j default).stack=r/\Sub (st.getD j default).set (genP X.m pc (st.getD pc default).set)) (hr:r=S++p) (hS:TL S Sv) {pv:List Value} (hp:TL p pv) {j:Nat} (hj:SJ X.m pc j) {lo' fi':List Value} {ef':List Effect}
  (hlo:lo'.length=lo.length) (hlv:∀i,i<lo.length->lo'.getD i default=lo.getD i default\/TV (X.m.zK.getD i default) (lo'.getD i default)) (hst:(X.at_ pc).Op=3->TV (X.m.zK.getD (X.at_ pc).A.toNat default) (lo'.getD (X.at_ pc).A.toNat default)) (hfi:TL (t.Fields.map Field.Kind) fi') (hef:ef'.length<=16):WT X t st ⟨j,lo',fi',Sv++pv,ef'⟩:=by
 obtain ⟨d1,d2,d3,d4⟩:=hd j hj;have hml:=hC.c.ok.l;have hlo2:=h.lo;refine ⟨d1,d2,?_,hlo.trans h.lo,fun i hi=>?_,hfi,hef⟩
 .show TL (st.getD j default).stack _
  rw [d3,hr];exact hS.app hp
 .have hi':i<lo.length:=by rw [<-hlo];exact hi
  rcases hlv i hi' with e|e
  .rcases h.lv i hi' with q|⟨q1,q2⟩
   .left;show TV _ (lo'.getD i default);rw [e];exact q
   .by_cases q:(X.at_ pc).Op=3/\i=(X.at_ pc).A.toNat
    .left;show TV _ (lo'.getD i default);rw [q.2];exact hst q.1
    .right
     refine ⟨?_,e.trans q2⟩;cases hb:bit (st.getD j default).set i with
     | false=>rfl
     | true =>
      have hi64:i<=63:=by simp only at hlo2;omega
      have:=zhA d4 hi64 hb;unfold genP at this;split at this
      .rename_i ho
       have hA:(X.at_ pc).A.toNat<=63:=by
        have hx:=hC.c.ok.i (X.at_ pc) (getD_mem h.pc);have:=hx.loc (.inr ho);omega
       rcases zns hi64 hA this with k|k
       .rw [q1] at k;cases k
       .exact absurd ⟨ho,k⟩ q
      .rw [q1] at this;cases this
  .exact .inl e
theorem zbn {s:VS} {w:Value} {e:Int} (hx:Ex X s (pshd pc lo fi Sv ef w e)) (hw:e=0->WT X t st ⟨pc+1,lo,fi,Sv++[w],ef⟩):Snd X t st s:=by
 unfold pshd at hx
 by_cases h:e=0
 .rw [if_pos h] at hx;exact .go _ hx (hw h)
 .rw [if_neg h] at hx;exact .er _ hx
theorem zaC {k:Int} {v:Value} (h:TV k v):TL [k] [v]:=TL.cons.2 ⟨h,.nil⟩
theorem znD {x:Instr} {a p:List Int} {nm:List UInt8} {n:Nat} (he:Ef X.c t X.m x a p) (hb:(nm,x.Op,x.A)∈aOp n) (hn:n<=16):∃k,p=[k]/\Bt nm a k/\(arOk nm n->a.length=n):=by
 have ar:∀{m:Nat},arOk nm n->(arOk nm n->n=m)->m=n:=fun h k=>(k h).symm;simp only [aOp,List.mem_cons,Prod.mk.injEq,List.not_mem_nil,or_false] at hb;have q:∀{s:List UInt8} {m:Nat},nm=s->(∀j,arOk s j->j=m)->arOk nm n->m=n:=fun e h k=>(h n (e▸k)).symm;have q1:∀j,arOk [108,101,110] j->j=1:=fun j h=>by rcases h with h|h|⟨h,q⟩|⟨h,q⟩|⟨h,q⟩|⟨h,q⟩|⟨h,q⟩<;>first|exact q|exact absurd h (by decide)
 have q2:∀j,arOk [97,116] j->j=2:=fun j h=>by rcases h with h|h|⟨h,q⟩|⟨h,q⟩|⟨h,q⟩|⟨h,q⟩|⟨h,q⟩<;>first|exact q|exact absurd h (by decide)
 have q3:∀j,arOk [97,112,112,101,110,100] j->j=2:=fun j h=>by rcases h with h|h|⟨h,q⟩|⟨h,q⟩|⟨h,q⟩|⟨h,q⟩|⟨h,q⟩<;>first|exact q|exact absurd h (by decide)
 have q4:∀j,arOk [115,101,116] j->j=3:=fun j h=>by rcases h with h|h|⟨h,q⟩|⟨h,q⟩|⟨h,q⟩|⟨h,q⟩|⟨h,q⟩<;>first|exact q|exact absurd h (by decide)
 have q5:∀j,arOk [115,116,114] j->j=1:=fun j h=>by rcases h with h|h|⟨h,q⟩|⟨h,q⟩|⟨h,q⟩|⟨h,q⟩|⟨h,q⟩<;>first|exact q|exact absurd h (by decide)
 cases he<;>first
  | (exfalso;omega)
  | (rename_i h;exfalso;omega)
  | (rename_i k h;exfalso;omega)
  | (rename_i k h hk;exfalso;omega)
  | (
    rename_i k h hk;have e:nm=[108,101,110]:=by rcases hb with ⟨e,o⟩|⟨e,o⟩|⟨e,o⟩|⟨e,o⟩|⟨e,o⟩|⟨e,o⟩|⟨e,o⟩<;>first|exact e|(exfalso;omega)
    subst e;exact ⟨_,rfl,.len hk,fun k=>q rfl q1 k⟩)
  | (
    rename_i h;have e:nm=[97,116]:=by rcases hb with ⟨e,o⟩|⟨e,o⟩|⟨e,o⟩|⟨e,o⟩|⟨e,o⟩|⟨e,o⟩|⟨e,o⟩<;>first|exact e|(exfalso;omega)
    subst e;first|exact ⟨_,rfl,.at4,fun k=>q rfl q2 k⟩|exact ⟨_,rfl,.at5,fun k=>q rfl q2 k⟩)
  | (
    rename_i h;have e:nm=[97,112,112,101,110,100]:=by rcases hb with ⟨e,o⟩|⟨e,o⟩|⟨e,o⟩|⟨e,o⟩|⟨e,o⟩|⟨e,o⟩|⟨e,o⟩<;>first|exact e|(exfalso;omega)
    subst e;first|exact ⟨_,rfl,.app4,fun k=>q rfl q3 k⟩|exact ⟨_,rfl,.app5,fun k=>q rfl q3 k⟩)
  | (
    rename_i h;have e:nm=[115,101,116]:=by rcases hb with ⟨e,o⟩|⟨e,o⟩|⟨e,o⟩|⟨e,o⟩|⟨e,o⟩|⟨e,o⟩|⟨e,o⟩<;>first|exact e|(exfalso;omega)
    subst e;first|exact ⟨_,rfl,.set4,fun k=>q rfl q4 k⟩|exact ⟨_,rfl,.set5,fun k=>q rfl q4 k⟩)
  | (
    rename_i h;have e:nm=[115,116,114]:=by rcases hb with ⟨e,o⟩|⟨e,o⟩|⟨e,o⟩|⟨e,o⟩|⟨e,o⟩|⟨e,o⟩|⟨e,o⟩<;>first|exact e|(exfalso;omega)
    subst e;exact ⟨_,rfl,.str,fun k=>q rfl q5 k⟩)
  | (
    rename_i h;have e:nm=[105,110,116,115]/\x.A.toNat=n:=by rcases hb with ⟨e,o⟩|⟨e,o⟩|⟨e,o⟩|⟨e,o⟩|⟨e,o⟩|⟨e,o⟩|⟨e,o⟩<;>first|exact ⟨e,by omega⟩|(exfalso;omega)
    obtain ⟨rfl,e⟩:=e;exact ⟨_,rfl,.ints (by omega),fun _=>by rw [List.length_replicate,e]⟩)
  | (
    rename_i h;have e:nm=[115,116,114,105,110,103,115]/\x.A.toNat=n:=by rcases hb with ⟨e,o⟩|⟨e,o⟩|⟨e,o⟩|⟨e,o⟩|⟨e,o⟩|⟨e,o⟩|⟨e,o⟩<;>first|exact ⟨e,by omega⟩|(exfalso;omega)
    obtain ⟨rfl,e⟩:=e;exact ⟨_,rfl,.strs (by omega),fun _=>by rw [List.length_replicate,e]⟩)
  | fail
theorem tl0 {l:List Value} (h:TL [] l):l=[]:=List.length_eq_zero_iff.1 (by simpa using h.1)
theorem SJ.nx {m:zk} {i:Nat} {n:Int} (h:(m.Code.getD i default).Op=n) (h1:n≠32) (h2:n≠33) (h3:n≠28):SJ m i (i+1):=.inl ⟨by omega,by omega,by omega,rfl⟩
theorem zlv {ks:List Int} {l:List Value} (h:TL ks l) {i:Nat} (hi:i<ks.length):TV (ks.getD i default) (l.getD i default):=h.2 i (by rw [h.1];exact hi)
theorem zoj {ks:List Int} {l:List Value} (h:TL ks l) {i:Nat} {v:Value} (hv:TV (ks.getD i default) v):TL ks (l.set i v):=by
 refine ⟨by rw [List.length_set];exact h.1,fun j hj=>?_⟩;rw [List.length_set] at hj
 by_cases hi:i<l.length
 .rw [J3 hi]
  split
  .rename_i e;rw [e];exact hv
  .exact h.2 j hj
 .rw [List.set_eq_of_length_le (by omega)];exact h.2 j hj
theorem zc4 {t:zq} {i:Nat} (h:i<t.Fields.length):(t.Fields.map Field.Kind).getD i default=(t.Fields.getD i default).Kind:=by
 rw [gd h,gd (by simpa using h),List.getElem_map]
theorem zfe {s:VS} {g:Effect} {e:Int} (hx:Ex X s (if e=0 then .go ⟨pc+1,lo,fi,Sv,ef++[g]⟩ else .er e)) (hw:e=0->WT X t st ⟨pc+1,lo,fi,Sv,ef++[g]⟩):Snd X t st s:=by
 by_cases h:e=0
 .rw [if_pos h] at hx;exact .go _ hx (hw h)
 .rw [if_neg h] at hx;exact .er _ hx
theorem sound (hC:VC X t st) {s:VS} (h:WT X t st s):Snd X t st s:=by
 obtain ⟨pc,lo,fi,S0,ef⟩:=s;have hpc:pc<X.m.Code.length:=h.pc;have hl:=hC.c.len;obtain ⟨r,⟨⟨S,a,p,he,h1,h2,h3⟩,hl40⟩,hj⟩:=(hC.f.inv.done pc (by rw [hC.f.inv.len];exact hpc) h.re (by simp)).ex;have hstk:TL (S++a) S0:=h1▸h.stk;obtain ⟨Sv,av,rfl,hS,ha⟩:=hstk.split;have hok:=hC.c.ok.i (X.at_ pc) (getD_mem hpc);have h40:=hC.f.inv.stk pc;have hS1:Sv.length<=1000:=by
  have q:=h.stk.1;simp only [List.length_append] at q;omega
 have hcp:=h.cp;have hfi:TL (t.Fields.map Field.Kind) fi:=h.fi;have hef:ef.length<=16:=h.ef;have hlo:lo.length=X.m.zK.length:=h.lo;have nx:∀{n:Int} {pv:List Value} {j:Nat} {ef':List Effect},(X.at_ pc).Op=n->n≠3->TL p pv->SJ X.m pc j->ef'.length<=16->WT X t st ⟨j,lo,fi,Sv++pv,ef'⟩:=fun {n pv j ef'} ho hn hp hs he=>zdr hC h (S:=S) (a:=a) hj h2 hS hp hs rfl (fun i _=>.inl rfl) (fun e=>absurd (ho.symm.trans e) (by omega)) hfi he;have nx0:∀{n:Int} {j:Nat} {ef':List Effect},(X.at_ pc).Op=n->n≠3->p=[]->SJ X.m pc j->ef'.length<=16->WT X t st ⟨j,lo,fi,Sv,ef'⟩:=fun {n j ef'} ho hn hp hs he=>by
  have:=nx (pv:=[]) ho hn (hp▸.nil) hs he;rwa [List.append_nil] at this
 have n0:a=[]->Sv++av=Sv:=fun e=>by rw [tl0 (show TL [] av from e▸ha),List.append_nil]
 have bin:∀{nm:List UInt8} {u v:Value} {j:Int},(nm,(X.at_ pc).Op)∈bOp->TV j u->TV j v->[resB nm j]=p->(9<=(X.at_ pc).Op/\(X.at_ pc).Op<=20)->Snd X t st ⟨pc,lo,fi,Sv++[u,v],ef⟩:=fun {nm u v j} hb hu hv hp ho=>by
  obtain ⟨⟨w,e⟩,hw,q⟩:=zfs (nm:=nm) hu.2 hv.2;rw [hu.1] at q;exact zbn (zk8 hpc hl hS1 hb hw) fun e=>nx (n:=(X.at_ pc).Op) rfl (by omega) (hp▸zaC (q e)) (.nx (n:=(X.at_ pc).Op) rfl (by omega) (by omega) (by omega)) hef
 have app:∀{nm:List UInt8} {k:Int},Bt nm a k->(nm,(X.at_ pc).Op,(X.at_ pc).A)∈aOp av.length->arOk nm av.length->av.length<=16/\p=[k]/\(21<=(X.at_ pc).Op/\(X.at_ pc).Op<=27)->Snd X t st ⟨pc,lo,fi,Sv++av,ef⟩:=fun {nm k} hB hb har ⟨h16,hp,ho⟩=>by
  obtain ⟨⟨w,e⟩,hw,q⟩:=zdu hB ha;exact zbn (zk7 hpc hl hS1 hb har (by omega) hw) fun e=>nx (n:=(X.at_ pc).Op) rfl (by omega) (hp▸zaC (q e)) (.nx (n:=(X.at_ pc).Op) rfl (by omega) (by omega) (by omega)) hef
 have he:Ef X.c t X.m (X.at_ pc) a p:=he;have A0:¬(2<=(X.at_ pc).Op/\(X.at_ pc).Op<=5)/\(X.at_ pc).Op≠26/\(X.at_ pc).Op≠27/\¬(28<=(X.at_ pc).Op/\(X.at_ pc).Op<=30)->(X.at_ pc).A=0:=fun q=>by have:=hok.a;omega
 cases he with
 | push h0 =>
  rw [n0 rfl];have hv:=hok.push h0;have hvi:=hC.v _ (getD_mem hpc);exact .go _ (zeS hpc hl hS1 h0 hv.1.cp) (nx (n:=1) h0 (by decide) (zaC ⟨rfl,hv.1,hvi.n,hvi.ii⟩) (.nx h0 (by decide) (by decide) (by decide)) hef)
 | load h0 =>
  rw [n0 rfl];have hA:=hok.loc (.inl h0);have hb:=hC.f.bits pc hpc h0;have hv:TV (X.m.zK.getD (X.at_ pc).A.toNat default) (lo.getD (X.at_ pc).A.toNat default):=by
   rcases h.lv (X.at_ pc).A.toNat (by simp only;omega) with q|⟨q,_⟩
   .exact q
   .rw [show bit (st.getD pc default).set (X.at_ pc).A.toNat=true from hb] at q;cases q
  exact .go _ (zia hpc hl hS1 h0 (by rw [hlo];exact hA) hv.2.vv.cp) (nx (n:=2) h0 (by decide) (zaC hv) (.nx h0 (by decide) (by decide) (by decide)) hef)
 | get h0 =>
  rw [n0 rfl];have hA:=hok.fld (.inl h0);have hfl:fi.length=t.Fields.length:=by rw [hfi.1,List.length_map]
  have hv:=zlv hfi (i:=(X.at_ pc).A.toNat) (by rw [List.length_map];omega);rw [zc4 (by omega)] at hv;exact .go _ (zk9 hpc hl hS1 h0 (by rw [hfl];exact hA) hv.2.vv.cp) (nx (n:=4) h0 (by decide) (zaC hv) (.nx h0 (by decide) (by decide) (by decide)) hef)
 | self h0 =>
  rw [n0 rfl];exact .go _ (zib hpc hl hS1 h0) (nx (n:=6) h0 (by decide) (zaC (zgm (by have:=hC.k;omega))) (.nx h0 (by decide) (by decide) (by decide)) hef)
 | store h0 =>
  obtain ⟨v,rfl,hv⟩:=tl1 ha;have hA:=hok.loc (.inr h0);have hi:(X.at_ pc).A.toNat<lo.length:=by omega
  have:=zdr hC h (S:=S) (a:=[X.m.zK.getD (X.at_ pc).A.toNat default]) hj h2 hS (pv:=[]) .nil (j:=pc+1) (.nx h0 (by decide) (by decide) (by decide)) (lo':=lo.set (X.at_ pc).A.toNat v) (fi':=fi) (ef':=ef) (by simp) (fun i hi'=>by
   rw [J3 hi];split
   .rename_i e;rw [e];exact .inr hv
   .exact .inl rfl) (fun _=>by rw [J3 hi,if_pos rfl];exact hv) hfi hef
  rw [List.append_nil] at this;exact .go _ (zfJ hpc hl hS1 h0 (by rw [hlo];exact hA) hv.2.vv.cp) this
 | put h0 =>
  obtain ⟨v,rfl,hv⟩:=tl1 ha;have hA:=hok.fld (.inr h0);have hfl:fi.length=t.Fields.length:=by rw [hfi.1,List.length_map]
  have:=zdr hC h (S:=S) (a:=[(t.Fields.getD (X.at_ pc).A.toNat default).Kind]) hj h2 hS (pv:=[]) .nil (j:=pc+1) (.nx h0 (by decide) (by decide) (by decide)) (lo':=lo) (fi':=fi.set (X.at_ pc).A.toNat v) (ef':=ef) rfl (fun i hi'=>.inl rfl) (fun e=>by have:=h0.symm.trans e;omega) (zoj hfi (by rw [zc4 (by omega)];exact hv)) hef;rw [List.append_nil] at this;exact .go _ (zlc hpc hl hS1 h0 (by rw [hfl];exact hA) hv.2.vv.cp) this
 | neg h0 =>
  obtain ⟨v,rfl,hv⟩:=tl1 ha;obtain ⟨⟨w,e⟩,hr,q1,q2⟩:=zeu (nm:=[45]) hv.2;exact zbn (zla hpc hl hS1 h0 hr) fun _=>nx (n:=7) h0 (by decide) (zaC (q2 (by decide))) (.nx h0 (by decide) (by decide) (by decide)) hef
 | not h0 =>
  obtain ⟨v,rfl,hv⟩:=tl1 ha;obtain ⟨⟨w,e⟩,hr,q1,q2⟩:=zeu (nm:=[33]) hv.2;exact zbn (zlb hpc hl hS1 h0 hr) fun _=>nx (n:=8) h0 (by decide) (zaC (q1 rfl)) (.nx h0 (by decide) (by decide) (by decide)) hef
 | ar h0 =>
  obtain ⟨u,v,rfl,hu,hv⟩:=tl2 ha;rcases h0 with h0|h0|h0|h0|h0
  .exact bin (nm:=[43]) (by rw [h0];simp [bOp]) hu hv (by decide) (by omega)
  .exact bin (nm:=[45]) (by rw [h0];simp [bOp]) hu hv (by decide) (by omega)
  .exact bin (nm:=[42]) (by rw [h0];simp [bOp]) hu hv (by decide) (by omega)
  .exact bin (nm:=[47]) (by rw [h0];simp [bOp]) hu hv (by decide) (by omega)
  .exact bin (nm:=[37]) (by rw [h0];simp [bOp]) hu hv (by decide) (by omega)
 | cat h0 =>
  obtain ⟨u,v,rfl,hu,hv⟩:=tl2 ha;exact bin (nm:=[43]) (by rw [h0];simp [bOp]) hu hv (by decide) (by omega)
 | eq k h0 =>
  obtain ⟨u,v,rfl,hu,hv⟩:=tl2 ha;rcases h0 with h0|h0
  .exact bin (nm:=[61,61]) (by rw [h0];simp [bOp]) hu hv (by unfold resB;rw [if_pos (by simp)]) (by omega)
  .exact bin (nm:=[33,61]) (by rw [h0];simp [bOp]) hu hv (by unfold resB;rw [if_pos (by simp)]) (by omega)
 | cmp k h0 hk =>
  obtain ⟨u,v,rfl,hu,hv⟩:=tl2 ha;rcases h0 with h0|h0|h0|h0
  .exact bin (nm:=[60]) (by rw [h0];simp [bOp]) hu hv (by unfold resB;rw [if_pos (by simp)]) (by omega)
  .exact bin (nm:=[60,61]) (by rw [h0];simp [bOp]) hu hv (by unfold resB;rw [if_pos (by simp)]) (by omega)
  .exact bin (nm:=[62]) (by rw [h0];simp [bOp]) hu hv (by unfold resB;rw [if_pos (by simp)]) (by omega)
  .exact bin (nm:=[62,61]) (by rw [h0];simp [bOp]) hu hv (by unfold resB;rw [if_pos (by simp)]) (by omega)
 | len k h0 hk =>
  have el:av.length=1:=ha.1;exact app (nm:=[108,101,110]) (.len hk) (by rw [h0,A0 (by omega)];simp [aOp]) (by rw [el];exact .inr (.inr (.inl ⟨rfl,rfl⟩))) ⟨by omega,rfl,by omega⟩
 | at4 h0 =>
  have el:av.length=2:=ha.1;exact app (nm:=[97,116]) .at4 (by rw [h0,A0 (by omega)];simp [aOp]) (by rw [el];exact .inr (.inr (.inr (.inl ⟨rfl,rfl⟩)))) ⟨by omega,rfl,by omega⟩
 | at5 h0 =>
  have el:av.length=2:=ha.1;exact app (nm:=[97,116]) .at5 (by rw [h0,A0 (by omega)];simp [aOp]) (by rw [el];exact .inr (.inr (.inr (.inl ⟨rfl,rfl⟩)))) ⟨by omega,rfl,by omega⟩
 | app4 h0 =>
  have el:av.length=2:=ha.1;exact app (nm:=[97,112,112,101,110,100]) .app4 (by rw [h0,A0 (by omega)];simp [aOp]) (by rw [el];exact .inr (.inr (.inr (.inr (.inl ⟨rfl,rfl⟩))))) ⟨by omega,rfl,by omega⟩
 | app5 h0 =>
  have el:av.length=2:=ha.1;exact app (nm:=[97,112,112,101,110,100]) .app5 (by rw [h0,A0 (by omega)];simp [aOp]) (by rw [el];exact .inr (.inr (.inr (.inr (.inl ⟨rfl,rfl⟩))))) ⟨by omega,rfl,by omega⟩
 | set4 h0 =>
  have el:av.length=3:=ha.1;exact app (nm:=[115,101,116]) .set4 (by rw [h0,A0 (by omega)];simp [aOp]) (by rw [el];exact .inr (.inr (.inr (.inr (.inr (.inl ⟨rfl,rfl⟩)))))) ⟨by omega,rfl,by omega⟩
 | set5 h0 =>
  have el:av.length=3:=ha.1;exact app (nm:=[115,101,116]) .set5 (by rw [h0,A0 (by omega)];simp [aOp]) (by rw [el];exact .inr (.inr (.inr (.inr (.inr (.inl ⟨rfl,rfl⟩)))))) ⟨by omega,rfl,by omega⟩
 | str h0 =>
  have el:av.length=1:=ha.1;exact app (nm:=[115,116,114]) .str (by rw [h0,A0 (by omega)];simp [aOp]) (by rw [el];exact .inr (.inr (.inr (.inr (.inr (.inr ⟨rfl,rfl⟩)))))) ⟨by omega,rfl,by omega⟩
 | ints h0 =>
  have hA:=hok.mak (by omega);have el:av.length=(X.at_ pc).A.toNat:=by rw [ha.1,List.length_replicate]
  exact app (nm:=[105,110,116,115]) (.ints (by omega)) (by rw [h0,show (X.at_ pc).A=((av.length:Nat):Int) by omega];simp [aOp]) (.inl rfl) ⟨by omega,rfl,by omega⟩
 | strs h0 =>
  have hA:=hok.mak (by omega);have el:av.length=(X.at_ pc).A.toNat:=by rw [ha.1,List.length_replicate]
  exact app (nm:=[115,116,114,105,110,103,115]) (.strs (by omega)) (by rw [h0,show (X.at_ pc).A=((av.length:Nat):Int) by omega];simp [aOp]) (.inr (.inl rfl)) ⟨by omega,rfl,by omega⟩
 | jif h0 =>
  obtain ⟨v,rfl,hv⟩:=tl1 ha;have hA:=hok.jmp (.inr h0);refine .go _ (zk_ hpc hl hS1 h0 hA.1) ?_;split
  .exact nx0 (n:=29) h0 (by decide) rfl (.inr ⟨.inr h0,by rw [Int.toNat_of_nonneg hA.1];rfl⟩) hef
  .exact nx0 (n:=29) h0 (by decide) rfl (.nx h0 (by decide) (by decide) (by decide)) hef
 | call h0 =>
  have hA:=hok.call h0;cases av with
  | nil=>simp [TL] at ha
  | cons v args =>
   obtain ⟨hv,hargs⟩:=TL.cons.1 (show TL (3::(xJ X.c (X.at_ pc)).Params) (v::args) from ha);have h4:=hC.c.callee pc hpc h0;have hx:=zh6 hpc hl hS1 (S:=Sv) (lo:=lo) (fi:=fi) (ef:=ef) (v:=v) h0 hA.1 hA.2 (args:=args) hargs.1 (by have:=hargs.1;have:(xJ X.c (X.at_ pc)).Params.length<=4:=h4;omega) fun w hw=>hcp w (List.mem_cons_of_mem _ hw)
   by_cases q:v.S.length>32
   .rw [if_pos q] at hx;exact .er _ hx
   .rw [if_neg q] at hx
    refine .cl _ _ hx h0 rfl (fun fi' r hf hr=>?_) ⟨zbB,⟨by have:=hargs.1;have:(xJ X.c (X.at_ pc)).Params.length<=4:=h4;show args.length<=100;omega,fun w hw=>hcp w (List.mem_cons_of_mem _ hw)⟩,hfi,hef⟩;have hS0:S=[]:=h3 (.inr h0);have:=zdr hC h (S:=S) (a:=[3]++(xJ X.c (X.at_ pc)).Params) hj h2 hS (pv:=r) hr (j:=pc+1) (.nx h0 (by decide) (by decide) (by decide)) (lo':=lo) (fi':=fi') (ef':=[]) rfl (fun i hi'=>.inl rfl) (fun e=>by have:=h0.symm.trans e;omega) hf (by simp);rwa [tl0 (show TL [] Sv from hS0▸hS),List.nil_append] at this
 | drop k h0 =>
  obtain ⟨v,rfl,hv⟩:=tl1 ha;exact .go _ (zh7 hpc hl hS1 h0) (nx0 (n:=31) h0 (by decide) rfl (.nx h0 (by decide) (by decide) (by decide)) hef)
 | ret h0 =>
  have hn:(av.length:Int)=resN X.m:=by
   rw [ha.1];unfold resK resN;split<;>rfl
  refine .fi _ _ (zld hpc hl hS1 h0 hn hcp) ⟨?_,⟨by simp,by simp⟩,hfi,hef⟩;cases av with
  | nil=>exact zbB
  | cons v l=>exact hcp v (List.mem_cons_self ..)
 | non h0 =>
  rw [n0 rfl];rcases h0 with h0|h0
  .have hA:=hok.jmp (.inl h0)
   exact .go _ (zh_ hpc hl hS1 h0 hA.1) (nx0 (n:=28) h0 (by decide) rfl (.inr ⟨.inl h0,by rw [Int.toNat_of_nonneg hA.1];rfl⟩) hef)
  .exact .er _ (zh9 hpc hl hS1 h0)
 | emit h0 =>
  have el:av.length=2:=ha.1;obtain ⟨⟨g,e⟩,hg,q⟩:=zjl (k:=1) (n:=((ef.length:Nat):Int)) (l:=av) (.inl ⟨rfl,by omega⟩);exact zfe (zh8 hpc hl hS1 h0 el hg (by omega)) fun e0=>nx0 (n:=34) h0 (by decide) rfl (.nx h0 (by decide) (by decide) (by decide)) (by have:=q e0;simp;omega)
 | zls h0 =>
  have el:av.length=3:=ha.1;obtain ⟨⟨g,e⟩,hg,q⟩:=zjl (k:=2) (n:=((ef.length:Nat):Int)) (l:=av) (.inr (.inl ⟨rfl,by omega⟩));exact zfe (zdT hpc hl hS1 h0 el hg (by omega)) fun e0=>nx0 (n:=35) h0 (by decide) rfl (.nx h0 (by decide) (by decide) (by decide)) (by have:=q e0;simp;omega)
 | cancel h0 =>
  have el:av.length=1:=ha.1;obtain ⟨⟨g,e⟩,hg,q⟩:=zjl (k:=3) (n:=((ef.length:Nat):Int)) (l:=av) (.inr (.inr ⟨rfl,by omega⟩));exact zfe (zdS hpc hl hS1 h0 el hg (by omega)) fun e0=>nx0 (n:=36) h0 (by decide) rfl (.nx h0 (by decide) (by decide) (by decide)) (by have:=q e0;simp;omega)
end
end Md
end Go.Proofs.YtbijabmjbgplbaaGreatDoor
namespace Go.Proofs.YtbijabmjbgplbaaGreatDoor
namespace Md
section
variable {X:VX} {t:zq} {st:List State} {s s' s'':VS} {o o':VO}
theorem zlz {a b:Nat} (h:X.A (a:Int)=X.A (b:Int)):a=b:=by
 unfold VX.A at h;injection h with _ _ _ _ h
 omega
theorem Ex.det (h:Ex X s o) (k:Ex X s o'):o=o':=by
 obtain ⟨r,e,hr⟩:=h ⟨false,segE 9 vz zc⟩;obtain ⟨r',e',hr'⟩:=k ⟨false,segE 9 vz zc⟩;obtain rfl:r=r':=Option.some.inj (e.symm.trans e');cases o with
 | go a =>
  cases o' with
  | go b =>
   have q:_=_:=hr.symm.trans hr';simp only [Prod.mk.injEq,true_and] at q;obtain ⟨q1,q2,q3,q4,q5⟩:=q;have:=zlz q1;cases a;cases b
   simp_all
  | er b=>exact absurd (by rw [<-hr'.1,hr]) hr'.2
  | cl b c=>rw [hr] at hr';simp [SR,segE] at hr'
  | fi b c=>rw [hr] at hr';simp [SR,segE] at hr'
 | er a =>
  cases o' with
  | go b=>exact absurd (by rw [<-hr.1,hr']) hr.2
  | er b=>rw [<-hr.1,<-hr'.1]
  | cl b c=>exact absurd (by rw [<-hr.1,hr']) hr.2
  | fi b c=>exact absurd (by rw [<-hr.1,hr']) hr.2
 | cl a c =>
  cases o' with
  | go b=>rw [hr] at hr';simp [SR,segE] at hr'
  | er b=>exact absurd (by rw [<-hr'.1,hr]) hr'.2
  | cl b d =>
   have q:_=_:=hr.symm.trans hr';simp only [Prod.mk.injEq,true_and,segE,yE.mk.injEq,zi.mk.injEq] at q;obtain ⟨q1,q2,q3,q4,q5,q6⟩:=q;have:=zlz q1;cases a;cases b
   simp_all
  | fi b d=>rw [hr] at hr';simp [SR,segE] at hr'
 | fi a c =>
  cases o' with
  | go b=>rw [hr] at hr';simp [SR,segE] at hr'
  | er b=>exact absurd (by rw [<-hr'.1,hr]) hr'.2
  | cl b d=>rw [hr] at hr';simp [SR,segE] at hr'
  | fi b d =>
   have q:_=_:=hr.symm.trans hr';simp only [Prod.mk.injEq,true_and,segE,yE.mk.injEq,zi.mk.injEq] at q;obtain ⟨q1,q2,q3,q4,q5,q6⟩:=q;have:=zlz q1;cases a;cases b
   simp_all
theorem WT.go (hC:VC X t st) (w:WT X t st s) (x:Ex X s (.go s')):WT X t st s':=by
 cases sound hC w with
 | go a y w=>cases x.det y;exact w
 | er e y=>cases x.det y
 | cl a c y=>cases x.det y
 | fi a v y=>cases x.det y
inductive Steps (X:VX):VS->VS->Prop
 | rfl {s:VS}:Steps X s s
 | tl {s s' s'':VS} (x:Ex X s (.go s')) (k:Steps X s' s''):Steps X s s''
theorem Steps.tr (h:Steps X s s') (k:Steps X s' s''):Steps X s s'':=by
 induction h with
 | rfl=>exact k
 | tl x _ ih=>exact .tl x (ih k)
theorem Steps.sn (h:Steps X s s') (x:Ex X s' (.go s'')):Steps X s s'':=h.tr (.tl x .rfl)
theorem Steps.wt (hC:VC X t st) (h:Steps X s s') (w:WT X t st s):WT X t st s':=by
 induction h with
 | rfl=>exact w
 | tl x _ ih=>exact ih (w.go hC x)
def seg (k:Int) (v:Value) (c:vS) (e:Int) (fi:List Value) (ef:List Effect):zi:=⟨k,v,c,e,zm,fi,ef,0⟩
def rpl (k:Int) (r:Value):List Value:=if k=0 then [] else [r]
abbrev inp (ins:List Input) (n:Nat):Input:=ins.getD n default
inductive OKs (X:VX) (ins:List Input):Nat->VS->List zi->Prop
 | go {n:Nat} {s s':VS} {l:List zi} (x:Ex X s (.go s')) (k:OKs X ins n s' l):OKs X ins n s l
 | er {n:Nat} {s:VS} {e:Int} (x:Ex X s (.er e)):OKs X ins n s [seg 3 vz zc e (inp ins (n - 1)).Fields []]
 | fi {n:Nat} {s s':VS} {v:Value} (x:Ex X s (.fi s' v)):OKs X ins n s [seg 1 v zc 0 s'.fi s'.ef]
 | clx {n:Nat} {s s':VS} {c:vS} (x:Ex X s (.cl s' c)):OKs X ins n s [seg 2 vz c 0 s'.fi s'.ef]
 | cl {n:Nat} {s s':VS} {c:vS} {l:List zi} (x:Ex X s (.cl s' c)) (hn:n<ins.length) (hf:FitL [(inp ins n).vY] [(xJ X.c (X.at_ s.pc)).Result]) (k:OKs X ins (n+1) ⟨s'.pc,s'.lo,(inp ins n).Fields,rpl (xJ X.c (X.at_ s.pc)).Result (inp ins n).vY,[]⟩ l):OKs X ins n s (seg 2 vz c 0 s'.fi s'.ef::l)
 | fu {n:Nat} {s:VS} {fi:List Value}:OKs X ins n s [seg 3 vz zc 17 fi []]
theorem OKs.steps {ins:List Input} {n:Nat} {l:List zi} (h:Steps X s s') (k:OKs X ins n s' l):OKs X ins n s l:=by
 induction h with
 | rfl=>exact k
 | tl x _ ih=>exact .go x (ih k)
def tb (X:VX):=((0:Int),(0:Int),(0:Int),(0:Int),(1:Int),(1:Int),(1:Int),([45]:List UInt8),(1:Int),([33]:List UInt8),(2:Int),([43]:List UInt8),(2:Int),([43]:List UInt8),(2:Int),([45]:List UInt8),(2:Int),([42]:List UInt8),(2:Int),([47]:List UInt8),(2:Int),([37]:List UInt8),(2:Int),([61,61]:List UInt8),(2:Int),([33,61]:List UInt8),(2:Int),([60]:List UInt8),(2:Int),([60,61]:List UInt8),(2:Int),([62]:List UInt8),(2:Int),([62,61]:List UInt8),(1:Int),([108,101,110]:List UInt8),(2:Int),([97,116]:List UInt8),(2:Int),([97,112,112,101,110,100]:List UInt8),(3:Int),([115,101,116]:List UInt8),(1:Int),([115,116,114]:List UInt8),([105,110,116,115]:List UInt8),([115,116,114,105,110,103,115]:List UInt8),(0:Int),(1:Int),(1:Int),resN X.m,(0:Int),(2:Int),(1:Int),(3:Int),(2:Int),(1:Int),(3:Int))
theorem zm0 {pc:Int} {B:yK} {C:yE} {lo fi S:List Value} {ef:List Effect}:Yh K (X.A pc) B C lo fi S ef=some (tb X):=by
 unfold Yh tb resN
 by_cases e:X.m.Result=0
 .have:((X.A pc).method.Result != (0:Int))=false:=by show (X.m.Result != 0)=false;rw [e];rfl
  rw [this,if_pos e];rfl
 .have:((X.A pc).method.Result != (0:Int))=true:=bne_iff_ne.2 e
  rw [this,if_neg e];rfl
def rl (X:VX) (f0:List Value) (n used:Nat) (C:yE) (s:VS):=wF K 6000 (tb X) f0 n (used,X.A s.pc,⟨X.key⟩,C,s.lo,s.fi,s.st,s.ef)
variable {f0:List Value} {n used:Nat} {C:yE} {Q:_->Prop}
theorem ze9 {e:Option (Int×yj×yK×yE×(List Value)×(List Value)×(List Value)×(List Effect))} (hC:C.Qj=false) (hu:used<=6000) (he:stp X C s=e):rl X f0 (n+1) used C s=e.bind fun x5=>bif (x5.1 != (0:Int)) then (some (.inr ((⟨(3:Int),vz,zc,x5.1,zm,f0,[],(min ((used:Nat):Int) 6000)⟩:zi),x5.2.1,x5.2.2.2.2.1,x5.2.2.1,x5.2.2.2.2.2.1,x5.2.2.2.2.2.2.2,x5.2.2.2.1,x5.2.2.2.2.2.2.1))) else (ifp (used+1<=9223372036854775807)<|wF K 6000 (tb X) f0 n ((used+1),x5.2.1,x5.2.2.1,(⟨x5.2.2.2.1.Qj,⟨x5.2.2.2.1.out.Kind,x5.2.2.2.1.out.Value,x5.2.2.2.1.out.Call,x5.2.2.2.1.out.Err,x5.2.2.2.1.out.Machine,x5.2.2.2.1.out.Fields,x5.2.2.2.1.out.qw,((used:Nat):Int)⟩⟩:yE),x5.2.2.2.2.1,x5.2.2.2.2.2.1,x5.2.2.2.2.2.2.1,x5.2.2.2.2.2.2.2)):=by
 subst he;unfold rl wF;rw [rounds_succ];show (bif !C.Qj then _ else _)=_;rw [hC];show ((bif decide (((used:Nat):Int)<=6000) then _ else _:Option _).bind _)=_;rw [decide_eq_true (show ((used:Nat):Int)<=6000 by omega),cond_true];show ((stp X C s).bind fun x4=>some (x4.1,x4.2.1,x4.2.2.1,x4.2.2.2.1,x4.2.2.2.2.1,x4.2.2.2.2.2.1,x4.2.2.2.2.2.2.1,x4.2.2.2.2.2.2.2)).bind _=_;rw [Jk];rfl
theorem zaS (hC:C.Qj=false) (hu:6000<used):Tot (rl X f0 (n+1) used C s) fun o=>∃r q,o=.inr (r,q)/\r.Err=17:=by
 unfold rl wF;rw [rounds_succ];show Tot (bif !C.Qj then _ else _) _;rw [hC];show Tot ((bif decide (((used:Nat):Int)<=6000) then _ else _:Option _).bind _) _;rw [decide_eq_false (show ¬((used:Nat):Int)<=6000 by omega),cond_false,zu];exact tS ⟨_,_,rfl,rfl⟩
theorem zn6 (hC:C.Qj=false) (hu:used<=6000) (x:Ex X s (.go s')) (k:∀C':yE,C'.Qj=false->Tot (rl X f0 n (used+1) C' s') Q):Tot (rl X f0 (n+1) used C s) Q:=by
 obtain ⟨r,e,hr⟩:=x C;rw [ze9 hC hu e,zu,hr];exact tI (by omega) fun _=>k _ hC
theorem zn5 {e:Int} (hC:C.Qj=false) (hu:used<=6000) (x:Ex X s (.er e)) (k:∀f q,Q (.inr ((⟨3,vz,zc,e,zm,f0,[],f⟩:zi),q))):Tot (rl X f0 (n+1) used C s) Q:=by
 obtain ⟨r,e',hr,h0⟩:=x C;rw [ze9 hC hu e',zu,hr,bne_iff_ne.2 h0];exact tS (k _ _)
theorem zec {sg:zi} {r:Int×yj×yK×yE×(List Value)×(List Value)×(List Value)×(List Effect)} (hC:C.Qj=false) (hu:used<=6000) (x:stp X C s=some r) (hr:r=(0,X.A s'.pc,⟨X.key⟩,⟨true,sg⟩,s'.lo,s'.fi,s'.st,s'.ef)):Tot (rl X f0 (n+2) used C s) fun o=>o=.inl (X.A s'.pc,⟨X.key⟩,⟨true,⟨sg.Kind,sg.Value,sg.Call,sg.Err,sg.Machine,sg.Fields,sg.qw,((used:Nat):Int)⟩⟩,s'.lo,s'.fi,s'.st,s'.ef):=by
 rw [ze9 hC hu x,zu,hr];refine tI (by omega) fun _=>?_;unfold wF;rw [rounds_succ];exact tS rfl
end
end Md
end Go.Proofs.YtbijabmjbgplbaaGreatDoor
namespace Go.Proofs.YtbijabmjbgplbaaGreatDoor
namespace Md
def fin (X:VX) (s:VS) (C:yE):zi:=if C.out.Kind=2 then ⟨C.out.Kind,C.out.Value,C.out.Call,C.out.Err,⟨X.ti,X.mi,s.pc,s.lo⟩,s.fi,s.ef,C.out.Fuel⟩ else ⟨C.out.Kind,C.out.Value,C.out.Call,C.out.Err,C.out.Machine,s.fi,s.ef,C.out.Fuel⟩
abbrev RT:=(yj×yK×yE×(List Value)×(List Value)×(List Value)×(List Effect)) ⊕ (zi×yj×(List Value)×yK×(List Value)×(List Effect)×yE×(List Value))
def RO (X:VX) (P:zi->Prop) (o:RT):Prop:=(∃r q,o=.inr (r,q)/\P r)\/∃(s:VS) (C:yE),o=.inl (X.A s.pc,⟨X.key⟩,C,s.lo,s.fi,s.st,s.ef)/\P (fin X s C)
structure Bg (X:VX) (t:zq) (st:List State) (ins:List Input) (n pc:Nat) (lo:List Value) (l:List zi):Prop where
 hn:n<ins.length
 k:∃k,((pc=0/\k=0)\/(0<pc/\(X.at_ (pc - 1)).Op=30/\k=(xJ X.c (X.at_ (pc - 1))).Result))/\FitL [(inp ins n).vY] [k]/\WT X t st ⟨pc,lo,(inp ins n).Fields,rpl k (inp ins n).vY,[]⟩/\OKs X ins (n+1) ⟨pc,lo,(inp ins n).Fields,rpl k (inp ins n).vY,[]⟩ l
def sgS (h:zi):Prop:=cpOk h.Value/\(h.Call.Args.length<=100/\∀u∈h.Call.Args,cpOk u)/\(h.Fields.length<=100/\∀u∈h.Fields,cpOk u)/\h.qw.length<=100
theorem SgO.sg {t:zq} {v:Value} {l:List Value} {s:VS} (h:SgO t v l s) (ht:t.Fields.length<=8) {k e:Int} {c:vS} (hc:c.Args=l):sgS (seg k v c e s.fi s.ef):=by
 obtain ⟨h1,h2,h3,h4⟩:=h;have:=h3.1;rw [List.length_map] at this;exact ⟨h1,by unfold seg;rw [hc];exact h2,⟨by show s.fi.length<=100;omega,h3.cp⟩,by show s.ef.length<=100;omega⟩
def Mt (X:VX) (t:zq) (st:List State) (ins:List Input) (n:Nat) (l:List zi) (r:zi):Prop:=r.Err=17\/∃h l',l=h::l'/\(h.Err=17\/(sgS h/\r.Kind=h.Kind/\r.Value=h.Value/\r.Call=h.Call/\r.Err=h.Err/\r.Fields=h.Fields/\r.qw=h.qw/\(l'=[]\/∃pc lo,r.Machine=⟨X.ti,X.mi,((pc:Nat):Int),lo⟩/\Bg X t st ins n pc lo l')))
structure InI (t:zq) (ins:List Input):Prop where
 f:∀n,n<ins.length->TL (t.Fields.map Field.Kind) (inp ins n).Fields
 r:∀n,n<ins.length->I64 (inp ins n).vY.N/\∀x∈(inp ins n).vY.I,I64 x
section
variable {X:VX} {t:zq} {st:List State} {s s' s'':VS} {ins:List Input} {f0:List Value}
theorem zn8 {m:zk} {n:Nat} (hi:InI t ins) (hn:n<ins.length) {k:Int} (h:FitL [(inp ins n).vY] [k]) (hk:m.Result=k):TL (resK m) (rpl k (inp ins n).vY):=by
 unfold resK rpl;rw [hk];split
 .exact .nil
 .have:=h.2 0 (by simp)
  have hr:=hi.r n hn;exact zaC ⟨this.1,this.2,hr.1,hr.2⟩
theorem run_any (hC:VC X t st):∀(m used:Nat) (C:yE) (s:VS),WT X t st s->C.Qj=false->6003<=used+m->2<=m->Tot (rl X f0 m used C s) (RO X fun _=>True):=by
 intro m
 induction m with
 | zero=>intro _ _ _ _ _ _ h;omega
 | succ m ih =>
  intro used C s w hd h1 h2
  by_cases hu:used<=6000
  .cases sound hC w with
   | go a x w=>exact zn6 hd hu x fun C' hd'=>ih (used+1) C' a w hd' (by omega) (by omega)
   | er e x=>exact zn5 hd hu x fun f q=>.inl ⟨_,_,rfl,trivial⟩
   | cl a c x =>
    obtain ⟨r,e,hr⟩:=x C;obtain ⟨m,rfl⟩:∃j,m=j+1:=⟨m - 1,by omega⟩;exact (zec (s':=a) hd hu e hr).mono fun o ho=>.inr ⟨a,_,ho,trivial⟩
   | fi a v x =>
    obtain ⟨r,e,hr⟩:=x C;obtain ⟨m,rfl⟩:∃j,m=j+1:=⟨m - 1,by omega⟩;exact (zec (s':=a) hd hu e hr).mono fun o ho=>.inr ⟨a,_,ho,trivial⟩
  .exact (zaS hd (by omega)).mono fun o ⟨r,q,e,_⟩=>.inl ⟨r,q,e,trivial⟩
theorem zod (hC:VC X t st) (hi:InI t ins) {n:Nat} {l:List zi} (h:OKs X ins n s l):(1<=n/\n<=ins.length)->∀(m used:Nat) (C:yE),WT X t st s->C.Qj=false->6003<=used+m->2<=m->Tot (rl X (inp ins (n - 1)).Fields m used C s) (RO X (Mt X t st ins n l)):=by
 have sg0:∀{n:Nat} {e:Int},(1<=n/\n<=ins.length)->sgS (seg 3 vz zc e (inp ins (n - 1)).Fields []):=fun {n e} hn=>by
  have hf:=hi.f (n - 1) (by omega);have:=hf.1;have:=hC.fl;rw [List.length_map] at *;exact ⟨zbB,⟨by simp [seg],by simp [seg]⟩,⟨by show (inp ins (n - 1)).Fields.length<=100;omega,hf.cp⟩,by simp [seg]⟩
 induction h with
 | go x k ih =>
  intro hn m used C w hd h1 h2;obtain ⟨m,rfl⟩:∃j,m=j+1:=⟨m - 1,by omega⟩
  by_cases hu:used<=6000
  .exact zn6 hd hu x fun C' hd'=>ih hn m (used+1) C' (w.go hC x) hd' (by omega) (by omega)
  .exact (zaS hd (by omega)).mono fun o ⟨r,q,e,e2⟩=>.inl ⟨r,q,e,.inl e2⟩
 | er x =>
  intro hn m used C w hd h1 h2;obtain ⟨m,rfl⟩:∃j,m=j+1:=⟨m - 1,by omega⟩
  by_cases hu:used<=6000
  .exact zn5 hd hu x fun f q=>.inl ⟨_,_,rfl,.inr ⟨_,_,rfl,.inr ⟨sg0 hn,rfl,rfl,rfl,rfl,rfl,rfl,.inl rfl⟩⟩⟩
  .exact (zaS hd (by omega)).mono fun o ⟨r,q,e,e2⟩=>.inl ⟨r,q,e,.inl e2⟩
 | @fi n s s' v x =>
  intro hn m used C w hd h1 h2;have g:SgO t v [] s':=by
   cases sound hC w with
   | go a y w=>cases x.det y
   | er e y=>cases x.det y
   | cl a c y=>cases x.det y
   | fi a v y g=>cases x.det y;exact g
  obtain ⟨m,rfl⟩:∃j,m=j+2:=⟨m - 2,by omega⟩
  by_cases hu:used<=6000
  .obtain ⟨r,e,hr⟩:=x C
   exact (zec (s':=_) hd hu e hr).mono fun o ho=>.inr ⟨_,_,ho,.inr ⟨_,_,rfl,.inr ⟨g.sg hC.fl rfl,rfl,rfl,rfl,rfl,rfl,rfl,.inl rfl⟩⟩⟩
  .exact (zaS hd (by omega)).mono fun o ⟨r,q,e,e2⟩=>.inl ⟨r,q,e,.inl e2⟩
 | @clx n s s' c x =>
  intro hn m used C w hd h1 h2;have g:SgO t vz c.Args s':=by
   cases sound hC w with
   | go a y w=>cases x.det y
   | er e y=>cases x.det y
   | fi a v y=>cases x.det y
   | cl a c y o hp w g=>cases x.det y;exact g
  obtain ⟨m,rfl⟩:∃j,m=j+2:=⟨m - 2,by omega⟩
  by_cases hu:used<=6000
  .obtain ⟨r,e,hr⟩:=x C
   exact (zec (s':=_) hd hu e hr).mono fun o ho=>.inr ⟨_,_,ho,.inr ⟨_,_,rfl,.inr ⟨g.sg hC.fl rfl,rfl,rfl,rfl,rfl,rfl,rfl,.inl rfl⟩⟩⟩
  .exact (zaS hd (by omega)).mono fun o ⟨r,q,e,e2⟩=>.inl ⟨r,q,e,.inl e2⟩
 | @cl n s s' c l x h3 hf k ih =>
  intro hn m used C w hd h1 h2;obtain ⟨m,rfl⟩:∃j,m=j+2:=⟨m - 2,by omega⟩
  by_cases hu:used<=6000
  .obtain ⟨r,e,hr⟩:=x C
   suffices hs:SgO t vz c.Args s'/\∃k,((s'.pc=0/\k=0)\/(0<s'.pc/\(X.at_ (s'.pc - 1)).Op=30/\k=(xJ X.c (X.at_ (s'.pc - 1))).Result))/\FitL [(inp ins n).vY] [k]/\WT X t st ⟨s'.pc,s'.lo,(inp ins n).Fields,rpl k (inp ins n).vY,[]⟩/\OKs X ins (n+1) ⟨s'.pc,s'.lo,(inp ins n).Fields,rpl k (inp ins n).vY,[]⟩ l by
    exact (zec (s':=s') hd hu e hr).mono fun o ho=>.inr ⟨s',_,ho,.inr ⟨_,_,rfl,.inr ⟨hs.1.sg hC.fl rfl,rfl,rfl,rfl,rfl,rfl,rfl,.inr ⟨s'.pc,s'.lo,rfl,h3,hs.2⟩⟩⟩⟩
   cases sound hC w with
   | go a y w=>cases x.det y
   | er e y=>cases x.det y
   | fi a v y=>cases x.det y
   | cl a c' y o hp w g =>
    cases x.det y;refine ⟨g,_,.inr ⟨by omega,?_,?_⟩,hf,w _ _ (hi.f n h3) (zn8 hi h3 hf rfl),k⟩
    .rw [hp];exact o
    .rw [hp];rfl
  .exact (zaS hd (by omega)).mono fun o ⟨r,q,e,e2⟩=>.inl ⟨r,q,e,.inl e2⟩
 | fu =>
  intro hn m used C w hd h1 h2;have this:∀{n:Nat} {f:List Value} {r:zi},Mt X t st ins n [seg 3 vz zc 17 f []] r:=fun {n f r}=>.inr ⟨_,_,rfl,.inl rfl⟩;exact (run_any hC m used C _ w hd h1 h2).mono fun o h=>by
   rcases h with ⟨r,q,e,_⟩|⟨s,C,e,_⟩
   .exact .inl ⟨r,q,e,this⟩
   .exact .inr ⟨s,C,e,this⟩
theorem znK (hC:VC X t st) (hi:InI t ins) {n:Nat} {l:List zi} (hn:n<ins.length) (h:OKs X ins (n+1) s l) (w:WT X t st s) (hf:s.fi=(inp ins n).Fields) {C:yE} (hd:C.Qj=false):Tot (Xo K 6000 (X.A s.pc) ⟨X.key⟩ C s.lo s.fi s.st s.ef) fun r=>Mt X t st ins (n+1) l r.1:=by
 unfold Xo;have hfl:=w.fi;rw [zm0,zu,zhJ (by have:=hfl.1;have:=hC.fl;rw [List.length_map] at *;omega) hfl.cp,zu];have key:=zod hC hi h ⟨by omega,by omega⟩ K 1 C w hd (by decide) (by decide);rw [Nat.add_sub_cancel,<-hf] at key;refine tB (show Tot (wF K 6000 (tb X) s.fi K (1,X.A s.pc,⟨X.key⟩,C,s.lo,s.fi,s.st,s.ef)) _ from key) fun o ho=>?_;rcases ho with ⟨r,q,rfl,hr⟩|⟨s',C',rfl,hr⟩
 .exact tS hr
 .unfold fin at hr
  by_cases e:C'.out.Kind=2
  .rw [if_pos e] at hr
   refine tB (P:=fun y=>y.2.2.2.2.2.1.out=⟨C'.out.Kind,C'.out.Value,C'.out.Call,C'.out.Err,⟨X.ti,X.mi,s'.pc,s'.lo⟩,s'.fi,s'.ef,C'.out.Fuel⟩) (tTt (beq_iff_eq.2 e) (tS rfl)) fun y hy=>tS ?_;rw [hy];exact hr
  .rw [if_neg e] at hr
   refine tB (P:=fun y=>y.2.2.2.2.2.1.out=⟨C'.out.Kind,C'.out.Value,C'.out.Call,C'.out.Err,C'.out.Machine,s'.fi,s'.ef,C'.out.Fuel⟩) (tFf (beq_eq_false_iff_ne.2 e) (tS rfl)) fun y hy=>tS ?_;rw [hy];exact hr
structure XC (X:VX) (t:zq) (st:List State):Prop where
 v:VC X t st
 vr:vC K X.c=some 0
 ti:0<=X.ti/\X.ti<(X.c.Types.length:Int)
 te:t=X.c.Types.getD X.ti.toNat default
 mi:0<=X.mi/\X.mi<(t.Methods.length:Int)
 me:X.m=t.Methods.getD X.mi.toNat default
 an:xk K X.c t X.m=some (true,st)
 ml:t.Methods.length<=16
 tl:X.c.Types.length<=8
theorem zgn (h:XC X t st):Qx K X.c X.ti=some (t,true):=by
 unfold Qx;have hti:=h.ti;rw [h.vr,zu,show (((0:Int) != 0)||decide (X.ti<0)||decide (X.ti>=((X.c.Types.length:Nat):Int)))=false by simp;omega,cond_false,zy hti,<-h.te]
theorem zcz (h:XC X t st) {pc:Int} {lo:List Value}:Ua K X.c ⟨X.ti,X.mi,pc,lo⟩=some (X.m,true):=by
 unfold Ua;have hmi:=h.mi;rw [show Qx K X.c (⟨X.ti,X.mi,pc,lo⟩:Machine).wR=_ from zgn h,zu];rw [show ((!true)||decide (X.mi<0)||decide (X.mi>=((t.Methods.length:Nat):Int)))=false by simp;omega,cond_false,zy hmi,<-h.me]
theorem zgx (h:XC X t st) {pc:Nat} (hp:pc<X.m.Code.length):Tot (YD K X.c X.ti X.mi (pc:Int)) fun l=>l.length=X.m.zK.length/\∀i,i<l.length->l.getD i default=bit (st.getD pc default).set i:=by
 have hti:=h.ti;have hmi:=h.mi;have hl8:=h.v.c.ok.l;have hst:=h.v.f.inv.len;have hte:=h.te;have hme:=h.me;unfold YD Wn;rw [h.vr,zu];refine tB (P:=fun s=>s=st) (tB (P:=fun b=>b=false) (tFf (by simp;omega) (tI hti fun _=>tS (by rw [<-hte];simp;omega))) fun b hb=>tFf hb (tI hti fun _=>tI hti fun _=>tI (by rw [<-hte];exact hmi) fun _=>?_)) fun s hs=>?_
 .rw [<-hte,<-hme,h.an,zu];exact tS rfl
 subst hs;refine tFf (by simp;omega) (tI hti fun _=>tI (by rw [<-hte];exact hmi) fun _=>?_);rw [<-hte,<-hme];refine tI (by omega) fun _=>tB (P:=fun l=>l.length=X.m.zK.length/\∀i,i<l.length->l.getD i default=bit (s.getD pc default).set i) ?_ fun r hr=>tS hr;unfold XG;rw [<-hte,<-hme];refine tK (fun x=>x.1<=X.m.zK.length/\x.2.length=X.m.zK.length/\∀i,i<x.1->x.2.getD i default=bit (s.getD pc default).set i) (fun x=>X.m.zK.length - x.1) (fun F x hx hF=>?_) ⟨Nat.zero_le _,by simp,fun i hi=>by simp at hi⟩ (by simp only;omega);obtain ⟨x1,x2,x3⟩:=hx;refine tD (fun e=>?_) fun e=>tS ⟨x2,fun i hi=>x3 i (by simp at e;omega)⟩;have e1:x.1<X.m.zK.length:=by simpa using e
 refine tI (by omega) fun _=>tI (by omega) fun _=>tI (by omega) fun _=>tI (by omega) fun _=>tI (by omega) fun _=>hF _ ⟨by simp only;omega,by simp only [List.length_set];exact x2,fun i hi=>?_⟩ (by simp only;omega);simp only;rw [J3 (by omega)];split
 .rename_i e2;rw [e2];rfl
 .exact x3 i (by simp only at hi;omega)
theorem zjC (h:XC X t st) {pc:Nat} {lo fi r:List Value} {k:Int} (w:WT X t st ⟨pc,lo,fi,r,[]⟩) (hp:(pc=0/\k=0)\/(0<pc/\(X.at_ (pc - 1)).Op=30/\k=(xJ X.c (X.at_ (pc - 1))).Result)):zaE K X.c ⟨X.ti,X.mi,pc,lo⟩=some (k,true):=by
 have hti:=h.ti;have hmi:=h.mi;have hl8:=h.v.c.ok.l;have hpc:pc<X.m.Code.length:=w.pc;have hcl:=h.v.c.len;have hlo:lo.length=X.m.zK.length:=w.lo;have V:Tot (X3 K X.c ⟨X.ti,X.mi,pc,lo⟩) fun b=>b=true:=by
  unfold X3;rw [zcz h,zu];refine tB (P:=fun b=>b=false) (tFf (by simp;omega) (tB (P:=fun b=>b=false) (tD (fun e=>?_) fun e=>tS rfl) fun b hb=>tS hb)) fun b hb=>?_
  .have e':0<(pc:Int):=e
   have ew:W ((pc:Int) - 1)=((pc - 1:Nat):Int):=by rw [W_id (by omega) (by omega)];omega
   refine tI (by simp only [ew];omega) fun _=>tS ?_;simp only [ew,Int.toNat_natCast];rcases hp with q|⟨q1,q2,q3⟩
   .omega
   .show ((X.at_ (pc - 1)).Op != 30)=false
    rw [q2];rfl
  .subst hb
   refine tFf (by simp;omega) (tB (zgx h hpc) fun l ⟨l1,l2⟩=>?_);unfold Va;refine tB (P:=fun o=>o=.inl ()) (tK (fun i=>i<=l.length) (fun i=>l.length - i) (fun F i hi hF=>?_) (Nat.zero_le _) (by omega)) fun o ho=>by rw [ho];exact tS rfl
   refine tD (fun e=>?_) fun e=>tS rfl;have e1:i<l.length:=by simpa using e
   refine tI e1 fun _=>tI e1 fun _=>tI (show i<lo.length by omega) fun _=>tI (show i<X.m.zK.length by omega) fun _=>tB zfM fun b hb=>?_;refine tC (fun e2=>?_) fun e2=>tI (by omega) fun _=>hF _ (by omega) (by omega);rcases w.lv i (by simp only;omega) with q|⟨q1,q2⟩
   .rw [hb.2 ⟨q.1,q.2.vv⟩] at e2;cases e2
   .refine tFf ((l2 i e1).trans q1) ?_
    rw [show (⟨X.ti,X.mi,(pc:Int),lo⟩:Machine).zK.getD i default=vz from q2,QC ⟨by simp,by simp⟩,zu,decide_eq_true rfl];exact tFf rfl (tI (by omega) fun _=>hF _ (by omega) (by omega))
 obtain ⟨b,e,rfl⟩:=V;unfold zaE zaW;rw [e,zu];show ((bif ((pc:Int)==0) then _ else _:Option Int).bind _)=_;rcases hp with ⟨rfl,rfl⟩|⟨q1,q2,q3⟩
 .rfl
 .rw [beq_eq_false_iff_ne.2 (show ((pc:Nat):Int)≠0 by omega),cond_false]
  have ew:W ((pc:Int) - 1)=((pc - 1:Nat):Int):=by rw [W_id (by omega) (by omega)];omega
  have hok:=(h.v.c.ok.i (X.at_ (pc - 1)) (getD_mem (by omega))).call q2;simp only [ew,Int.toNat_natCast];rw [<-h.te,<-h.me];show (ifp _ (ifp _ (ifp _ (ifp (0<=(X.at_ (pc - 1)).A/\(X.at_ (pc - 1)).A<(X.c.Types.length:Int)) (ifp (0<=(X.at_ (pc - 1)).B/\(X.at_ (pc - 1)).B<(((X.c.Types.getD (X.at_ (pc - 1)).A.toNat default).Methods).length:Int)) (some (xJ X.c (X.at_ (pc - 1))).Result)))))).bind _=_;rw [zy hti,zy hmi,zy (by omega),zy hok.1,zy hok.2,q3];rfl
theorem zdn (h:XC X t st) {fi:List Value} (hf:TL (t.Fields.map Field.Kind) fi):ZP K X.c X.ti fi=some true:=by
 have hfl:=h.v.fl;have hl:=hf.1;rw [List.length_map] at hl;have:Tot (ZP K X.c X.ti fi) fun b=>b=true:=by
  unfold ZP yO xu;rw [zgn h,zu];refine tB (P:=fun b=>b=true) (tTt rfl (tB (P:=fun b=>b=true) (tN (fun e=>absurd (by rw [hl]) e) fun _=>?_) fun b hb=>tS hb)) fun b hb=>tS hb;refine tB (P:=fun o=>o=.inl ()) (tK (fun i=>i<=fi.length) (fun i=>fi.length - i) (fun F i hi hF=>?_) (Nat.zero_le _) (by omega)) fun o ho=>by rw [ho];exact tS rfl
  refine tD (fun e=>?_) fun e=>tS rfl;have e1:i<fi.length:=by simpa using e
  unfold Vo;refine tI e1 fun _=>tI (by simp only;omega) fun _=>tB (P:=fun b=>b=true) (tB zfM fun b hb=>tS (hb.2 ?_)) fun b hb=>by rw [hb];exact tFf rfl (tI (by omega) fun _=>hF _ (by omega) (by omega))
  have:=hf.2 i e1;rw [zc4 (by omega)] at this;exact ⟨this.1,this.2.vv⟩
 obtain ⟨b,e,rfl⟩:=this;exact e
theorem zm_ (h:XC X t st) (hi:InI t ins) {n pc:Nat} {lo:List Value} {l:List zi} (b:Bg X t st ins n pc lo l):Tot (zeo K X.c ⟨X.ti,X.mi,pc,lo⟩ X.key (inp ins n).Fields (inp ins n).vY 6000) fun r=>r.2=0/\Mt X t st ins (n+1) l r.1:=by
 obtain ⟨hn,k,hp,hf,w,ok⟩:=b;have hk:=h.v.k;have hfi:=hi.f n hn;have hr:=hf.2 0 (by simp);have hrk:(inp ins n).vY.Kind=k:=hr.1;have hrv:VV (inp ins n).vY:=hr.2;have hlo:lo.length=X.m.zK.length:=w.lo;have hl8:=h.v.c.ok.l;have hfl:=h.v.fl;have hf1:=hfi.1;rw [List.length_map] at hf1;unfold zeo;rw [zjC h w hp,zu];refine tB (P:=fun b=>b=false) (tFf (by simp;omega) ?_) fun b hb=>?_
 .rw [show ZP K X.c (⟨X.ti,X.mi,(pc:Int),lo⟩:Machine).wR (inp ins n).Fields=_ from zdn h hfi,zu]
  exact tS rfl
 subst hb;refine tB (P:=fun b=>b=false) (tFf rfl (tB zfM fun b hb=>tS ?_)) fun b hb=>?_
 .rw [hb.2 ⟨hrk,hrv⟩];rfl
 subst hb;refine tFf rfl ?_;have hlc:∀v∈lo,cpOk v:=fun v hv=>by
  obtain ⟨i,hi',rfl⟩:=List.getElem_of_mem hv;rcases w.lv i hi' with q|⟨_,q⟩
  .have:=q.2.vv.cp;rwa [show (⟨pc,lo,(inp ins n).Fields,rpl k (inp ins n).vY,[]⟩:VS).lo.getD i default=lo[i] from gd hi'] at this
  .rw [<-gd hi']
   rw [show lo.getD i default=vz from q];exact zbB
 rw [zcz h,zu,zal (by omega) hfi.cp,zu,show Xe K (⟨X.ti,X.mi,(pc:Int),lo⟩:Machine).zK=_ from zal (l:=lo) (by omega) hlc,zu];refine tB (P:=fun y=>y.1=X.A pc/\y.2.1=⟨X.key⟩/\y.2.2.1.Qj=false/\y.2.2.2.1=rpl k (inp ins n).vY/\y.2.2.2.2=[]) (tN (fun e=>?_) fun e=>tS ⟨rfl,rfl,rfl,?_,rfl⟩) fun y hy=>?_
 .rw [Yo hrv.cp,zu]
  refine tB (P:=fun y=>y.1=X.A pc/\y.2.1=⟨X.key⟩/\y.2.2.1.Qj=false/\y.2.2.2=rpl k (inp ins n).vY) ?_ fun y hy=>tS ⟨hy.1,hy.2.1,hy.2.2.1,hy.2.2.2,rfl⟩;rw [zaR (by simp)];refine tS ⟨rfl,rfl,rfl,?_⟩;unfold rpl;rw [if_neg (by rw [<-hrk];exact e)];rfl
 .unfold rpl
  rw [if_pos (by rw [<-hrk];exact e)]
 .obtain ⟨y1,y2,y3,y4,y5⟩:=hy
  refine tB (P:=fun r=>Mt X t st ins (n+1) l r.1) ?_ fun r hr=>tS ⟨rfl,hr⟩;rw [y1,y2,y4,y5];exact znK h.v hi hn ok w rfl y3
end
end Md
end Go.Proofs.YtbijabmjbgplbaaGreatDoor
namespace Go.Proofs.YtbijabmjbgplbaaGreatDoor
namespace Md
abbrev EvR:=Value×zL×zH×Bool×List zi
abbrev Ev7:=Node ⊕ (Unit ⊕ (Int ⊕ ((Node×Node) ⊕ ((Node×Nat) ⊕ ((Node×Node) ⊕ (Node×Node))))))
section
variable {α:Type} {r:zx} {A:zL} {B:zH} {C:Bool} {fi lo:List Value} {ef:List Effect} {sg:List zi} {i:Int}
def dis (r:zx) (A:zL) (B:zH) (C:Bool) (fi lo:List Value) (ef:List Effect) (sg:List zi) (x:Ev7) (G:EvR->Option α):Option α :=
 onS x (fun x=>(yg K x).bind fun v=>G (v,A,B,C,sg)) (fun x=>onS x (fun _=>(yh K A B C fi lo ef sg).bind fun v=>G (v,A,B,C,sg)) (fun x=>onS x (fun j=>(zT K A B C fi lo ef sg j).bind fun v=>G (v,A,B,C,sg)) (fun x=>onS x (fun q=>(r.zV A B C fi lo ef sg q.1 q.2).bind G) (fun x=>onS x (fun q=>(r.yB A B C fi lo ef sg q.1 ((q.2:Nat):Int)).bind G) (fun x=>onS x (fun q=>(r.zM A B C fi lo ef sg q.1 q.2).bind G) (fun q=>(r.zN A B C fi lo ef sg q.1 q.2).bind G))))))
def zh4 (r:zx) (i:Int) (A:zL) (B:zH) (C:Bool) (fi lo:List Value) (ef:List Effect) (sg:List zi):Option EvR:=(zD K i A B C fi lo ef sg).bind fun x=>dis r A B C fi lo ef sg x some
theorem zjV {x:Ev7} {G:EvR->Option α}:dis r A B C fi lo ef sg x G=(dis r A B C fi lo ef sg x some).bind G:=by
 have e:∀{β:Type} {X:Option β} {g:β->EvR},(X.bind fun v=>some (g v)).bind G=X.bind fun v=>G (g v):=fun {β X g}=>by rw [Jk];rfl
 have e':∀{X:Option EvR},(X.bind some).bind G=X.bind G:=fun {X}=>by rw [Jk];rfl
 unfold dis;rcases x with x|x|x|x|x|x|x<;>simp only [onS,e,e']
theorem zaN {G:EvR->Option α} {P:EvR->Prop} {Q:α->Prop} (h:Tot (zh4 r i A B C fi lo ef sg) P) (k:∀y,P y->Tot (G y) Q):Tot ((zD K i A B C fi lo ef sg).bind fun x=>dis r A B C fi lo ef sg x G) Q:=by
 have:((zD K i A B C fi lo ef sg).bind fun x=>dis r A B C fi lo ef sg x G)=(zh4 r i A B C fi lo ef sg).bind G:=by
  unfold zh4;rw [Jk]
  congr 1
  funext x
  exact zjV
 rw [this];exact tB h k
end
structure TA (X:VX) (b:Body) (ns:List Node) (ins:List Input) (A:zL):Prop where
 nsE:A.nodes=ns
 keyE:A.key=X.key
 inE:A.inputs=ins
 nx:1<=A.next/\A.next<=(ins.length:Int)
 bE:vI K A.info A.at_.wR A.at_.Method=some (b,true)
structure PK (X:VX) (t:zq) (st:List State) (p:Program) (b:Body) (ns:List Node) (ins:List Input) (D:Int->Prop):Prop where
 xc:XC X t st
 vn:VN ns
 ii:InI t ins
 il:ins.length<=8
abbrev zfj (ins:List Input) (A:zL) (e:Int):zi:=seg 3 vz zc e (inp ins (A.next.toNat - 1)).Fields []
def EQ (X:VX) (ins:List Input) (A:zL) (B:zH) (sg:List zi) (s:VS) (z:Nat) (r:EvR):Prop:=(∃v,r=(v,A,B,false,sg)/\Steps X s ⟨z,s.lo,s.fi,s.st++[v],s.ef⟩)\/∃v e s',r=(v,A,B,true,sg++[zfj ins A e])/\Steps X s s'/\Ex X s' (.er e)
def LQ (X:VX) (ins:List Input) (A:zL) (B:zH) (sg:List zi) (s:VS) (z n:Nat) (r:List Value×zL×zH×Bool×List zi):Prop:=(∃l,r=(l,A,B,false,sg)/\l.length=n/\Steps X s ⟨z,s.lo,s.fi,s.st++l,s.ef⟩)\/∃v e s',r=(v,A,B,true,sg++[zfj ins A e])/\Steps X s s'/\Ex X s' (.er e)
section
variable {X:VX} {t:zq} {st:List State} {p:Program} {b:Body} {ns:List Node} {ins:List Input} {D:Int->Prop} {A:zL} {B:zH} {s:VS} {sg:List zi} {i:Int} {z m:Nat}
theorem at_e {x:Instr} (h:X.m.Code[z]?=some x):X.at_ z=x/\z<X.m.Code.length:=by
 obtain ⟨h1,h2⟩:=List.getElem?_eq_some_iff.1 h;exact ⟨(gd h1).trans h2,h1⟩
theorem WT.s40 (hC:VC X t st) (w:WT X t st s):s.st.length<=40:=by have:=w.stk.1;have:=hC.f.inv.stk s.pc;omega
theorem zem (hp:PK X t st p b ns ins D) (hA:TA X b ns ins A) {e:Int} {C:Bool} {fi lo:List Value} {ef:List Effect} (hsg:sg.length<=1000):uI K e A B C fi lo ef sg=some (A,B,sg++[zfj ins A e]):=by
 obtain ⟨n1,n2⟩:=hA.nx;have hil:=hp.il;have hw:W (A.next - 1)=((A.next.toNat - 1:Nat):Int):=by rw [W_id (by omega) (by omega)];omega
 have hf:=hp.ii.f (A.next.toNat - 1) (by omega);have hf1:=hf.1;have hfl:=hp.xc.v.fl;rw [List.length_map] at hf1;unfold uI;rw [hw,hA.inE,Int.toNat_natCast,zy (by omega),show yM K (ins.getD (A.next.toNat - 1) default).Fields=_ from Qk (show (inp ins (A.next.toNat - 1)).Fields.length<=4000000 by omega) hf.cp,zu,zy (by simp;omega)];rfl
theorem znZ (hp:PK X t st p b ns ins D) (hA:TA X b ns ins A) (hsg:sg.length<=1000) {l:List Value} {w:Value} {e:Int} {fi lo:List Value} {ef:List Effect} (hs:Steps X s ⟨z,s.lo,s.fi,s.st++l,s.ef⟩) (hx:Ex X ⟨z,s.lo,s.fi,s.st++l,s.ef⟩ (pshd z s.lo s.fi s.st s.ef w e)):Tot ((vM K w e A B false fi lo ef sg).bind fun x3=>some (x3.1,x3.2.1,x3.2.2.1,x3.2.2.2.1,x3.2.2.2.2)) (EQ X ins A B sg s (z+1)):=by
 unfold vM;unfold pshd at hx
 by_cases h:e=0
 .rw [if_pos h] at hx
  refine tB (P:=fun x=>x=(w,A,B,false,sg)) (tFf (by rw [h];rfl) (tS rfl)) fun x hx'=>?_;rw [hx'];exact tS (.inl ⟨w,rfl,hs.sn hx⟩)
 .rw [if_neg h] at hx
  refine tB (P:=fun x=>x=(vz,A,B,true,sg++[zfj ins A e])) (tTt (bne_iff_ne.2 h) ?_) fun x hx'=>?_
  .rw [zem hp hA hsg,zu];exact tS rfl
  .rw [hx']
   exact tS (.inr ⟨_,e,_,rfl,hs,hx⟩)
theorem zot (hC:VC X t st) {l:List Value} (w:WT X t st ⟨z,s.lo,s.fi,s.st++l,s.ef⟩) {nm:List UInt8} (hb:(nm,(X.at_ z).Op,(X.at_ z).A)∈aOp l.length) (ha:arOk nm l.length) (hl:l.length<=16):∃ks k,Bt nm ks k/\TL ks l:=by
 obtain ⟨r,⟨⟨S,a,q,he,h1,h2,h3⟩,hl40⟩,hj⟩:=(hC.f.inv.done z (by rw [hC.f.inv.len];exact w.pc) w.re (by simp)).ex;have hstk:TL (S++a) (s.st++l):=h1▸w.stk;obtain ⟨Sv,av,e,hS,ha'⟩:=hstk.split;obtain ⟨k,_,hB,q3⟩:=znD (show Ef X.c t X.m (X.at_ z) a q from he) hb hl;have hlen:l.length=av.length:=by rw [ha'.1,q3 ha]
 exact ⟨a,k,hB,(List.append_inj' e hlen).2▸ha'⟩
theorem zou (hC:VC X t st) {S:List Value} {v:Value} (w:WT X t st ⟨z,s.lo,s.fi,S++[v],s.ef⟩) (h:(X.at_ z).Op=29):TV 2 v:=by
 obtain ⟨r,⟨⟨S',a,q,he,h1,h2,h3⟩,hl40⟩,hj⟩:=(hC.f.inv.done z (by rw [hC.f.inv.len];exact w.pc) w.re (by simp)).ex;have he':Ef X.c t X.m (X.at_ z) a q:=he;have hstk:TL (S'++a) (S++[v]):=h1▸w.stk;obtain ⟨Sv,av,e,hS,ha'⟩:=hstk.split;have:a=[2]:=by cases he'<;>first|rfl|(exfalso;omega)|(rename_i h';exfalso;omega)|(rename_i h' _;exfalso;omega)|(rename_i _ h';exfalso;omega)
 subst this;obtain ⟨u,rfl,hu⟩:=tl1 ha';obtain ⟨_,e2⟩:=List.append_inj' e rfl;injection e2 with e2 _
 rw [e2];exact hu
theorem tv2 {v:Value} (h:TV 2 v):v=⟨2,v.N,[],[],[]⟩/\(v.N=0\/v.N=1):=by
 obtain ⟨h1,h2⟩:=h;obtain ⟨k,n,S,I,L⟩:=v;simp only at h1;subst h1;have a1:S=[]:=h2.vv.s.resolve_right (by simp);have a2:I=[]:=h2.vv.i.resolve_right (by simp);have a3:L=[]:=h2.vv.l.resolve_right (by simp);have a4:=h2.vv.n;simp only at a4 ⊢;subst a1 a2 a3;exact ⟨rfl,by omega⟩
def EvT (X:VX) (t:zq) (st:List State) (p:Program) (b:Body) (ns:List Node) (ins:List Input) (i:Int) (n:Nat):Prop:=∀(A:zL) (B:zH) (sg:List zi) (s:VS) (z:Nat),TA X b ns ins A->sg.length<=1000->WT X t st s->CE p ns b X.m.Code i s.pc z->Tot (zh4 (zx.at K n) i A B false s.fi s.lo s.ef sg) (EQ X ins A B sg s z)
theorem zlk (hp:PK X t st p b ns ins D) (hA:TA X b ns ins A) (hsg:sg.length<=1000) (w:WT X t st s) {ks:List Int} (hk:∀k∈ks,EvT X t st p b ns ins k m) (hl:ks.length<=6100) (hc:CL p ns b X.m.Code ks s.pc z):Tot (Ya K (zx.at K m) ks A B false s.fi s.lo s.ef sg) (LQ X ins A B sg s z ks.length):=by
 unfold Ya X8;refine tB (P:=fun o=>(∃r,o=.inl r/\LQ X ins A B sg s z ks.length r)\/∃r,o=.inr r/\LQ X ins A B sg s z ks.length r) (tK (fun x=>∃i l y,x=(i,l,A,B,false,sg)/\i<=ks.length/\l.length=i/\CL p ns b X.m.Code (ks.drop i) y z/\Steps X s ⟨y,s.lo,s.fi,s.st++l,s.ef⟩) (fun x=>ks.length - x.1) (fun F x hx hF=>?_) ⟨0,[],s.pc,rfl,Nat.zero_le _,rfl,hc,by rw [List.append_nil];exact .rfl⟩ (by simp only;omega)) fun o ho=>?_
 .obtain ⟨i,l,y,rfl,h1,h2,h3,h4⟩:=hx
  refine tD (fun e=>?_) fun e=>tS (.inl ⟨_,rfl,.inl ⟨l,rfl,by simp at e;omega,?_⟩⟩)
  .have e1:i<ks.length:=by simpa using e
   rw [List.drop_eq_getElem_cons e1] at h3;cases h3 with
   | cons hce hcl =>
    refine tI e1 fun _=>?_;have hki:=hk _ (getD_mem e1);have hg:ks.getD i default=ks[i]:=gd e1;rw [hg] at hki;show Tot ((zD K (ks.getD i default) A B false s.fi s.lo s.ef sg).bind fun x=>dis (zx.at K m) A B false s.fi s.lo s.ef sg x fun y=>bif y.2.2.2.1 then (some (.inr (([]:List Value),y.2.1,y.2.2.1,y.2.2.2.1,y.2.2.2.2))) else (ifp (l.length+[y.1].length<=4000000)<|ifp (i+1<=9223372036854775807)<|F ((i+1),(l++[y.1]),y.2.1,y.2.2.1,y.2.2.2.1,y.2.2.2.2))) _;rw [hg];refine zaN (hki A B sg ⟨y,s.lo,s.fi,s.st++l,s.ef⟩ _ hA hsg (h4.wt hp.xc.v w) hce) fun y' hy'=>?_;rcases hy' with ⟨v,rfl,hv⟩|⟨v,e,s',rfl,hv,hx⟩
    .refine tFf rfl (tI (by simp;omega) fun _=>tI (by omega) fun _=>hF _ ⟨i+1,l++[v],_,rfl,by omega,by simp;omega,hcl,?_⟩ (by simp only;omega))
     rw [<-List.append_assoc];exact h4.tr hv
    .exact tTt rfl (tS (.inr ⟨_,rfl,.inr ⟨_,e,s',rfl,h4.tr hv,hx⟩⟩))
  .have:i=ks.length:=by simp at e;omega
   subst this;rw [List.drop_length] at h3;cases h3;exact h4
 .rcases ho with ⟨r,rfl,h⟩|⟨r,rfl,h⟩
  .exact tS h
  .exact tS h
end
end Md
end Go.Proofs.YtbijabmjbgplbaaGreatDoor
namespace Go.Proofs.YtbijabmjbgplbaaGreatDoor
namespace Md
section
variable {X:VX} {t:zq} {st:List State} {p:Program} {b:Body} {ns:List Node} {ins:List Input} {D:Int->Prop} {A:zL} {B:zH} {s:VS} {sg:List zi} {i:Int} {z m:Nat}
theorem ziL (hp:PK X t st p b ns ins D) (hA:TA X b ns ins A) (hsg:sg.length<=1000) (w:WT X t st s) {n:Node} (hk:∀k∈n.Kids,EvT X t st p b ns ins k m) (hl:n.Kids.length<=6100) (hc:CL p ns b X.m.Code n.Kids s.pc z) {f:List Value->Option (Value×Int)}
  (hf:∀l,l.length=n.Kids.length->WT X t st ⟨z,s.lo,s.fi,s.st++l,s.ef⟩->∃v e,f l=some (v,e)/\Ex X ⟨z,s.lo,s.fi,s.st++l,s.ef⟩ (pshd z s.lo s.fi s.st s.ef v e)) :
  Tot ((Ya K (zx.at K m) n.Kids A B false s.fi s.lo s.ef sg).bind fun x1=>bif x1.2.2.2.1 then (some (vz,x1.2.1,x1.2.2.1,x1.2.2.2.1,x1.2.2.2.2)) else ((f x1.1).bind fun x2=>(vM K x2.1 x2.2 x1.2.1 x1.2.2.1 x1.2.2.2.1 s.fi s.lo s.ef x1.2.2.2.2).bind fun x3=>some (x3.1,x3.2.1,x3.2.2.1,x3.2.2.2.1,x3.2.2.2.2))) (EQ X ins A B sg s (z+1)):=by
 refine tB (zlk hp hA hsg w hk hl hc) fun y hy=>?_;rcases hy with ⟨l,rfl,hl,hs⟩|⟨v,e,s',rfl,hv,hx⟩
 .obtain ⟨v,e,he,hx⟩:=hf l hl (hs.wt hp.xc.v w)
  refine tFf rfl ?_;rw [he,zu];exact znZ hp hA hsg hs hx
 .exact tTt rfl (tS (.inr ⟨_,e,s',rfl,hv,hx⟩))
theorem zhB {α:Type} {Y:Option α}:Y.bind some=Y:=by cases Y<;>rfl
theorem zc7 (hA:TA X b ns ins A) (h:0<=i/\i<(ns.length:Int)) {α:Type} {Y:Option α}:ifp (0<=i/\i<(A.nodes.length:Int)) Y=Y:=by rw [hA.nsE];exact zy h
theorem zon (hA:TA X b ns ins A) {C:Bool} {fi lo:List Value} {ef:List Effect}:uH K i A B C fi lo ef sg=bif (vaOf b i).field then (ifp (0<=(vaOf b i).slot/\(vaOf b i).slot<(fi.length:Int))<|some (.inl ((vaOf b i).slot.toNat))) else (ifp (0<=(vaOf b i).slot/\(vaOf b i).slot<(lo.length:Int))<|some (.inr ((vaOf b i).slot.toNat))):=by
 unfold uH Yy;simp only [hA.bE,zu];rfl
theorem zfy {v:Value} (h:cpOk v):yM K [v]=some [v]:=Qk (by simp) fun u hu=>by rw [List.mem_singleton.1 hu];exact h
theorem ziy (hp:PK X t st p b ns ins D) (hA:TA X b ns ins A) (hsg:sg.length<=1000) (w:WT X t st s) {n:Node} (h2:n.Kids.length=2) {d e1 e2:Nat} {dec:Int} (h0:EvT X t st p b ns ins (n.Kids.getD 0 default) m) (h1:EvT X t st p b ns ins (n.Kids.getD 1 default) m)
  (c0:CE p ns b X.m.Code (n.Kids.getD 0 default) s.pc d) (c1:CE p ns b X.m.Code (n.Kids.getD 1 default) e1 e2)
  (hd:∀v,WT X t st ⟨d,s.lo,s.fi,s.st++[v],s.ef⟩->(v.N=dec->Steps X ⟨d,s.lo,s.fi,s.st++[v],s.ef⟩ ⟨z,s.lo,s.fi,s.st++[v],s.ef⟩)/\(v.N≠dec->Steps X ⟨d,s.lo,s.fi,s.st++[v],s.ef⟩ ⟨e1,s.lo,s.fi,s.st,s.ef⟩))
  (he:∀v,WT X t st ⟨e2,s.lo,s.fi,s.st++[v],s.ef⟩->Steps X ⟨e2,s.lo,s.fi,s.st++[v],s.ef⟩ ⟨z,s.lo,s.fi,s.st++[v],s.ef⟩) :
  Tot (qB K (zx.at K m) A B false s.fi s.lo s.ef sg n dec) (EQ X ins A B sg s z):=by
 unfold qB;refine tI (by omega) fun _=>?_;show Tot ((zD K (n.Kids.getD 0 default) A B false s.fi s.lo s.ef sg).bind fun x=>dis (zx.at K m) A B false s.fi s.lo s.ef sg x fun y=>bif (y.2.2.2.1||(y.1.N==dec)) then (some (y.1,y.2.1,y.2.2.1,y.2.2.2.1,y.2.2.2.2)) else (ifp (1<n.Kids.length)<|(zD K (n.Kids.getD 1 default) y.2.1 y.2.2.1 y.2.2.2.1 s.fi s.lo s.ef y.2.2.2.2).bind fun x=>dis (zx.at K m) y.2.1 y.2.2.1 y.2.2.2.1 s.fi s.lo s.ef y.2.2.2.2 x fun z=>some (z.1,z.2.1,z.2.2.1,z.2.2.2.1,z.2.2.2.2))) _;refine zaN (h0 A B sg s d hA hsg w c0) fun y hy=>?_;rcases hy with ⟨v,rfl,hv⟩|⟨v,e,s',rfl,hv,hx⟩
 .have w2:=hv.wt hp.xc.v w
  obtain ⟨g1,g2⟩:=hd v w2
  by_cases q:v.N=dec
  .exact tTt (by simpa using q) (tS (.inl ⟨v,rfl,hv.tr (g1 q)⟩))
  .refine tFf (by simpa using q) (tI (by omega) fun _=>?_)
   have h3:=hv.tr (g2 q);refine zaN (h1 A B sg ⟨e1,s.lo,s.fi,s.st,s.ef⟩ e2 hA hsg (h3.wt hp.xc.v w) c1) fun y hy=>?_;rcases hy with ⟨u,rfl,hu⟩|⟨u,e,s',rfl,hu,hx⟩
   .have h4:=h3.tr hu
    exact tS (.inl ⟨u,rfl,h4.tr (he u (h4.wt hp.xc.v w))⟩)
   .exact tS (.inr ⟨u,e,s',rfl,h3.tr hu,hx⟩)
 .exact tTt rfl (tS (.inr ⟨v,e,s',rfl,hv,hx⟩))
theorem zj_ (hC:VC X t st) {S:List Value} {v:Value} {d y:Nat} (w:WT X t st ⟨d,s.lo,s.fi,S++[v],s.ef⟩) (h:X.m.Code[d]?=some (mkI 29 (y:Int) 0)):(v.N=0->Steps X ⟨d,s.lo,s.fi,S++[v],s.ef⟩ ⟨y,s.lo,s.fi,S,s.ef⟩)/\(v.N≠0->Steps X ⟨d,s.lo,s.fi,S++[v],s.ef⟩ ⟨d+1,s.lo,s.fi,S,s.ef⟩)/\v=⟨2,v.N,[],[],[]⟩/\(v.N=0\/v.N=1):=by
 obtain ⟨e1,e2⟩:=at_e h;have hS:=w.s40 hC;simp only [List.length_append] at hS;have hx:=zk_ (X:=X) (lo:=s.lo) (fi:=s.fi) (S:=S) (ef:=s.ef) (v:=v) e2 hC.c.len (by omega) (by rw [e1]) (by rw [e1];show 0<=(y:Int);omega);have hv:=tv2 (zou hC w (by rw [e1]));rw [e1,show (mkI 29 (y:Int) 0).A.toNat=y from Int.toNat_natCast y] at hx;exact ⟨fun e=>by rw [if_pos e] at hx;exact .tl hx .rfl,fun e=>by rw [if_neg e] at hx;exact .tl hx .rfl,hv⟩
theorem zka (hC:VC X t st) {d y:Nat} {S:List Value} (w:WT X t st ⟨d,s.lo,s.fi,S,s.ef⟩) (h:X.m.Code[d]?=some (mkI 28 (y:Int) 0)):Steps X ⟨d,s.lo,s.fi,S,s.ef⟩ ⟨y,s.lo,s.fi,S,s.ef⟩:=by
 obtain ⟨e1,e2⟩:=at_e h;have hS:=w.s40 hC;simp only at hS;have hx:=zh_ (X:=X) (lo:=s.lo) (fi:=s.fi) (S:=S) (ef:=s.ef) e2 hC.c.len (by omega) (by rw [e1]) (by rw [e1];show 0<=(y:Int);omega);rw [e1,show (mkI 28 (y:Int) 0).A.toNat=y from Int.toNat_natCast y] at hx;exact .tl hx .rfl
theorem zlr (hC:VC X t st) {d:Nat} {S:List Value} {v:Value} (hS:S.length<=1000) (h:X.m.Code[d]?=some (mkP v)):Steps X ⟨d,s.lo,s.fi,S,s.ef⟩ ⟨d+1,s.lo,s.fi,S++[v],s.ef⟩:=by
 obtain ⟨e1,e2⟩:=at_e h;have hv:=(hC.c.ok.i _ (getD_mem e2):okI X.c t X.m (X.at_ d)).push (by rw [e1]);have hx:=zeS (X:=X) (lo:=s.lo) (fi:=s.fi) (S:=S) (ef:=s.ef) e2 hC.c.len hS (by rw [e1]) hv.1.cp;rw [e1] at hx;exact .tl hx .rfl
theorem zix {n:Node} {C:Bool} {fi lo:List Value} {ef:List Effect}:YI K n A B C fi lo ef sg=some (n,if n.Name=[124,124] then 1 else 0):=by
 unfold YI
 by_cases h:n.Name=[124,124]
 .rw [decide_eq_true h,if_pos h];rfl
 .rw [decide_eq_false h,if_neg h];rfl
theorem zfI (hp:PK X t st p b ns ins D):∀(N:Nat) (i:Int),i.toNat<N->0<=i->i<(ns.length:Int)->exK ns i->TW p ns D i->∀n,2*i.toNat+2<=n->EvT X t st p b ns ins i n:=by
 intro N
 induction N with
 | zero=>intro i h;omega
 | succ N ih =>
  intro i hN h0 h1 hx htw n hn A B sg s z hA hsg w hce;have hC:=hp.xc.v;have hS:=w.s40 hC;have hcl:=hC.c.len;have hir:0<=i/\i<(ns.length:Int):=⟨h0,h1⟩;have ko:KO ns (nd ns i):=hp.vn.b.ko i.toNat (by omega);have co:CO (nd ns i):=hp.vn.b.co i.toNat (by omega);have hkl:=hp.vn.kl h0 h1;obtain ⟨m,rfl⟩:∃m,n=m+2:=⟨n - 2,by omega⟩;have hok:∀z':Nat,z'<X.m.Code.length->okI X.c t X.m (X.at_ z'):=fun z' h=>hC.c.ok.i _ (getD_mem h);obtain ⟨hlc,htk⟩:LC p ns D i/\∀k∈(nd ns i).Kids,TW p ns D k:=by cases htw with|mk h k=>exact ⟨h,k⟩
  have kid:(∀k∈(nd ns i).Kids,exK ns k)->∀m',2*i.toNat<=m'->∀k∈(nd ns i).Kids,EvT X t st p b ns ins k m':=fun hex m' hm k hk=>by
   have:=hp.vn.kid h0 h1 hk;exact ih k (by omega) this.1 (by omega) (hex k hk) (htk k hk) m' (by omega)
  have hop:(A.nodes.getD i.toNat default)=nd ns i:=by rw [hA.nsE]
  have hOp:(A.nodes.getD i.toNat default).Op=opAt ns i:=by rw [hop];rfl
  unfold zh4 zD;rw [zc7 hA hir];have o2:∀{j:Int},opAt ns i=j->(nd ns i).Op=j:=fun h=>h;have ex:∀{k:Int} {α:Type} {Y Z:Option α},opAt ns i≠k->(bif (A.nodes.getD i.toNat default).Op==k then Y else Z)=Z:=fun h=>by rw [hOp,beq_eq_false_iff_ne.2 h,cond_false]
  have ey:∀{k:Int} {α:Type} {Y Z:Option α},opAt ns i=k->(bif (A.nodes.getD i.toNat default).Op==k then Y else Z)=Y:=fun h=>by rw [hOp,beq_iff_eq.2 h,cond_true]
  cases hce with
  | const o h =>
   obtain ⟨e1,e2⟩:=at_e h;have hv:=(hok _ e2).push (by rw [e1]);rw [ey o,zu];show Tot (some ((A.nodes.getD i.toNat default).Value,A,B,false,sg)) _;have:=zeS (X:=X) (lo:=s.lo) (fi:=s.fi) (S:=s.st) (ef:=s.ef) e2 hcl (by omega) (by rw [e1]) hv.1.cp;rw [e1] at this;rw [hop];exact tS (.inl ⟨_,rfl,.tl this .rfl⟩)
  | self o h =>
   obtain ⟨e1,e2⟩:=at_e h;rw [ex (by omega),ey o,zu];show Tot (some (((⟨3,0,A.key,[],[]⟩:Value),A,B,false,sg):EvR)) _;have:=zib (X:=X) (lo:=s.lo) (fi:=s.fi) (S:=s.st) (ef:=s.ef) e2 hcl (by omega) (by rw [e1]);rw [hA.keyE];exact tS (.inl ⟨_,rfl,.tl this .rfl⟩)
  | var o h =>
   obtain ⟨e1,e2⟩:=at_e h;rw [ex (by omega),ex (by omega),ey o,zu];show Tot ((zT K A B false s.fi s.lo s.ef sg i).bind fun v=>some (v,A,B,false,sg)) _;unfold zT;rw [zon hA];have hk:=hok _ e2;cases hfd:(vaOf b i).field with
   | true =>
    rw [hfd] at e1;have hA':=hk.fld (.inl (by rw [e1];rfl));rw [e1] at hA';have hA2:0<=(vaOf b i).slot/\(vaOf b i).slot<(t.Fields.length:Int):=hA';have hl:=w.fi.1;rw [List.length_map] at hl;have hv:=zlv w.fi (i:=(vaOf b i).slot.toNat) (by rw [List.length_map];omega);have:=zk9 (X:=X) (lo:=s.lo) (fi:=s.fi) (S:=s.st) (ef:=s.ef) e2 hcl (by omega) (by rw [e1];rfl) (by rw [e1];show 0<=(vaOf b i).slot/\_;omega) (by rw [e1];exact hv.2.vv.cp);rw [e1] at this;rw [cond_true,zy (by omega),zu];show Tot ((ifp _ ((yM K [s.fi.getD (vaOf b i).slot.toNat default]).bind _)).bind _) _;rw [zy (by omega),zfy hv.2.vv.cp];exact tS (.inl ⟨_,rfl,.tl this .rfl⟩)
   | false =>
    rw [hfd] at e1;have hA':=hk.loc (.inl (by rw [e1];rfl));rw [e1] at hA';have hA2:0<=(vaOf b i).slot/\(vaOf b i).slot<(X.m.zK.length:Int):=hA';have hl:=w.lo;have hb:=hC.f.bits s.pc e2 (by show (X.at_ s.pc).Op=2;rw [e1];rfl);have hv:TV (X.m.zK.getD (vaOf b i).slot.toNat default) (s.lo.getD (vaOf b i).slot.toNat default):=by
     rcases w.lv (vaOf b i).slot.toNat (by omega) with q|⟨q,_⟩
     .exact q
     .rw [show X.m.Code.getD s.pc default=_ from e1] at hb
      rw [show bit (st.getD s.pc default).set (vaOf b i).slot.toNat=true from hb] at q;cases q
    have:=zia (X:=X) (lo:=s.lo) (fi:=s.fi) (S:=s.st) (ef:=s.ef) e2 hcl (by omega) (by rw [e1];rfl) (by rw [e1];show 0<=(vaOf b i).slot/\_;omega) (by rw [e1];exact hv.2.vv.cp);rw [e1] at this;rw [cond_false,zy (by omega),zu];show Tot ((ifp _ ((yM K [s.lo.getD (vaOf b i).slot.toNat default]).bind _)).bind _) _;rw [zy (by omega),zfy hv.2.vv.cp];exact tS (.inl ⟨_,rfl,.tl this .rfl⟩)
  | un o k h =>
   obtain ⟨e1,e2⟩:=at_e h;rw [ex (by omega),ex (by omega),ex (by omega),ey o];have kk:∀k∈(nd ns i).Kids,exK ns k:=by cases ko<;>first|assumption|(exfalso;have:=o2 o;omega)
   have kl:(nd ns i).Kids.length=1:=by cases ko<;>first|assumption|(exfalso;have:=o2 o;omega)
   show Tot ((Xc K (zx.at K (m+1)) A B false s.fi s.lo s.ef sg (A.nodes.getD i.toNat default) (A.nodes.getD i.toNat default)).bind some) _;rw [hop,zhB];refine ziL hp hA hsg w (kid kk m (by omega)) hkl k (f:=fun l=>qN K l (nd ns i)) fun l hl w'=>?_;rw [kl] at hl
   match l,hl with
   | [v],_ =>
    have hv:Vi v:=w'.stk.mem v (by simp);obtain ⟨⟨u,e⟩,hr,_⟩:=zeu (nm:=(nd ns i).Name) hv;refine ⟨u,e,?_,?_⟩
    .unfold qN
     rw [zy (by simp),show WM K (nd ns i).Name ([v].getD 0 default)=_ from hr];rfl
    .rcases co.1 (o2 o) with q|q
     .rw [q] at hr e1
      exact zla e2 hcl (by omega) (by rw [e1];rfl) hr
     .rw [q] at hr e1
      exact zlb e2 hcl (by omega) (by rw [e1];rfl) hr
  | bin o nm k h =>
   obtain ⟨e1,e2⟩:=at_e h;rw [ex (by omega),ex (by omega),ex (by omega),ex (by omega),ey o];have kk:∀k∈(nd ns i).Kids,exK ns k:=by cases ko<;>first|assumption|(exfalso;have:=o2 o;omega)
   have kl:(nd ns i).Kids.length=2:=by cases ko<;>first|assumption|(exfalso;have:=o2 o;omega)
   have hn:(decide ((A.nodes.getD i.toNat default).Name=[38,38])||decide ((A.nodes.getD i.toNat default).Name=[124,124]))=false:=by
    rw [hop];simp only [bOp,List.mem_cons,Prod.mk.injEq,List.not_mem_nil,or_false] at nm;rcases nm with ⟨e,_⟩|⟨e,_⟩|⟨e,_⟩|⟨e,_⟩|⟨e,_⟩|⟨e,_⟩|⟨e,_⟩|⟨e,_⟩|⟨e,_⟩|⟨e,_⟩|⟨e,_⟩|⟨e,_⟩<;>rw [e]<;>rfl
   rw [hn,cond_false];show Tot ((Yb K (zx.at K (m+1)) A B false s.fi s.lo s.ef sg (A.nodes.getD i.toNat default) (A.nodes.getD i.toNat default)).bind some) _;rw [hop,zhB];refine ziL hp hA hsg w (kid kk m (by omega)) hkl k (f:=fun l=>qO K l (nd ns i)) fun l hl w'=>?_;rw [kl] at hl
   match l,hl with
   | [v,v'],_ =>
    have hv:Vi v:=w'.stk.mem v (by simp);have hv':Vi v':=w'.stk.mem v' (by simp);obtain ⟨⟨u,e⟩,hr,_⟩:=zfs (nm:=(nd ns i).Name) hv hv';refine ⟨u,e,?_,zk8 e2 hcl (by omega) (by rw [e1];exact nm) hr⟩;unfold qO;rw [zy (by simp),zy (by simp),show W9 K (nd ns i).Name ([v,v'].getD 0 default) ([v,v'].getD 1 default)=_ from hr];rfl
  | @app _ _ _ _ zz o nm k h =>
   obtain ⟨e1,e2⟩:=at_e h;rw [ex (by omega),ex (by omega),ex (by omega),ex (by omega),ex (by omega)];have kk:∀k∈(nd ns i).Kids,exK ns k:=by cases ko<;>first|assumption|(exfalso;have:=o2 o;omega)
   have kl:(nd ns i).Kids.length<=16:=by cases ko<;>first|assumption|(exfalso;have:=o2 o;omega)
   show Tot ((Yc K (zx.at K (m+1)) A B false s.fi s.lo s.ef sg (A.nodes.getD i.toNat default) (A.nodes.getD i.toNat default)).bind some) _;rw [hop,zhB];refine ziL hp hA hsg w (kid kk m (by omega)) hkl k (f:=fun l=>qP K l (nd ns i)) fun l hl w'=>?_;have har:=hlc.2 o;rw [<-hl] at nm har kl;have hb:((nd ns i).Name,(X.at_ zz).Op,(X.at_ zz).A)∈aOp l.length:=by rw [e1];exact nm
   obtain ⟨ks,kd,hB,hT⟩:=zot hC w' hb har kl;obtain ⟨⟨u,e⟩,hr,_⟩:=zdu hB hT;refine ⟨u,e,?_,zk7 e2 hcl (by omega) hb har (by omega) hr⟩;unfold qP;rw [hr];rfl
  | @and _ _ d z' o nm k h l j q =>
   rw [ex (by omega),ex (by omega),ex (by omega),ex (by omega),ey o];have kk:∀k∈(nd ns i).Kids,exK ns k:=by cases ko<;>first|assumption|(exfalso;have:=o2 o;omega)
   have kl:(nd ns i).Kids.length=2:=by cases ko<;>first|assumption|(exfalso;have:=o2 o;omega)
   rw [hop,show (decide ((nd ns i).Name=[38,38])||decide ((nd ns i).Name=[124,124]))=true by rw [nm];rfl,cond_true,zix,if_neg (by rw [nm];decide),zu,zu];show Tot ((qB K (zx.at K (m+1)) A B false s.fi s.lo s.ef sg (nd ns i) 0).bind some) _;rw [zhB];have kd:=kid kk (m+1) (by omega);refine ziy hp hA hsg w kl (kd _ (getD_mem (by omega))) (kd _ (getD_mem (by omega))) k l (fun v w'=>?_) fun v w'=>zka hC w' j;obtain ⟨j1,j2,j3,j4⟩:=zj_ hC w' h;refine ⟨fun e=>(j1 e).tr ?_,j2⟩;have:=zlr hC (s:=s) (S:=s.st) (by omega) q;rw [j3,e];exact this
  | @or _ _ d _ o nm k h q j l =>
   rw [ex (by omega),ex (by omega),ex (by omega),ex (by omega),ey o];have kk:∀k∈(nd ns i).Kids,exK ns k:=by cases ko<;>first|assumption|(exfalso;have:=o2 o;omega)
   have kl:(nd ns i).Kids.length=2:=by cases ko<;>first|assumption|(exfalso;have:=o2 o;omega)
   rw [hop,show (decide ((nd ns i).Name=[38,38])||decide ((nd ns i).Name=[124,124]))=true by rw [nm];rfl,cond_true,zix,if_pos nm,zu,zu];show Tot ((qB K (zx.at K (m+1)) A B false s.fi s.lo s.ef sg (nd ns i) 1).bind some) _;rw [zhB];have kd:=kid kk (m+1) (by omega);refine ziy hp hA hsg w kl (kd _ (getD_mem (by omega))) (kd _ (getD_mem (by omega))) k l (fun v w'=>?_) fun v w'=>.rfl;obtain ⟨j1,j2,j3,j4⟩:=zj_ hC w' h;refine ⟨fun e=>?_,fun e=>j1 (by omega)⟩;have h1:=j2 (by omega);have h2:=zlr hC (s:=s) (S:=s.st) (by omega) q;have h3:=h1.tr h2;have h4:=h3.tr (zka hC (h3.wt hC w') j);have e3:v=⟨2,1,[],[],[]⟩:=by rw [j3,e]
   rw [<-e3] at h4;exact h4
  | _=>exfalso;unfold exK at hx;omega
end
end Md
end Go.Proofs.YtbijabmjbgplbaaGreatDoor
