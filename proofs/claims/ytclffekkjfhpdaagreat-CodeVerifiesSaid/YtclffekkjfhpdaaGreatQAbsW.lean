import Derived.Test.YtclffekkjfhpdaaGreatQAbsR
import Derived.Test.YtclffekkjfhpdaaGreatQMd
namespace Go.Proofs.YtclffekkjfhpdaaGreat
open Go.ChangeShapes Go.WideShapes Go.RowKit
set_option linter.unusedVariables false
set_option linter.unusedSimpArgs false
namespace Md
theorem wrap_W (n:Int):IntKind.i64.wrap n=W n:=by
 unfold W IntKind.wrap
 simp [IntKind.bits,IntKind.signed]
theorem wr_u8 (n:Int):IntKind.u8.wrap n=n%256:=by simp [IntKind.wrap,IntKind.bits,IntKind.signed]
theorem wr_u64 (n:Int):IntKind.u64.wrap n=n%18446744073709551616:=by simp [IntKind.wrap,IntKind.bits,IntKind.signed]
theorem nat_add {a b:Nat} (h:a+b≤9223372036854775807):IntKind.i64.wrap ((a:Int)+(b:Int))=((a+b:Nat):Int):=(Abs.wrap_i64 (by omega) (by omega)).trans (by omega)
theorem nat_mul {a b:Nat} (h:a*b≤9223372036854775807):IntKind.i64.wrap ((a:Int)*(b:Int))=((a*b:Nat):Int):=by
 rw [←Int.natCast_mul]
 exact Abs.wrap_i64 (by omega) (by omega)
theorem nat_min (a b:Nat):(if (b:Int)<(a:Int) then (b:Int) else (a:Int))=((min a b:Nat):Int):=by split<;>omega
theorem int_max (a b:Int):(if b>a then b else a)=max a b:=by split<;>omega
theorem nat_toNat (n:Nat):((n:Int)).toNat=n:=rfl
theorem int_toNat (n:Int):n.toNat=n.toNat:=rfl
theorem ixor_i64 (a b:Int):IntKind.i64.wrap (BitVec.ofInt IntKind.i64.bits a ^^^ BitVec.ofInt IntKind.i64.bits b).toNat=ixor a b:=wrap_W _
theorem ishr_i64 (a:Int) {m:Int} {n:Nat} (h:m.toNat=n):a.fdiv (2^(min m.toNat IntKind.i64.bits))=ishr a n:=by rw [h];rfl
theorem bv_u8 (a:UInt8):BitVec.ofInt IntKind.u8.bits (a.toNat:Int)=a.toBitVec:=by
 apply BitVec.eq_of_toNat_eq
 have:=a.toNat_lt
 have h:IntKind.u8.bits=8:=rfl
 simp [h]
 rfl
theorem and_u8 (a b:UInt8):IntKind.u8.wrap (BitVec.ofInt IntKind.u8.bits (a.toNat:Int) &&& BitVec.ofInt IntKind.u8.bits (b.toNat:Int)).toNat=((a &&& b).toNat:Int):=by
 rw [bv_u8,bv_u8,wr_u8]
 have:=(a &&& b).toNat_lt
 show ((a &&& b).toNat:Int)%_=_
 omega
theorem or_u8 (a b:UInt8):IntKind.u8.wrap (BitVec.ofInt IntKind.u8.bits (a.toNat:Int) ||| BitVec.ofInt IntKind.u8.bits (b.toNat:Int)).toNat=((a ||| b).toNat:Int):=by
 rw [bv_u8,bv_u8,wr_u8]
 have:=(a ||| b).toNat_lt
 show ((a ||| b).toNat:Int)%_=_
 omega
theorem ofInt_u8 (n:Int):IntKind.u8.wrap n=((UInt8.ofInt n).toNat:Int):=by
 rw [wr_u8]
 show _=(((UInt8.ofNat (n%2^8).toNat).toNat:Nat):Int)
 rw [UInt8.toNat_ofNat']
 omega
theorem ziH (a:UInt8):IntKind.u64.wrap (a.toNat:Int)=((a.toUInt64).toNat:Int):=by rw [wr_u64,UInt8.toNat_toUInt64];have:=a.toNat_lt;omega
theorem zhJ (a:UInt8):IntKind.i64.wrap (a.toNat:Int)=((a.toNat:Nat):Int):=by have:=a.toNat_lt;exact Abs.wrap_i64 (by omega) (by omega)
theorem add_u64 (a b:UInt64):IntKind.u64.wrap ((a.toNat:Int)+(b.toNat:Int))=((a+b).toNat:Int):=by rw [wr_u64,UInt64.toNat_add];omega
theorem sub_u64 (a b:UInt64):IntKind.u64.wrap ((a.toNat:Int) - (b.toNat:Int))=((a - b).toNat:Int):=by
 rw [wr_u64,UInt64.toNat_sub]
 have:=a.toNat_lt
 have:=b.toNat_lt
 omega
theorem mul_u64 (a b:UInt64):IntKind.u64.wrap ((a.toNat:Int)*(b.toNat:Int))=((a*b).toNat:Int):=by rw [wr_u64,UInt64.toNat_mul,←Int.natCast_mul];omega
theorem bv_u64 (a:UInt64):BitVec.ofInt IntKind.u64.bits (a.toNat:Int)=a.toBitVec:=by
 apply BitVec.eq_of_toNat_eq
 have:=a.toNat_lt
 have h:IntKind.u64.bits=64:=rfl
 simp [h]
 rfl
theorem and_u64 (a b:UInt64):IntKind.u64.wrap (BitVec.ofInt IntKind.u64.bits (a.toNat:Int) &&& BitVec.ofInt IntKind.u64.bits (b.toNat:Int)).toNat=((a &&& b).toNat:Int):=by
 rw [bv_u64,bv_u64,wr_u64]
 have:=(a &&& b).toNat_lt
 show ((a &&& b).toNat:Int)%_=_
 omega
theorem or_u64 (a b:UInt64):IntKind.u64.wrap (BitVec.ofInt IntKind.u64.bits (a.toNat:Int) ||| BitVec.ofInt IntKind.u64.bits (b.toNat:Int)).toNat=((a ||| b).toNat:Int):=by
 rw [bv_u64,bv_u64,wr_u64]
 have:=(a ||| b).toNat_lt
 show ((a ||| b).toNat:Int)%_=_
 omega
theorem xor_u64 (a b:UInt64):IntKind.u64.wrap (BitVec.ofInt IntKind.u64.bits (a.toNat:Int) ^^^ BitVec.ofInt IntKind.u64.bits (b.toNat:Int)).toNat=((a ^^^ b).toNat:Int):=by
 rw [bv_u64,bv_u64,wr_u64]
 have:=(a ^^^ b).toNat_lt
 show ((a ^^^ b).toNat:Int)%_=_
 omega
theorem shl_u64 (a:UInt64) {m:Int} {n:Nat} (h:m.toNat=n):IntKind.u64.wrap ((a.toNat:Int)*2^(min m.toNat IntKind.u64.bits))=((shl64 a n).toNat:Int):=by
 subst h
 rw [wr_u64]
 show _=((UInt64.ofNat (a.toNat*2^min m.toNat 64)).toNat:Int)
 rw [UInt64.toNat_ofNat']
 have h:((a.toNat:Int)*2^(min m.toNat IntKind.u64.bits))=((a.toNat*2^min m.toNat 64:Nat):Int):=by
  rw [Int.natCast_mul,Int.natCast_pow]
  rfl
 rw [h]
 omega
theorem shr_u64 (a:UInt64) {m:Int} {n:Nat} (h:m.toNat=n):(a.toNat:Int).fdiv (2^(min m.toNat IntKind.u64.bits))=((shr64 a n).toNat:Int):=by
 subst h
 show _=((UInt64.ofNat (a.toNat/2^min m.toNat 64)).toNat:Int)
 rw [UInt64.toNat_ofNat']
 have h:((2:Int)^(min m.toNat IntKind.u64.bits))=((2^min m.toNat 64:Nat):Int):=by
  rw [Int.natCast_pow]
  rfl
 rw [h,←Int.ofNat_fdiv]
 have h1:=a.toNat_lt
 have h2:=Nat.div_le_self a.toNat (2^min m.toNat 64)
 generalize a.toNat/(2^min m.toNat 64)=q at *
 omega
theorem ofNat_u64 (n:Nat):IntKind.u64.wrap (n:Int)=((UInt64.ofNat n).toNat:Int):=by rw [wr_u64,UInt64.toNat_ofNat'];omega
theorem ofInt_u64 (n:Int):IntKind.u64.wrap n=((UInt64.ofInt n).toNat:Int):=by
 rw [wr_u64]
 show _=(((UInt64.ofNat (n%2^64).toNat).toNat:Nat):Int)
 rw [UInt64.toNat_ofNat']
 omega
theorem zhM (a:UInt64):IntKind.u8.wrap (a.toNat:Int)=((a.toUInt8).toNat:Int):=by rw [wr_u8,UInt64.toNat_toUInt8];omega
end Md
namespace Abs
abbrev Sv (l:List UInt8):Value:=.string ⟨l.toArray⟩
section
variable {P:Program} {s:ASt} {d:Option Nat} {ty t xT yT:TypeId} {pos:String} {af:Array Edge} {g:Option (Nat×Bool)} {x y c:Operand} {k k':IntKind} {m n q:Int} {e sz bytes id:Nat}
theorem str_ext {a b:List UInt8}:((⟨a.toArray⟩:ByteArray)=⟨b.toArray⟩)↔a=b:=by
 constructor
 ·intro h
  injection h with h
  exact congrArg Array.toList h
 ·rintro rfl;rfl
theorem st_str_eq {a b:List UInt8} (hx:s.ev x=.one (.val (Sv a))) (hy:s.ev y=.one (.val (Sv b))) (hd:dOk s d=true):Ev P [] s ⟨d,.binOp .eql xT x y yT,ty,pos,af,g⟩ (· = s.put d (.one (.val (.bool (decide (a=b)))))) :=
 ev_str_eq hx hy hd (decide_eq_decide.2 str_ext)
theorem st_str_ne {a b:List UInt8} (hx:s.ev x=.one (.val (Sv a))) (hy:s.ev y=.one (.val (Sv b))) (hd:dOk s d=true):Ev P [] s ⟨d,.binOp .neq xT x y yT,ty,pos,af,g⟩ (· = s.put d (.one (.val (.bool (!(decide (a=b))))))) :=
 ev_str_ne hx hy hd (congrArg _ (decide_eq_decide.2 str_ext))
theorem zdg {a:List UInt8} (hx:s.ev x=.one (.val (Sv a))) [ht:TStr P t] (hd:dOk s d=true):Ev P [] s ⟨d,.call { callee:=.builtin .len,args:=#[x],argTypes:=#[t] },ty,pos,af,g⟩ (· = s.put d (.one (.val (.int .i64 ((a.length:Nat):Int))))) :=
 ziW hx hd
theorem zfX {a:List UInt8} {i:Int} {j:Nat} (hx:s.ev x=.one (.val (Sv a))) (hy:s.ev y=.one (.val (.int k i))) (hi:i=(j:Int)) (hj:j<a.length) [ht:TStr P t] (hd:dOk s d=true) :
  Ev P [] s ⟨d,.index t x y,ty,pos,af,g⟩ (· = s.put d (.one (.val (.int .u8 ((a.getD j 0).toNat:Int))))):=by
 have h:=zin (P:=P) (ty:=ty) (pos:=pos) (af:=af) (g:=g) (t:=t) hx hy hi (show j<(⟨a.toArray⟩:ByteArray).size from hj) hd
 have e:(⟨a.toArray⟩:ByteArray)[j]'hj=a.getD j 0:=by
  show a.toArray[j]=_
  simp [List.getD,hj]
 rwa [e] at h
theorem zco {dd:TypeDesc} {i:Int} (hx:s.ev x=.one (.val (.int k i))) (hd:dOk s d=true) (hS:P.underlying xT=some dd) (hT:P.underlying yT=some (.int k')) (hq:k'.wrap i=q):Ev P [] s ⟨d,.convert xT yT x,ty,pos,af,g⟩ (· = s.put d (.one (.val (.int k' q)))):=ziC hx hd hS hT hq
theorem st_neg (hx:s.ev x=.one (.val (.int k n))) (hd:dOk s d=true) (hq:k.wrap (-n)=q):Ev P [] s ⟨d,.unOp .neg xT x,ty,pos,af,g⟩ (· = s.put d (.one (.val (.int k q)))) :=
 ev_of_val hd rfl fun U a w hv M=>by
  have h:(0:Int) - n=-n:=by omega
  simp [execOp,Op.unary,M.val hx,Op.intArith,h,hq]
variable {α:Type} [Inhabited α] {f:α→List CV}
theorem zis {l:List α} {lo hi:Option Operand} {a b:Nat} (hs:∀x,(f x).length=sz) (hx:s.ev x=.one (.slc l.length (lsEl f l))) (hl:Bnd s lo 0 a) (hh:Bnd s hi l.length b) (h1:a≤b∧b≤l.length) [TSl P t e sz bytes] (hd:dOk s d=true) :
  Ev P [] s ⟨d,.slice t x lo hi none,ty,pos,af,g⟩ (· = s.put d (.one (CV.ls f ((l.drop a).take (b - a))))):=st_cut l a b hs hx hl hh h1.1 h1.2 rfl hd
theorem st_cut_hi {l:List α} {hi:Option Operand} {b:Nat} (hs:∀x,(f x).length=sz) (hx:s.ev x=.one (.slc l.length (lsEl f l))) (hh:Bnd s hi l.length b) (h1:b≤l.length) [TSl P t e sz bytes] (hd:dOk s d=true) :
  Ev P [] s ⟨d,.slice t x none hi none,ty,pos,af,g⟩ (· = s.put d (.one (CV.ls f (l.take b)))):=st_cut l 0 b hs hx rfl hh (Nat.zero_le _) h1 rfl hd
theorem st_cut_lo {l:List α} {lo:Option Operand} {a:Nat} (hs:∀x,(f x).length=sz) (hx:s.ev x=.one (.slc l.length (lsEl f l))) (hl:Bnd s lo 0 a) (h1:a≤l.length) [TSl P t e sz bytes] (hd:dOk s d=true) :
  Ev P [] s ⟨d,.slice t x lo none none,ty,pos,af,g⟩ (· = s.put d (.one (CV.ls f (l.drop a)))) :=
 st_cut l a l.length hs hx hl rfl h1 (Nat.le_refl _) (List.take_of_length_le (by simp)) hd
end
end Abs
end Go.Proofs.YtclffekkjfhpdaaGreat
namespace Go.Proofs.YtclffekkjfhpdaaGreat
open Go.ChangeShapes Go.WideShapes Go.RowKit
set_option linter.unusedVariables false
set_option linter.unusedSimpArgs false
namespace Abs
section
variable {P:Program} {s:ASt} {d:Option Nat} {ty t xT yT:TypeId} {pos:String} {af:Array Edge} {g:Option (Nat×Bool)} {x y c:Operand} {e sz bytes n:Nat} {el:Nat→List CV}
theorem zgX {A:Nat→Prop} {w:World} {base:Nat} {v:Value} {vs:List Value} (h1:w.ownsRow base e sz v n vs) (hA:∀b,base≤b→¬A b) (h2:∀i,i<n→(el i).length=sz)
  (h3:∀(i j:Nat) (c:CV),i<n→(el i)[j]?=some c→∃u,vs[i*sz+j]?=some u∧RepC A w c u):RepC A w (.slc n el) v:=by
 have hget:∀(i j:Nat) (c:CV),i<n→(el i)[j]?=some c→vs[i*sz+j]?=some (vs.getD (i*sz+j) undef):=fun i j c hi hj=>by
  obtain ⟨u,h4,_⟩:=h3 i j c hi hj
  rw [List.getD,h4]
  rfl
 rcases h1.2 with ⟨h4,h5⟩|⟨g,cap,cur,h4,h5,h6,h7,h8,h9,h10⟩
 ·rw [h4,h5];exact RepC.nil _
 ·rw [h4]
  refine RepC.slc n el sz g 0 cap (fun i j=>vs.getD (i*sz+j) undef) (Array.getElem?_eq_some_iff.1 h6).1 (hA g h5) h7 h8 h2 (fun i j c hi hj=>?_) (fun i j c hi hj=>?_)
  ·rw [Nat.zero_add]
   have h11:=h1.cells (g:=g) (by rw [h4];rfl) _ _ (hget i j c hi hj)
   rw [add_at,Nat.zero_add] at h11
   exact h11
  ·obtain ⟨u,h11,h12⟩:=h3 i j c hi hj
   rw [hget i j c hi hj] at h11
   injection h11 with h11
   simp only [h11]
   exact h12
theorem zhy [kk:TSl P t e sz bytes] (hd:dOk s d=true):Ev P [] s ⟨d,.buildSlice t 0 #[],ty,pos,af,g⟩ (· = s.put d (.one .emp0)) :=
 ev_of_run hd fun U a w hv m=>by
  have E:=TSl.elem (P:=P) (t:=t) (e:=e) (sz:=sz) (bytes:=bytes)
  refine ⟨.slice (some ⟨w.heap.size,0,none⟩) 0 0,w.alloc (.cells #[] e),?_,Fr.alloc _ _ _,RepC.emp0 _⟩
  simp only [execOp,Instr.buildSlice,Sem.run_bind,run_underlying E.slice,Result.andThen_ok,TSl.run_size (P:=P) (t:=t) (e:=e) (sz:=sz) (bytes:=bytes)]
  simp [Instr.fill,newRow,newObj,show Array.range 0=#[] from rfl]
  rfl
theorem emp_inv {h:Heap} {hv:Nat→Value} {A:Nat→Prop} {w:World} {v:Value} (hr:RepV h hv A w (.one .emp0) v):∃Ad,v=.slice Ad 0 0:=by
 cases (show RepC A w .emp0 v from hr)
 exact ⟨_,rfl⟩
variable {α:Type} [Inhabited α] {f:α→List CV}
theorem zzip (l:List α) (hs:∀x,(f x).length=sz) (hx:s.ev x=.one .emp0) (hy:s.ev y=.one (.slc l.length (lsEl f l))∨∃i2 e2,s.ev y=.one (.own i2)∧look s.heap i2=some (.row e2 sz l.length (lsEl f l)))
  [TSl P t e sz bytes] (hfit:l.length*bytes≤140737488355328) (hmax:l.length≤140737488355328) (hd:dOk s d=true) :
  Ev P [] s ⟨d,.call { callee:=.builtin .append,args:=#[x,y],argTypes:=#[t,t] },ty,pos,af,g⟩ (· = s.put d (.one (CV.ls f l))) :=
 ev_of_run hd fun U a w hv m=>by
  have E:=TSl.elem (P:=P) (t:=t) (e:=e) (sz:=sz) (bytes:=bytes)
  have hmax':=maxLen_ge hmax
  obtain ⟨Ad,cap,news,hv2,_,hcm,hfl,hlen,hone,hrep⟩:=m.src hy (fun i _=>hs _) E.pos
  have hr:=m.ev x
  rw [hx] at hr
  obtain ⟨A0,he⟩:=emp_inv hr
  have hAlt:∀b,w.heap.size≤b→¬(U b∨mine s.heap hv b):=fun b hb h=>by
   rcases h with h|h
   ·have:=m.hm.ult b h;omega
   ·have:=m.hm.lt h;omega
  have fin:∀v' w',(Builtin.append_ #[t,t] ty #[a.eval x,a.eval y]).run P w=.ok v' w'→w'.ownsRow w.heap.size e sz v' l.length news→w.grownBy w' none →
    ∃v w',(execOp a.eval ⟨d,.call { callee:=.builtin .append,args:=#[x,y],argTypes:=#[t,t] },ty,pos,af,g⟩).run P w=.ok (.value v) w'∧Fr (fun _=>False) w w'∧RepV s.heap hv (fun b=>U b∨mine s.heap hv b) w' (.one (CV.ls f l)) v:=fun v' w' h1 h2 h3=>by
   have hf:Fr (fun _=>False) w w':=Fr.grown h3 fun k hk=>by cases hk
   refine ⟨v',w',zeX (v:=undef) h1,hf,zgX h2 hAlt (fun i _=>hs _) fun i j c hi hj=>?_⟩
   obtain ⟨u,h4,h5⟩:=hrep i j c hi hj
   exact ⟨u,h4,h5.keep hf (fun _ e=>e.elim) fun _ _ h=>h⟩
  cases A0 with
  | none =>
   obtain ⟨v',w',hrun,ho,hg,_⟩:=Kit.run_app E w ty w.heap.size (.slice none 0 0) 0 [] ⟨by simp,.inl ⟨rfl,rfl⟩⟩ Ad l.length cap w.heap.size news hfl hlen hone (by omega) (by simpa using hfit) (Nat.le_refl _)
   simp only [Nat.zero_add,List.nil_append] at ho
   rw [←hv2,←he] at hrun
   exact fin v' w' hrun ho hg
  | some a0 =>
   rcases Nat.eq_zero_or_pos l.length with h0|h0
   ·have hrun:=Kit.zgH (P:=P) E w ty (some a0) 0 0 (Nat.le_refl _) Ad cap
    rw [h0] at hv2
    rw [←hv2,←he] at hrun
    refine ⟨_,w,zeX (v:=undef) hrun,Fr.refl _ _,?_⟩
    rw [he]
    show RepC _ w (.slc l.length (lsEl f l)) _
    rw [h0]
    exact RepC.empty (by unfold maxLen;decide) (fun _=>rfl)
   ·obtain ⟨v',w',hrun,ho,hg⟩:=Kit.zgM E w ty w.heap.size (some a0) 0 w.heap.size [] (Kit.Flat.nil _ _ _) (by simp) Ad l.length cap w.heap.size news hfl hlen h0 (by omega) (by simpa using hfit) (Nat.le_refl _) rfl
    simp only [Nat.zero_add,List.nil_append] at ho
    rw [←hv2,←he] at hrun
    exact fin v' w' hrun ho hg
theorem zek {parts:List (Nat×Operand)} {vs:List AV} {L:Nat} {out:List CV} [kk:TSl P t e sz bytes] {z:Value} [kz:TZero P e z] {zs:List Value} (hx:parts.map (fun p=>s.ev p.2)=vs) (hz:z.cells=zs.toArray) (hone:zs.all (·.oneCell')=true)
  (ho:fillC (fun i=>some (i*sz,sz)) ((List.range (L*sz)).map fun i=>CV.val (zs.getD (i%zs.length) undef)) ((parts.map (·.1)).zip vs)=some out) (hrd:out.all CV.read=true) (hlen:out.length=L*sz) (hL:Nat.ble (L*sz) 16777216=true) (hel:∀i,i<L→(out.drop (i*sz)).take sz=el i) (hd:dOk s d=true) :
  Ev P [] s ⟨d,.buildSlice t L parts.toArray,ty,pos,af,g⟩ (· = s.put d (.one (.slc L el))) :=
 ev_frz [] fun k hk _=>zac k hk hx hz hone ho hrd hlen hL hel hd
theorem zfl {code:Code} {Q:Exit→ASt→Prop} (tt id e sz:Nat) (el:Nat→List CV) (hid:look s.heap id=none) (ht:get s.env tt=.one (.val (.slice none 0 0)))
  (h:AW P code ⟨s.nt,s.kp,(tt,.one (.own id))::s.env,(id,some (.row e sz 0 el))::s.heap⟩ Q):AW P code s Q:=fun n r U T w0 a w hv ok mk=>by
 have hval:(bare a).tmps.getD tt undef=.slice none 0 0:=ok.m.val (x:=.tmp tt) ht
 have ok1:=ok.new (w':=w) (blk:=.row e sz 0 el) (u:=.slice none 0 0) hid (Fr.refl (fun _=>False) w) (fun g hg=>by cases hg) ⟨[],by rw [upd_same];exact ⟨by simp,.inl ⟨rfl,rfl⟩⟩,fun i hi=>by omega,fun i j c hi=>by omega⟩ (d:=none) (r:=.one .any) (v:=undef) trivial rfl
 refine h n r U T w0 a w _ ⟨⟨ok1.m.nt,ok1.m.defers,fun t'=>?_,ok1.m.hm⟩,ok1.fr,ok1.own,ok1.box⟩ mk
 show RepV _ _ _ _ (get (_::_) t') _
 rw [get_cons]
 by_cases e:tt=t'
 ·rw [if_pos e]
  subst e
  exact ⟨⟨_,sz,0,el,look_same _ _ _⟩,by rw [hval,upd_same],none,0,0,hval⟩
 ·rw [if_neg e]
  exact ok1.m.env t'
theorem ev_callee {X:List Nat} {S:ASt→Prop} {f:FuncId} {args:Array Operand} {tys:Array TypeId} (hx:s.ev x=.one (.fn f [])) (h:Ev P X s ⟨d,.call { callee:=.value (.func f),args:=args,argTypes:=tys },ty,pos,af,g⟩ S) :
  Ev P X s ⟨d,.call { callee:=.value x,args:=args,argTypes:=tys },ty,pos,af,g⟩ S:=fun U T w0 a w hv ok K Q hK=>by
 have hr:=ok.m.ev x
 rw [hx] at hr
 obtain ⟨vs,h1,h2⟩:=(show ∃vs:List Value,a.eval x=.func (.func f) #[] vs.toArray∧All2 _ [] vs from hr)
 cases h2
 have he:a.eval x=a.eval (.func f):=h1
 have:=h U T w0 a w hv ok K Q hK
 unfold Oper.wp at this ⊢
 have e:execOp a.eval ⟨d,.call { callee:=.value x,args:=args,argTypes:=tys },ty,pos,af,g⟩=execOp a.eval ⟨d,.call { callee:=.value (.func f),args:=args,argTypes:=tys },ty,pos,af,g⟩:=by
  simp only [execOp,resolve,he]
 rw [e]
 exact this
theorem _root_.Go.Proofs.YtclffekkjfhpdaaGreat.Md.ev_nn {k:IntKind} {n:Int} (hx:s.ev x=.one (.val (.int k n))) (h:0≤n):s.ev x=.one (.val (.int k ((n.toNat:Nat):Int))):=by
 rw [hx,show ((n.toNat:Nat):Int)=n by omega]
variable {Q:Exit→ASt→Prop}
theorem wp_part {o:Oper} {a:Act} {w:World} {K K':Act→World→Prop} {R R':Exit→Act→World→Prop} (h:∀a w,K a w→K' a w) (hR:∀e a w,R e a w→e≠.normal→R' e a w) (hh:o.wp P a w K R):o.wp P a w K' R':=by
 unfold Oper.wp at *
 generalize (execOp a.eval o).run P w=r at *
 have hout:LetsOut R→LetsOut R':=fun ⟨a,w,k⟩=>⟨a,w,hR _ _ _ k (by nofun)⟩
 cases r with
 | ok n w' =>
  cases n<;>simp only [Oper.upon] at hh ⊢ <;>
   first
    | exact h _ _ hh
    | exact Calls.mono hh (fun e w'' he=>by cases e<;>first|exact h _ _ he|exact hR _ _ _ he (by nofun)|exact hout he)
    | exact Rows.mono hh (fun _ _ he=>h _ _ he)
 | halt x w'=>cases x<;>simp only [Oper.upon] at hh ⊢ <;> first|exact hh|exact hR _ _ _ hh (by nofun)
theorem zgU {ops:Array Oper} {R R':Exit→Act→World→Prop} {l2:List Oper}:∀{l1:List Oper} {a:Act} {w:World},wpList P ops R l1 a w→(∀e a' w',R e a' w'→e=.normal∧wpList P ops R' l2 a' w')→wpList P ops R' (l1++l2) a w
 | [],a,w,h,hc=>(hc _ _ _ h).2
 | o::l1,a,w,h,hc=>by
  have ih:=fun (a':Act) (w':World) (h':wpList P ops R l1 a' w')=>zgU (l2:=l2) (R':=R') h' hc
  show wpList P ops R' (o::(l1++l2)) a w
  unfold wpList at h ⊢
  split
  ·rename_i hw
   rw [if_pos hw] at h
   rcases h with h|⟨_,a',w',k⟩
   ·exact .inl (wp_part ih (fun e a w k hn=>absurd (hc _ _ _ k).1 hn) h)
   ·exact absurd (hc _ _ _ k).1 (by nofun)
  ·rename_i hw
   rw [if_neg hw] at h
   exact ih _ _ h
theorem aops_app {ops:Array Oper} {R:Exit→ASt→Prop}:∀(l1:List Oper) {l2:List Oper} {s:ASt},AOps P ops l1 s R→(∀e s',R e s'→e=.normal∧AOps P ops l2 s' Q)→AOps P ops (l1++l2) s Q :=
 fun l1 {l2} {s} h hc U T w0 a w hv ok=>zgU (h U T w0 a w hv ok) fun e a' w' hq=>by
  obtain ⟨_,s',hv',h1,ok'⟩:=hq
  obtain ⟨rfl,h2⟩:=hc e s' h1
  exact ⟨rfl,h2 U T w0 a' w' hv' ok'⟩
theorem aops_mid {ops:Array Oper} {l:List Oper} (n:Nat) (mid:ASt) (h1:AOps P ops (l.take n) s (fun e s'=>match e with|.normal=>Weak s' mid|_=>False)) (h2:AOps P ops (l.drop n) mid Q):AOps P ops l s Q:=by
 have h:=aops_app (l.take n) (l2:=l.drop n) h1 (fun e s' h=>by
  cases e with
  | normal=>exact ⟨rfl,aops_weak h h2⟩
  | _=>exact h.elim)
 rwa [List.take_append_drop] at h
theorem aops_cut {ε:Type} {ops:Array Oper} {l:List Oper} (n:Nat) (out:ε→ASt) (I:ε→Prop) (cont:∀x,I x→AOps P ops (l.drop n) (out x) Q) (h1:AOps P ops (l.take n) s (fun e s'=>match e with|.normal=>∃x,I x∧Weak s' (out x)|_=>False)):AOps P ops l s Q:=by
 have h:=aops_app (l.take n) (l2:=l.drop n) h1 (fun e s' h=>by
  cases e with
  | normal=>obtain ⟨x,h3,h4⟩:=h;exact ⟨rfl,aops_weak h4 (cont x h3)⟩
  | _=>exact h.elim)
 rwa [List.take_append_drop] at h
abbrev JQ {ε:Type} (out:ε→ASt) (I:ε→Prop) (Q:Exit→ASt→Prop):Exit→ASt→Prop:=fun e s=>match e with
 | .normal=>∃x,I x∧Weak s (out x)
 | e=>Q e s
theorem aw_cut {ε:Type} {p q:Code} (out:ε→ASt) (I:ε→Prop) (cont:∀x,I x→AW P q (out x) Q) (h1:AW P p s (JQ out I Q)):AW P (.seq p q) s Q :=
 aw_seq (aw_mono h1 fun e s' h=>by
  cases e with
  | normal=>obtain ⟨x,h2,h3⟩:=h;exact aw_weak h3 (cont x h2)
  | _=>exact h)
abbrev XQ {ε:Type} (id:Nat) (out:ε→ASt) (I:ε→Prop) (Q:Exit→ASt→Prop):Exit→ASt→Prop:=fun e s=>match e with
 | .exit j=>bif Nat.beq j id then ∃x,I x∧Weak s (out x) else Q (.exit j) s
 | e=>Q e s
theorem aw_loop_x {ι ε:Type} {code:Code} (inv:ι→ASt) (μ:ι→Nat) (i0:ι) (h0:Weak s (inv i0)) (id:Nat) (out:ε→ASt) (I:ε→Prop) (hQ:∀s s',Weak s s'→Q (.exit id) s'→Q (.exit id) s)
  (cont:∀x,I x→Q (.exit id) (out x)) (round:∀i,AW P code (inv i) (Again inv μ i (XQ id out I Q))):AW P (.loop code) s Q :=
 aw_loop inv μ i0 h0 fun i=>aw_mono (round i) fun e s' h=>by
  cases e with
  | exit j =>
   have h':(bif Nat.beq j id then ∃x,I x∧Weak s' (out x) else Q (.exit j) s'):=h
   show Q (.exit j) s'
   cases hb:Nat.beq j id with
   | false=>rw [hb] at h';exact h'
   | true =>
    have hj:=Nat.eq_of_beq_eq_true hb
    subst hj
    rw [hb] at h'
    obtain ⟨x,h1,h2⟩:=h'
    exact hQ _ _ h2 (cont x h1)
  | normal=>exact h
  | _=>exact h
end
end Abs
end Go.Proofs.YtclffekkjfhpdaaGreat

