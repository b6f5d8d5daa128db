import Derived.Handy
import Derived.BigQuiet
import Derived.Deep.QuietTactic
import Derived.Deep.Slices
import Derived.Deep.Fields
import Derived.Deep.AppendLies
import Derived.Lib.Hide
import Derived.WalkLawsBesides
import Derived.WalkSpells
import Derived.ProofKit
import Derived.ChangeOld
import Derived.Deep.RegionHeld3
import Derived.Deep.DrawnRows
import Derived.Orders
import Derived.Laws.MakeOwn
import Derived.Laws.BytesArg
import Derived.Lib.AppendStr
import Derived.Laws.StructEq
import Derived.MapKept
import Derived.RangeFuncRecord
set_option linter.unusedVariables false
set_option linter.unusedSimpArgs false
namespace Go.Proofs.YtbijabmjbgplbaaGreatDoor
namespace Md
def ifp {α:Type} (p:Prop) [Decidable p] (m:Option α):Option α:=if p then m else none
def onS {α β γ:Type} (o:Sum α β) (f:α->Option γ) (g:β->Option γ):Option γ :=
 match o with
 | .inl x=>f x
 | .inr x=>g x
section
variable {α β γ:Type}
theorem Xb {p:Prop} [Decidable p] {m:Option α} {r:α} (h:ifp p m=some r):p/\m=some r:=by
 unfold ifp at h;split at h
 .exact ⟨by assumption,h⟩
 .cases h
theorem zy {p:Prop} [Decidable p] {m:Option α} (h:p):ifp p m=m:=if_pos h
theorem JD {o:Option α} {f:α->Option β} {r:β} (h:o.bind f=some r):∃x,o=some x/\f x=some r:=by
 cases o with
 | none=>cases h
 | some x=>exact ⟨x,rfl,h⟩
theorem znr {o:Option α} {f:α->Option β} {x:α} (h:o=some x):o.bind f=f x:=by rw [h];rfl
end
def W (n:Int):Int:=let m:=n%18446744073709551616;if m>=9223372036854775808 then m - 18446744073709551616 else m
theorem W_id {n:Int} (h:-9223372036854775808<=n) (h':n<=9223372036854775807):W n=n:=by
 unfold W;simp only;split<;>omega
def I64 (n:Int):Prop:=-9223372036854775808<=n/\n<=9223372036854775807
def QU (a:UInt64) (n:Nat):UInt64:=.ofNat (a.toNat*2^min n 64)
def Kq (a:UInt64) (n:Nat):UInt64:=.ofNat (a.toNat/2^min n 64)
def ishl (a:Int) (n:Nat):Int:=W (a*2^min n 64)
def ishr (a:Int) (n:Nat):Int:=a.fdiv (2^min n 64)
def iand (a b:Int):Int:=W (BitVec.ofInt 64 a &&& BitVec.ofInt 64 b).toNat
def ior (a b:Int):Int:=W (BitVec.ofInt 64 a ||| BitVec.ofInt 64 b).toNat
def ixor (a b:Int):Int:=W (BitVec.ofInt 64 a ^^^ BitVec.ofInt 64 b).toNat
theorem idx_eq {i n:Int} (h:0<=i/\i<n):i=((i.toNat:Nat):Int):=by omega
theorem znM {i:Int} {n:Nat} (h:0<=i/\i<(n:Int)):i.toNat<n:=by omega
theorem nn (n:Nat):0<=(n:Int):=by omega
def rounds {X Y:Type} (body:(X->Option Y)->X->Option Y) (n:Nat):X->Option Y:=Nat.rec (fun _=>none) (fun _ F x=>body F x) n
theorem rounds_succ {X Y:Type} (body:(X->Option Y)->X->Option Y) (n:Nat) (x:X):rounds body (n+1) x=body (rounds body n) x:=rfl
def mget {α β:Type} [DecidableEq α]:List (α×β)->α->Option β
 | [],_=>none
 | p::r,k=>if k=p.1 then some p.2 else mget r k
def mput {α β:Type} [DecidableEq α]:List (α×β)->α->β->List (α×β)
 | [],k,v=>[(k,v)]
 | p::r,k,v=>if k=p.1 then (p.1,v)::r else p::mput r k v
end Md
end Go.Proofs.YtbijabmjbgplbaaGreatDoor
namespace Go.Proofs.YtbijabmjbgplbaaGreatDoor
open Go.ChangeShapes Go.WideShapes Go.RowKit
namespace Kit
theorem ziq {W w1:World} (hb:Below W.heap.size W w1) {p:Addr} {v:Value} (h:W.cell? p=some v):w1.cell? p=some v :=
 (hb.cell (World.block_lt_of_cell? W p h)).trans h
def Kept (B:Nat) (w w':World):Prop:=∀p:Addr,p.block<B->w'.cell? p=w.cell? p
theorem Kept.refl (B:Nat) (w:World):Kept B w w:=fun _ _=>rfl
theorem Kept.trans {B:Nat} {a b c:World} (h:Kept B a b) (k:Kept B b c):Kept B a c:=fun p hp=>(k p hp).trans (h p hp)
theorem Kept.mono {B B':Nat} {a b:World} (h:Kept B a b) (hB:B'<=B):Kept B' a b:=fun p hp=>h p (Nat.lt_of_lt_of_le hp hB)
theorem zcZ {B:Nat} {a b:World} (h:Below B a b):Kept B a b:=fun _ hp=>h.cell hp
def Flat (w:World) (B:Nat) (A:Option Addr) (cells:List Value):Prop :=
 cells≠[]->∃b off,A=some ⟨b,off,none⟩/\b<B/\∀j u,cells[j]?=some u->w.cell? ⟨b,off+j,none⟩=some u
theorem Flat.nil (w:World) (B:Nat) (A:Option Addr):Flat w B A []:=fun h=>absurd rfl h
theorem Flat.keep {w w':World} {B:Nat} {A:Option Addr} {cells:List Value} (h:Flat w B A cells) (hk:Kept B w w'):Flat w' B A cells:=fun hn=>by
 obtain ⟨b,off,e,hb,hc⟩:=h hn;exact ⟨b,off,e,hb,fun j u hu=>(hk ⟨b,off+j,none⟩ hb).trans (hc j u hu)⟩
theorem Flat.more {w:World} {B B':Nat} {A:Option Addr} {cells:List Value} (h:Flat w B A cells) (hB:B<=B'):Flat w B' A cells:=fun hn=>by
 obtain ⟨b,off,e,hb,hc⟩:=h hn;exact ⟨b,off,e,by omega,hc⟩
theorem Flat.below {w w':World} {B:Nat} {A:Option Addr} {cells:List Value} (h:Flat w B A cells) (hb:Below B w w'):Flat w' B A cells:=h.keep (zcZ hb)
theorem Flat.at_ {w:World} {B:Nat} {A:Option Addr} {cells:List Value} (h:Flat w B A cells) (hn:0<cells.length) :
  ∃b off,A=some ⟨b,off,none⟩/\b<B/\∀j u,cells[j]?=some u->w.cell? ⟨b,off+j,none⟩=some u :=
 h (by intro e;rw [e] at hn;simp at hn)
theorem Flat.drop {w:World} {B:Nat} {b off:Nat} {cells:List Value} (h:Flat w B (some ⟨b,off,none⟩) cells) (k:Nat):Flat w B (some ⟨b,off+k,none⟩) (cells.drop k):=fun hn=>by
 have hl:k<cells.length:=by
  rcases Nat.lt_or_ge k cells.length with hl|hl
  .exact hl
  .exact absurd (List.drop_eq_nil_of_le hl) hn
 obtain ⟨b',off',e,hb,hc⟩:=h.at_ (by omega);injection e with e;injection e with e1 e2;subst e1;subst e2
 exact ⟨b,off+k,rfl,hb,fun j u hu=>by rw [Nat.add_assoc];exact hc _ _ (by simpa [List.getElem?_drop] using hu)⟩
theorem Flat.take {w:World} {B:Nat} {A:Option Addr} {cells:List Value} (h:Flat w B A cells) (k:Nat):Flat w B A (cells.take k):=fun hn=>by
 obtain ⟨b,off,e,hb,hc⟩:=h (fun e=>hn (by rw [e];simp));exact ⟨b,off,e,hb,fun j u hu=>hc j u (by rw [List.getElem?_take] at hu;split at hu<;>simp_all)⟩
theorem Flat.ziJ {w:World} {base size n:Nat} {e:TypeId} {A:Option Addr} {c:Nat} {xs:List Value} (h:w.ownsRow base e size (.slice A n c) n xs):Flat w w.heap.size A xs:=fun hn=>by
 rcases h.2 with ⟨hv,h0⟩|⟨g,cap,cur,hv,_,hg,_⟩
 .have:xs=[]:=List.eq_nil_of_length_eq_zero (by rw [h.1,h0,Nat.zero_mul])
  exact absurd this hn
 .injection hv with hA
  subst hA;refine ⟨g,0,rfl,(Array.getElem?_eq_some_iff.1 hg).1,fun j u hu=>?_⟩;have hc:=h.cells (g:=g) rfl j u hu;have hadd:(⟨g,0,none⟩:Addr).add j=⟨g,0+j,none⟩:=by unfold Addr.add;split<;>simp_all
  rwa [hadd] at hc
abbrev Rel (α:Type):=World->Nat->α->List Value->Prop
class Rel.Ok {α:Type} (r:Rel α):Prop where
 keep:∀{w w':World} {B:Nat} {a:α} {cs:List Value},r w B a cs->Kept B w w'->r w' B a cs
 more:∀{w:World} {B B':Nat} {a:α} {cs:List Value},r w B a cs->B<=B'->r w B' a cs
def rInt (k:IntKind):Rel Int:=fun _ _ n cs=>cs=[.int k n]/\(Lit.int k n).wf=true
def zoP:Rel UInt8:=fun _ _ b cs=>cs=[.int .u8 (b.toNat:Int)]
def zoO:Rel Bool:=fun _ _ b cs=>cs=[.bool b]
def rStr:Rel ByteArray:=fun _ _ s cs=>cs=[.string s]/\s.size<=maxLen
instance (k:IntKind):Rel.Ok (rInt k):=⟨fun h _=>h,fun h _=>h⟩
instance:Rel.Ok zoP:=⟨fun h _=>h,fun h _=>h⟩
instance:Rel.Ok zoO:=⟨fun h _=>h,fun h _=>h⟩
instance:Rel.Ok rStr:=⟨fun h _=>h,fun h _=>h⟩
def Chunks {α:Type} (size:Nat) (r:Rel α) (w:World) (B:Nat):List α->List Value->Prop
 | [],cells=>cells=[]
 | x::xs,cells=>∃vs rest,cells=vs++rest/\vs.length=size/\r w B x vs/\Chunks size r w B xs rest
section
variable {α:Type} {size:Nat} {r:Rel α} {w w':World} {B B':Nat}
theorem Chunks.keep [Rel.Ok r]:∀{xs:List α} {cells:List Value},Chunks size r w B xs cells->Kept B w w'->Chunks size r w' B xs cells
 | [],_,h,_=>h
 | _::_,_,⟨vs,rest,e,hl,hr,h⟩,hk=>⟨vs,rest,e,hl,Rel.Ok.keep hr hk,Chunks.keep h hk⟩
theorem Chunks.more [Rel.Ok r]:∀{xs:List α} {cells:List Value},Chunks size r w B xs cells->B<=B'->Chunks size r w B' xs cells
 | [],_,h,_=>h
 | _::_,_,⟨vs,rest,e,hl,hr,h⟩,hk=>⟨vs,rest,e,hl,Rel.Ok.more hr hk,Chunks.more h hk⟩
theorem Chunks.length:∀{xs:List α} {cells:List Value},Chunks size r w B xs cells->cells.length=xs.length*size
 | [],_,h=>by cases h;simp
 | _::xs,_,⟨vs,rest,e,hl,_,h⟩=>by
  have:=Chunks.length h;rw [e,List.length_append,hl,this,List.length_cons,Nat.add_mul,Nat.one_mul,Nat.add_comm]
theorem Chunks.append:∀{xs ys:List α} {cells more:List Value},Chunks size r w B xs cells->Chunks size r w B ys more->Chunks size r w B (xs++ys) (cells++more)
 | [],_,_,_,h,k=>by cases h;exact k
 | _::_,_,_,_,⟨vs,rest,e,hl,hr,h⟩,k=>⟨vs,_,by rw [e,List.append_assoc],hl,hr,Chunks.append h k⟩
theorem Chunks.one {x:α} {vs:List Value} (hl:vs.length=size) (hr:r w B x vs):Chunks size r w B [x] vs:=⟨vs,[],by simp,hl,hr,rfl⟩
theorem Chunks.snoc {xs:List α} {x:α} {cells vs:List Value} (h:Chunks size r w B xs cells) (hl:vs.length=size) (hr:r w B x vs):Chunks size r w B (xs++[x]) (cells++vs) :=
 h.append (.one hl hr)
theorem Chunks.get:∀{xs:List α} {cells:List Value},Chunks size r w B xs cells->∀(k:Nat) (x:α),xs[k]?=some x->∃vs,vs.length=size/\r w B x vs/\∀j,j<size->cells[k*size+j]?=vs[j]?
 | [],_,_,k,x,hx=>by simp at hx
 | y::ys,_,⟨vs,rest,e,hl,hr,h⟩,0,x,hx=>by
  simp at hx;subst hx;exact ⟨vs,hl,hr,fun j hj=>by rw [e,List.getElem?_append_left (by omega)];simp⟩
 | y::ys,_,⟨vs,rest,e,hl,hr,h⟩,k+1,x,hx=>by
  obtain ⟨us,h1,h2,h3⟩:=Chunks.get h k x (by simpa using hx);refine ⟨us,h1,h2,fun j hj=>?_⟩;rw [e,List.getElem?_append_right (by rw [Nat.add_mul];omega),<-h3 j hj]
  congr 1
  rw [hl,Nat.add_mul];omega
theorem Chunks.drop:∀{xs:List α} {cells:List Value} (k:Nat),Chunks size r w B xs cells->Chunks size r w B (xs.drop k) (cells.drop (k*size))
 | xs,cells,0,h=>by simpa using h
 | [],_,k+1,h=>by cases h;simp [Chunks]
 | _::xs,_,k+1,⟨vs,rest,e,hl,hr,h⟩=>by
  have:=Chunks.drop k h;rw [e,List.drop_succ_cons,show (k+1)*size=vs.length+k*size by rw [hl,Nat.add_mul];omega,List.drop_append,show vs.drop (vs.length+k*size)=[] from List.drop_eq_nil_of_le (by omega),show vs.length+k*size - vs.length=k*size by omega];exact this
theorem Chunks.take:∀{xs:List α} {cells:List Value} (k:Nat),Chunks size r w B xs cells->Chunks size r w B (xs.take k) (cells.take (k*size))
 | xs,cells,0,h=>by simp [Chunks]
 | [],_,k+1,h=>by cases h;simp [Chunks]
 | _::xs,_,k+1,⟨vs,rest,e,hl,hr,h⟩=>by
  have:=Chunks.take k h;rw [e,List.take_succ_cons,show (k+1)*size=vs.length+k*size by rw [hl,Nat.add_mul];omega,List.take_append,show vs.take (vs.length+k*size)=vs from List.take_of_length_le (by omega),show vs.length+k*size - vs.length=k*size by omega];exact ⟨vs,rest.take (k*size),rfl,hl,hr,this⟩
end
theorem Chunks.pure {α:Type} {size:Nat} {r:Rel α} {w:World} {B:Nat} (f:α->List Value) (hf:∀x vs,r w B x vs->vs=f x) :
  ∀{xs:List α} {cells:List Value},Chunks size r w B xs cells->cells=xs.flatMap f
 | [],_,h=>by cases h;rfl
 | x::xs,_,⟨vs,rest,e,_,hr,h⟩=>by rw [e,List.flatMap_cons,<-hf x vs hr,<-Chunks.pure f hf h]
def zea {α:Type} (size:Nat) (r:Rel α):Rel (List α):=fun w B xs cs =>
 ∃A c cells,cs=[.slice A xs.length c]/\xs.length<=c/\c<=maxLen/\Flat w B A cells/\Chunks size r w B xs cells
theorem zea.flat {α:Type} {size:Nat} {r:Rel α} {w:World} {B:Nat} {xs:List α} {A:Option Addr} {n c:Nat} (f:α->List Value) (hf:∀x vs,r w B x vs->vs=f x) (h:zea size r w B xs [.slice A n c]) :
  n=xs.length/\n<=c/\c<=maxLen/\Flat w B A (xs.flatMap f):=by
 obtain ⟨A',c',cells,e,h1,h2,h3,h4⟩:=h;simp only [List.cons.injEq,Value.slice.injEq,and_true] at e;obtain ⟨rfl,rfl,rfl⟩:=e;exact ⟨rfl,h1,h2,by rw [<-Chunks.pure f hf h4];exact h3⟩
theorem Chunks.all {α:Type} {size:Nat} {r:Rel α} {w:World} {B:Nat} {p:α->Prop} (hp:∀x vs,r w B x vs->p x):∀{xs:List α} {cells:List Value},Chunks size r w B xs cells->∀x∈xs,p x
 | [],_,_,x,hx=>by cases hx
 | y::ys,_,⟨vs,rest,_,_,hr,h⟩,x,hx=>by
  rcases List.mem_cons.1 hx with rfl|hx
  .exact hp _ _ hr
  .exact Chunks.all hp h x hx
theorem zea.all {α:Type} {size:Nat} {r:Rel α} {w:World} {B:Nat} {xs:List α} {cs:List Value} {p:α->Prop} (hp:∀x vs,r w B x vs->p x) (h:zea size r w B xs cs):∀x∈xs,p x:=by
 obtain ⟨_,_,_,_,_,_,_,h4⟩:=h;exact h4.all hp
instance {α:Type} {size:Nat} {r:Rel α} [Rel.Ok r]:Rel.Ok (zea size r) :=
 ⟨fun ⟨A,c,cells,e,h1,h2,hf,hc⟩ hk=>⟨A,c,cells,e,h1,h2,hf.keep hk,hc.keep hk⟩,fun ⟨A,c,cells,e,h1,h2,hf,hc⟩ hB=>⟨A,c,cells,e,h1,h2,hf.more hB,hc.more hB⟩⟩
def Opens {α:Type} (P:Program) (t:TypeId) (size:Nat) (r:Rel α):Prop :=
 P.cellsOf t=size/\∀(H:Type) (enc:TypeId×Value->H) (w:World) (base:Nat) (spare:Nat->Bool) (held:Bool) (fuel:Nat) (cs:List Value) (x:DataW H×List MemPlace),
  DataW.trod enc P w base spare held fuel t cs=some x->∃a,r w w.heap.size a cs
theorem open_arg {α:Type} {P:Program} {t:TypeId} {size:Nat} {r:Rel α} (ho:Opens P t size r) {H:Type} {enc:TypeId×Value->H} {w:World} {base:Nat} {spare:Nat->Bool} {held:Bool} {v:Value} {d:DataW H} {ps:List MemPlace}
  (h:DataW.Trod enc P w base spare held t v d ps):∃a,r w w.heap.size a v.cells.toList:=by
 obtain ⟨fuel,hf⟩:=h;exact ho.2 _ _ _ _ _ _ _ _ _ hf
end Kit
end Go.Proofs.YtbijabmjbgplbaaGreatDoor
namespace Go.Proofs.YtbijabmjbgplbaaGreatDoor
open Go.ChangeShapes Go.WideShapes Go.RowKit
namespace Kit
structure Elem (P:Program) (t e:TypeId) (size bytes:Nat):Prop where
 slice:P.underlying t=some (.slice e)
 info:∃i z,P.info? e=some i/\i.zero=some z/\i.size=size/\i.bytes=bytes/\z.cells.size=size
 pos:0<size
section
variable {P:Program} {t e:TypeId} {size bytes:Nat}
theorem ze_ (E:Elem P t e size bytes) (w:World) (ty:TypeId) (base:Nat) (v:Value) (n:Nat) (xs:List Value) (hown:w.ownsRow base e size v n xs) (A:Option Addr) (m c B:Nat) (news:List Value)
  (hf:Flat w B A news) (hl:news.length=m*size) (h1:∀u∈news,u.oneCell'=true) (h63:n+m<=maxLen) (hbytes:(n+m)*bytes<=140737488355328) (hbase:base<=w.heap.size) :
  ∃v' w',(Builtin.append_ #[t,t] ty #[v,.slice A m c]).run P w=.ok v' w'/\w'.ownsRow base e size v' (n+m) (xs++news)/\w.grownBy w' v.ownBlock/\(v'.ownBlock=v.ownBlock\/v'.ownBlock=some w.heap.size):=by
 obtain ⟨i,z,hi,hz,hsize,hby,hzs⟩:=E.info;cases A with
 | none =>
  have hn:news=[]:=by
   rcases news with _|⟨x,r⟩
   .rfl
   .obtain ⟨b,off,e,_⟩:=hf (by simp)
    cases e
  subst hn;obtain rfl:m=0:=by
   have:=E.pos;rcases Nat.eq_zero_or_pos m with h|h
   .exact h
   .have:0<m*size:=Nat.mul_pos h this
    simp at hl;omega
  refine ⟨v,w,?_,by simpa using hown,⟨rfl,rfl,rfl,Nat.le_refl _,fun _ _ _=>rfl⟩,.inl rfl⟩;rcases hown.2 with ⟨rfl,rfl⟩|⟨g,cap,cur,rfl,_,_,hnc,_⟩
  .simp [Builtin.append_,run_underlying E.slice,sizeOf,typeInfo,hi,Builtin.lenOf,Builtin.firstCells]
  .simp [Builtin.append_,run_underlying E.slice,sizeOf,typeInfo,hi,Builtin.lenOf,Builtin.firstCells,hnc,storeCells]
 | some a =>
  have hnews:∀j u,news[j]?=some u->w.cell? (a.add j)=some u:=fun j u hu=>by
   obtain ⟨b,off,e,_,hc⟩:=hf (by intro e;rw [e] at hu;simp at hu);injection e with e
   subst e;have hadd:(⟨b,off,none⟩:Addr).add j=⟨b,off+j,none⟩:=by unfold Addr.add;split<;>simp_all
   rw [hadd];exact hc j u hu
  obtain ⟨v',w',hr,h2,h3,_,h5⟩:=run_append_own_at (P:=P) w base t ty e i z size bytes E.slice hi hz hsize hby hzs E.pos v n xs hown a m c news hl hnews h1 h63 hbytes hbase;exact ⟨v',w',hr,h2,h3,h5⟩
theorem za5 (E:Elem P t e size bytes) (w:World) (ty:TypeId) (base:Nat) (A0:Option Addr) (n B0:Nat) (xs:List Value) (hf0:Flat w B0 A0 xs) (hl0:xs.length=n*size) (A:Option Addr) (m c B:Nat) (news:List Value)
  (hf:Flat w B A news) (hl:news.length=m*size) (hm:0<m) (h63:n+m<=maxLen) (hbytes:(n+m)*bytes<=140737488355328) (hbase:base<=w.heap.size) (hA0:A0.isSome=true) :
  ∃v' w',(Builtin.append_ #[t,t] ty #[.slice A0 n n,.slice A m c]).run P w=.ok v' w'/\w'.ownsRow base e size v' (n+m) (xs++news)/\w.grownBy w' none:=by
 obtain ⟨i,z,hi,hz,hsize,hby,hzs⟩:=E.info;subst hsize;subst hby;have cells:∀{A:Option Addr} {B:Nat} {xs:List Value} {a:Addr},Flat w B A xs->A=some a->∀j u,xs[j]?=some u->w.cell? (a.add j)=some u:=by
  intro A B xs a hf hA j u hu;obtain ⟨b,off,e,_,hc⟩:=hf (by intro e;rw [e] at hu;simp at hu);rw [hA] at e;injection e with e
  subst e;have hadd:(⟨b,off,none⟩:Addr).add j=⟨b,off+j,none⟩:=by unfold Addr.add;split<;>simp_all
  rw [hadd];exact hc j u hu
 obtain ⟨a0,rfl⟩:=Option.isSome_iff_exists.1 hA0;have hnn:news≠[]:=by
  intro h;rw [h] at hl;have:=Nat.mul_pos hm E.pos;simp at hl;omega
 obtain ⟨b,off,rfl,_,_⟩:=hf hnn;have hlen:(xs++news).length=(n+m)*i.size:=by rw [List.length_append,hl0,hl,Nat.add_mul]
 have hr:=run_append_grow (P:=P) w t ty e i z E.slice hi hz a0 n n xs hl0 (cells hf0 rfl) ⟨b,off,none⟩ m c news hl (cells hf rfl) (by omega) (by unfold maxLen at h63;omega) (growslice_fits (by omega) hbytes);have hge:=grownCap_ge w (n+m) n e;have hcm:grownCap w (n+m) n e<=maxLen:=grownCap_le_maxLen w (n+m) n e h63;refine ⟨_,_,hr,⟨hlen,.inr ⟨w.heap.size,_,_,rfl,hbase,heap_alloc_new w.drew _,hge,hcm,?_,?_⟩⟩,⟨rfl,rfl,rfl,by simp,fun k hk _=>Below.heap_alloc w.drew _ k hk⟩⟩
 .simp only [Array.size_append,List.size_toArray,size_zeroCells,hzs,hl0,hl,<-Nat.add_mul]
  congr 1
  omega
 .simp only [Array.toList_append,List.append_assoc]
  rw [<-List.append_assoc,<-hlen];exact List.take_left
theorem zee (E:Elem P t e size bytes) (w:World) (ty:TypeId) (A0:Option Addr) (n c0:Nat) (hn:n<=c0) (A:Option Addr) (c:Nat) :
  (Builtin.append_ #[t,t] ty #[.slice A0 n c0,.slice A 0 c]).run P w=.ok (.slice A0 n c0) w:=by
 obtain ⟨i,z,hi,hz,hsize,hby,hzs⟩:=E.info;cases A0<;>cases A<;>simp [Builtin.append_,run_underlying E.slice,sizeOf,typeInfo,hi,Builtin.lenOf,Builtin.firstCells,hn,storeCells,loadCells,loadCellsFrom]
end
theorem Qq {w:World} {base:Nat} {e:TypeId} {size n:Nat} {v:Value} {xs:List Value} (h:w.ownsRow base e size v n xs):∃A c,v=.slice A n c/\n<=c/\c<=maxLen/\Flat w w.heap.size A xs:=by
 rcases h.2 with ⟨rfl,rfl⟩|⟨g,cap,cur,rfl,hbg,hg,h1,h2,_⟩
 .exact ⟨none,0,rfl,Nat.le_refl _,by unfold maxLen;decide,Flat.ziJ h⟩
 .exact ⟨_,cap,rfl,h1,h2,Flat.ziJ h⟩
end Kit
end Go.Proofs.YtbijabmjbgplbaaGreatDoor
namespace Go.Proofs.YtbijabmjbgplbaaGreatDoor
open Go.ChangeShapes Go.WideShapes Go.RowKit
namespace G
inductive FV where
 | val (v:Value)
 | slc (n:Nat) (el:Nat->List FV)
 | full (n:Nat) (el:Nat->List FV)
 | cptr (cells:List FV)
 | mp (kv:List (Value×Value))
 | err (b:Bool)
 deriving Inhabited
abbrev Sv (l:List UInt8):Value:=.string ⟨l.toArray⟩
def lsEl {α:Type} [Inhabited α] (f:α->List FV) (l:List α):Nat->List FV:=fun i=>f (l.getD i default)
abbrev FV.ls {α:Type} [Inhabited α] (f:α->List FV) (l:List α):FV:=.slc l.length (lsEl f l)
inductive RepF (R:Nat->Prop) (w:World):FV->Value->Prop
 | val (v:Value) (h:v.oneCell'=true):RepF R w (.val v) v
 | nil (el:Nat->List FV):RepF R w (.slc 0 el) (.slice none 0 0)
 | emp (el:Nat->List FV) (a:Addr) (cap:Nat) (hm:cap<=maxLen):RepF R w (.slc 0 el) (.slice (some a) 0 cap)
 | slc (n:Nat) (el:Nat->List FV) (size b off cap:Nat) (vals:Nat->Nat->Value) (hR:R b) (hb:b<w.heap.size) (hc:n<=cap) (hm:cap<=maxLen) (hs:∀i,i<n->(el i).length=size)
   (hcell:∀i j c,i<n->(el i)[j]?=some c->w.cell? ⟨b,off+(i*size+j),none⟩=some (vals i j))
   (hrep:∀i j c,i<n->(el i)[j]?=some c->RepF R w c (vals i j)):RepF R w (.slc n el) (.slice (some ⟨b,off,none⟩) n cap)
 | full (n:Nat) (el:Nat->List FV) (Ad:Option Addr) (h:RepF R w (.slc n el) (.slice Ad n n)):RepF R w (.full n el) (.slice Ad n n)
 | cptr (cells:List FV) (b off:Nat) (vals:Nat->Value) (hR:R b) (hb:b<w.heap.size)
   (hcell:∀j c,cells[j]?=some c->w.cell? ⟨b,off+j,none⟩=some (vals j))
   (hrep:∀j c,cells[j]?=some c->RepF R w c (vals j)):RepF R w (.cptr cells) (.pointer (some ⟨b,off,none⟩))
 | mpn:RepF R w (.mp []) (.map none)
 | mp (kv:List (Value×Value)) (b clock:Nat) (es:List MapEntry) (hR:R b) (hb:w.heap[b]?=some (.map es.toArray clock)) (he:es.map (fun e=>(e.key,e.val))=kv):RepF R w (.mp kv) (.map (some b))
 | errn:RepF R w (.err false) .nilIface
 | err (t:TypeId) (p:Value):RepF R w (.err true) (.iface t p)
structure Fr (T:Nat->Prop) (w w':World):Prop where
 os:w'.os=w.os
 tape:w'.tape=w.tape
 output:w'.output=w.output
 size:w.heap.size<=w'.heap.size
 block:∀b,b<w.heap.size->¬T b->w'.heap[b]?=w.heap[b]?
theorem Fr.refl (T:Nat->Prop) (w:World):Fr T w w:=⟨rfl,rfl,rfl,Nat.le_refl _,fun _ _ _=>rfl⟩
theorem Fr.trans {T T':Nat->Prop} {a b c:World} (h:Fr T a b) (k:Fr T' b c) (hT:∀x,x<a.heap.size->T' x->T x):Fr T a c :=
 ⟨k.os.trans h.os,k.tape.trans h.tape,k.output.trans h.output,Nat.le_trans h.size k.size,fun x hx hn=>(k.block x (Nat.lt_of_lt_of_le hx h.size) (fun e=>hn (hT x hx e))).trans (h.block x hx hn)⟩
theorem Fr.mono {T T':Nat->Prop} {a b:World} (h:Fr T a b) (hT:∀x,x<a.heap.size->T x->T' x):Fr T' a b:=⟨h.os,h.tape,h.output,h.size,fun x hx hn=>h.block x hx (fun e=>hn (hT x hx e))⟩
theorem Fr.of_below {w w':World} (h:Below w.heap.size w w'):Fr (fun _=>False) w w':=⟨h.os,h.tape,h.output,h.size,fun b hb _=>h.block b hb⟩
theorem Fr.below {w w':World} (h:Fr (fun _=>False) w w'):Below w.heap.size w w':=⟨h.os,h.tape,h.output,h.size,fun b hb=>h.block b hb (fun e=>e)⟩
theorem Fr.drew (T:Nat->Prop) (w:World):Fr T w w.drew:=⟨rfl,rfl,rfl,Nat.le_refl _,fun _ _ _=>rfl⟩
theorem Fr.alloc (T:Nat->Prop) (w:World) (o:Obj):Fr T w (w.alloc o):=⟨rfl,rfl,rfl,by simp,fun b hb _=>Below.heap_alloc w o b hb⟩
theorem Fr.putObj {T:Nat->Prop} (w:World) (b:Nat) (o:Obj) (hb:T b):Fr T w (w.putObj b o):=⟨rfl,rfl,rfl,by simp,fun g _ hn=>World.putObj_heap_other fun e=>hn (e▸hb)⟩
theorem Fr.grown {T:Nat->Prop} {w w':World} {row:Option Nat} (h:w.grownBy w' row) (hr:∀k,row=some k->T k):Fr T w w' :=
 ⟨h.os,h.tape,h.output,h.size,fun b hb hn=>h.block b hb (fun e=>hn (hr b e.symm))⟩
theorem cell_of {w w':World} {p:Addr} {v:Value} (h:w'.heap[p.block]?=w.heap[p.block]?) (hc:w.cell? p=some v):w'.cell? p=some v :=
 (World.cell?_of_block (w:=w) h).trans hc
theorem RepF.keep {R R':Nat->Prop} {w w':World} {c:FV} {v:Value} (h:RepF R w c v) (hw:∀b,R b->b<w.heap.size->w'.heap[b]?=w.heap[b]?) (hs:w.heap.size<=w'.heap.size) (hR:∀b,R b->R' b):RepF R' w' c v:=by
 induction h with
 | val v h=>exact .val v h
 | nil el=>exact .nil el
 | emp el a cap hm=>exact .emp el a cap hm
 | slc n el size b off cap vals hRb hb hc hm hs' hcell hrep ih =>
  exact .slc n el size b off cap vals (hR b hRb) (Nat.lt_of_lt_of_le hb hs) hc hm hs' (fun i j c hi hj=>cell_of (hw b hRb hb) (hcell i j c hi hj)) ih
 | full n el Ad h ih=>exact .full n el Ad ih
 | cptr cells b off vals hRb hb hcell hrep ih=>exact .cptr cells b off vals (hR b hRb) (Nat.lt_of_lt_of_le hb hs) (fun j c hj=>cell_of (hw b hRb hb) (hcell j c hj)) ih
 | mpn=>exact .mpn
 | mp kv b clock es hRb hb he=>exact .mp kv b clock es (hR b hRb) ((hw b hRb (Array.getElem?_eq_some_iff.1 hb).1).trans hb) he
 | errn=>exact .errn
 | err t p=>exact .err t p
theorem RepF.one {R:Nat->Prop} {w:World} {c:FV} {v:Value} (h:RepF R w c v):v.oneCell'=true:=by
 cases h with
 | val v h=>exact h
 | _=>rfl
inductive All2 {α β:Type} (R:α->β->Prop):List α->List β->Prop
 | nil:All2 R [] []
 | cons {x:α} {y:β} {xs:List α} {ys:List β} (h:R x y) (t:All2 R xs ys):All2 R (x::xs) (y::ys)
section
variable {α β:Type} {R S:α->β->Prop}
theorem All2.length:∀{xs:List α} {ys:List β},All2 R xs ys->xs.length=ys.length
 | _,_,.nil=>rfl
 | _,_,.cons _ t=>by rw [List.length_cons,List.length_cons,All2.length t]
theorem All2.imp (h:∀x y,R x y->S x y):∀{xs:List α} {ys:List β},All2 R xs ys->All2 S xs ys
 | _,_,.nil=>.nil
 | _,_,.cons a t=>.cons (h _ _ a) (All2.imp h t)
theorem All2.get:∀{xs:List α} {ys:List β},All2 R xs ys->∀{j:Nat} {x:α},xs[j]?=some x->∃y,ys[j]?=some y/\R x y
 | _,_,.nil,j,x,h=>by simp at h
 | _,_,.cons a t,0,x,h=>by simp at h;subst h;exact ⟨_,rfl,a⟩
 | _,_,.cons a t,j+1,x,h=>by simp at h;simpa using All2.get t h
theorem All2.getR:∀{xs:List α} {ys:List β},All2 R xs ys->∀{j:Nat} {y:β},ys[j]?=some y->∃x,xs[j]?=some x/\R x y
 | _,_,.nil,j,x,h=>by simp at h
 | _,_,.cons a t,0,x,h=>by simp at h;subst h;exact ⟨_,rfl,a⟩
 | _,_,.cons a t,j+1,x,h=>by simp at h;simpa using All2.getR t h
theorem All2.drop:∀{xs:List α} {ys:List β},All2 R xs ys->∀k,All2 R (xs.drop k) (ys.drop k)
 | _,_,h,0=>by simpa using h
 | _,_,.nil,k+1=>by simpa using All2.nil
 | _,_,.cons _ t,k+1=>by simpa using All2.drop t k
theorem All2.take:∀{xs:List α} {ys:List β},All2 R xs ys->∀k,All2 R (xs.take k) (ys.take k)
 | _,_,h,0=>by simpa using All2.nil
 | _,_,.nil,k+1=>by simpa using All2.nil
 | _,_,.cons a t,k+1=>by simpa using All2.cons a (All2.take t k)
theorem All2.append:∀{xs:List α} {ys:List β},All2 R xs ys->∀{zs:List α} {us:List β},All2 R zs us->All2 R (xs++zs) (ys++us)
 | _,_,.nil,_,_,h=>h
 | _,_,.cons a t,_,_,h=>.cons a (All2.append t h)
theorem All2.of:∀{xs:List α} {ys:List β},xs.length=ys.length->(∀(j:Nat) (x:α) (y:β),xs[j]?=some x->ys[j]?=some y->R x y)->All2 R xs ys
 | [],[],_,_=>.nil
 | x::xs,y::ys,hl,h=>.cons (h 0 x y rfl rfl) (All2.of (by simpa using hl) fun j a b ha hb=>h (j+1) a b (by simpa using ha) (by simpa using hb))
end
inductive FLe:FV->FV->Prop
 | refl (c:FV):FLe c c
 | nil (el:Nat->List FV):FLe (.val (.slice none 0 0)) (.slc 0 el)
 | full (n:Nat) (el:Nat->List FV):FLe (.full n el) (.slc n el)
 | eq {c d:FV} (h:c=d):FLe c d
theorem FLe.rep {R:Nat->Prop} {w:World} {c c':FV} {v:Value} (h:FLe c c') (hr:RepF R w c v):RepF R w c' v:=by
 cases h with
 | refl=>exact hr
 | nil el=>cases hr;exact .nil el
 | full n el=>cases hr;assumption
 | eq h=>exact h▸hr
theorem RepF.QV {R:Nat->Prop} {w:World} {n:Nat} {el:Nat->List FV} {v:Value} (h:RepF R w (.slc n el) v) :
  (n=0/\∃(Ad:Option Addr) (cap:Nat),v=.slice Ad 0 cap/\cap<=maxLen/\(Ad=none->cap=0)) \/
  ∃(size b off cap:Nat) (vals:Nat->Nat->Value),v=.slice (some ⟨b,off,none⟩) n cap/\R b/\b<w.heap.size/\n<=cap/\cap<=maxLen/\(∀i,i<n->(el i).length=size) /\
   (∀i j c,i<n->(el i)[j]?=some c->w.cell? ⟨b,off+(i*size+j),none⟩=some (vals i j))/\∀i j c,i<n->(el i)[j]?=some c->RepF R w c (vals i j):=by
 cases h with
 | nil=>exact .inl ⟨rfl,none,0,rfl,by unfold maxLen;decide,fun _=>rfl⟩
 | emp _ a cap hm=>exact .inl ⟨rfl,some a,cap,rfl,hm,nofun⟩
 | slc _ _ size b off cap vals hR hb hc hm hs hcell hrep=>exact .inr ⟨size,b,off,cap,vals,rfl,hR,hb,hc,hm,hs,hcell,hrep⟩
theorem RepF.empty {R:Nat->Prop} {w:World} {el:Nat->List FV} {Ad:Option Addr} {cap:Nat} (hm:cap<=maxLen) (h:Ad=none->cap=0):RepF R w (.slc 0 el) (.slice Ad 0 cap):=by
 cases Ad with
 | none=>rw [h rfl];exact .nil el
 | some a=>exact .emp el a cap hm
end G
end Go.Proofs.YtbijabmjbgplbaaGreatDoor
namespace Go.Proofs.YtbijabmjbgplbaaGreatDoor
namespace Md
structure Value where
 Kind:Int
 N:Int
 S:List UInt8
 I:List Int
 L:List (List UInt8)
 deriving Inhabited,DecidableEq
structure Ref where
 wR:List UInt8
 Key:List UInt8
 deriving Inhabited,DecidableEq
structure vS where
 Target:Md.Ref
 Method:List UInt8
 Args:List Md.Value
 deriving Inhabited,DecidableEq
structure Effect where
 Kind:Int
 Name:List UInt8
 A:Int
 B:Int
 deriving Inhabited,DecidableEq
structure Machine where
 wR:Int
 Method:Int
 PC:Int
 zK:List Md.Value
 deriving Inhabited,DecidableEq
structure zi where
 Kind:Int
 Value:Md.Value
 Call:Md.vS
 Err:Int
 Machine:Md.Machine
 Fields:List Md.Value
 qw:List Md.Effect
 Fuel:Int
 deriving Inhabited,DecidableEq
structure Input where
 Fields:List Md.Value
 vY:Md.Value
 deriving Inhabited,DecidableEq
structure Token where
 Kind:Int
 Text:List UInt8
 Num:Int
 At:Int
 deriving Inhabited,DecidableEq
structure Node where
 Op:Int
 Name:List UInt8
 Value:Md.Value
 Kids:List Int
 deriving Inhabited,DecidableEq
structure Param where
 Name:List UInt8
 Kind:Int
 deriving Inhabited,DecidableEq
structure Method where
 Name:List UInt8
 Params:List Md.Param
 Result:Int
 Nodes:List Md.Node
 deriving Inhabited,DecidableEq
structure Field where
 Name:List UInt8
 Kind:Int
 Init:Md.Value
 deriving Inhabited,DecidableEq
structure zF where
 Name:List UInt8
 Fields:List Md.Field
 Methods:List Md.Method
 deriving Inhabited,DecidableEq
structure Program where
 Types:List Md.zF
 deriving Inhabited,DecidableEq
structure Place where
 wR:Int
 Method:Int
 Node:Int
 deriving Inhabited,DecidableEq
structure Instr where
 Op:Int
 A:Int
 B:Int
 Value:Md.Value
 deriving Inhabited,DecidableEq
structure zk where
 Name:List UInt8
 Params:List Int
 Result:Int
 zK:List Int
 Code:List Md.Instr
 deriving Inhabited,DecidableEq
structure zq where
 Name:List UInt8
 Fields:List Md.Field
 Methods:List Md.zk
 deriving Inhabited,DecidableEq
structure Code where
 Types:List Md.zq
 deriving Inhabited,DecidableEq
structure Vari where
 kind:Int
 slot:Int
 field:Bool
 deriving Inhabited,DecidableEq
structure Body where
 locals:List Md.Param
 kinds:List (Int×Int)
 variables:List (Int×Md.Vari)
 deriving Inhabited,DecidableEq
structure Info where
 program:Md.Program
 bodies:List (List Md.Body)
 deriving Inhabited,DecidableEq
structure Signature where
 params:List Int
 result:Int
 deriving Inhabited,DecidableEq
structure State where
 reached:Bool
 stack:List Int
 set:UInt64
 deriving Inhabited,DecidableEq
structure Eff where
 takes:List Int
 puts:List Int
 deriving Inhabited,DecidableEq
structure zL where
 info:Md.Info
 typ:Md.zF
 at_:Md.Place
 nodes:List Md.Node
 key:List UInt8
 inputs:List Md.Input
 next:Int
 deriving Inhabited,DecidableEq
structure zH where
 limit:Int
 rounds:Int
 deriving Inhabited,DecidableEq
structure zn where
 tokens:List Md.Token
 pos:Int
 end_:Int
 at_:Int
 err:Int
 nest:Int
 total:Int
 deriving Inhabited,DecidableEq
structure yA where
 program:Md.Program
 info:Md.Info
 typ:Int
 method:Int
 nodes:List Md.Node
 deriving Inhabited,DecidableEq
structure zX where
 program:Md.Program
 fields:List (List UInt8×Md.Vari)
 deriving Inhabited,DecidableEq
structure zW where
 nodes:List Md.Node
 result:Int
 deriving Inhabited,DecidableEq
structure zS where
 node:Int
 err:Int
 deriving Inhabited,DecidableEq
structure yj where
 code:Md.Code
 method:Md.zk
 jW:Int
 y9:Int
 pc:Int
 deriving Inhabited,DecidableEq
structure yK where
 key:List UInt8
 deriving Inhabited,DecidableEq
structure yE where
 Qj:Bool
 out:Md.zi
 deriving Inhabited,DecidableEq
end Md
namespace G
open Md
inductive SN where
 | Value
 | Ref
 | vS
 | Effect
 | Machine
 | zi
 | Input
 | Token
 | Node
 | Param
 | Method
 | Field
 | zF
 | Program
 | Place
 | Instr
 | zk
 | zq
 | Code
 | Vari
 | Body
 | Info
 | Signature
 | State
 | Eff
 | zL
 | zH
 | zn
 | yA
 | zX
 | zW
 | zS
 | yj
 | yK
 | yE
 deriving DecidableEq,Inhabited
inductive EC where
 | int
 | bool
 | u8
 | u16
 | u32
 | u64
 | str
 | err
 | st (s:SN)
 | sl (c:EC)
 | pt (c:EC)
 | mp (k v:EC)
 deriving DecidableEq,Inhabited
@[reducible] def stT:SN->Type
 | .Value=>Md.Value
 | .Ref=>Md.Ref
 | .vS=>Md.vS
 | .Effect=>Md.Effect
 | .Machine=>Md.Machine
 | .zi=>Md.zi
 | .Input=>Md.Input
 | .Token=>Md.Token
 | .Node=>Md.Node
 | .Param=>Md.Param
 | .Method=>Md.Method
 | .Field=>Md.Field
 | .zF=>Md.zF
 | .Program=>Md.Program
 | .Place=>Md.Place
 | .Instr=>Md.Instr
 | .zk=>Md.zk
 | .zq=>Md.zq
 | .Code=>Md.Code
 | .Vari=>Md.Vari
 | .Body=>Md.Body
 | .Info=>Md.Info
 | .Signature=>Md.Signature
 | .State=>Md.State
 | .Eff=>Md.Eff
 | .zL=>Md.zL
 | .zH=>Md.zH
 | .zn=>Md.zn
 | .yA=>Md.yA
 | .zX=>Md.zX
 | .zW=>Md.zW
 | .zS=>Md.zS
 | .yj=>Md.yj
 | .yK=>Md.yK
 | .yE=>Md.yE
@[reducible] def T:EC->Type
 | .int=>Int
 | .bool=>Bool
 | .u8=>UInt8
 | .u16=>UInt16
 | .u32=>UInt32
 | .u64=>UInt64
 | .str=>List UInt8
 | .err=>Bool
 | .st s=>stT s
 | .sl c=>List (T c)
 | .pt c=>T c
 | .mp k v=>List (T k×T v)
instance inhS:(s:SN)->Inhabited (stT s)
 | .Value=>⟨(default:Md.Value)⟩
 | .Ref=>⟨(default:Md.Ref)⟩
 | .vS=>⟨(default:Md.vS)⟩
 | .Effect=>⟨(default:Md.Effect)⟩
 | .Machine=>⟨(default:Md.Machine)⟩
 | .zi=>⟨(default:Md.zi)⟩
 | .Input=>⟨(default:Md.Input)⟩
 | .Token=>⟨(default:Md.Token)⟩
 | .Node=>⟨(default:Md.Node)⟩
 | .Param=>⟨(default:Md.Param)⟩
 | .Method=>⟨(default:Md.Method)⟩
 | .Field=>⟨(default:Md.Field)⟩
 | .zF=>⟨(default:Md.zF)⟩
 | .Program=>⟨(default:Md.Program)⟩
 | .Place=>⟨(default:Md.Place)⟩
 | .Instr=>⟨(default:Md.Instr)⟩
 | .zk=>⟨(default:Md.zk)⟩
 | .zq=>⟨(default:Md.zq)⟩
 | .Code=>⟨(default:Md.Code)⟩
 | .Vari=>⟨(default:Md.Vari)⟩
 | .Body=>⟨(default:Md.Body)⟩
 | .Info=>⟨(default:Md.Info)⟩
 | .Signature=>⟨(default:Md.Signature)⟩
 | .State=>⟨(default:Md.State)⟩
 | .Eff=>⟨(default:Md.Eff)⟩
 | .zL=>⟨(default:Md.zL)⟩
 | .zH=>⟨(default:Md.zH)⟩
 | .zn=>⟨(default:Md.zn)⟩
 | .yA=>⟨(default:Md.yA)⟩
 | .zX=>⟨(default:Md.zX)⟩
 | .zW=>⟨(default:Md.zW)⟩
 | .zS=>⟨(default:Md.zS)⟩
 | .yj=>⟨(default:Md.yj)⟩
 | .yK=>⟨(default:Md.yK)⟩
 | .yE=>⟨(default:Md.yE)⟩
instance inhT:(c:EC)->Inhabited (T c)
 | .int=>⟨(default:Int)⟩
 | .bool=>⟨(default:Bool)⟩
 | .u8=>⟨(default:UInt8)⟩
 | .u16=>⟨(default:UInt16)⟩
 | .u32=>⟨(default:UInt32)⟩
 | .u64=>⟨(default:UInt64)⟩
 | .str=>⟨(default:List UInt8)⟩
 | .err=>⟨(default:Bool)⟩
 | .st s=>inhS s
 | .sl c=>⟨([]:List (T c))⟩
 | .pt c=>inhT c
 | .mp k v=>⟨([]:List (T k×T v))⟩
def leaves:SN->List EC
 | .Value=>[.int,.int,.str,.sl .int,.sl .str]
 | .Ref=>[.str,.str]
 | .vS=>[.str,.str,.str,.sl (.st .Value)]
 | .Effect=>[.int,.str,.int,.int]
 | .Machine=>[.int,.int,.int,.sl (.st .Value)]
 | .zi=>[.int,.int,.int,.str,.sl .int,.sl .str,.str,.str,.str,.sl (.st .Value),.int,.int,.int,.int,.sl (.st .Value),.sl (.st .Value),.sl (.st .Effect),.int]
 | .Input=>[.sl (.st .Value),.int,.int,.str,.sl .int,.sl .str]
 | .Token=>[.int,.str,.int,.int]
 | .Node=>[.int,.str,.int,.int,.str,.sl .int,.sl .str,.sl .int]
 | .Param=>[.str,.int]
 | .Method=>[.str,.sl (.st .Param),.int,.sl (.st .Node)]
 | .Field=>[.str,.int,.int,.int,.str,.sl .int,.sl .str]
 | .zF=>[.str,.sl (.st .Field),.sl (.st .Method)]
 | .Program=>[.sl (.st .zF)]
 | .Place=>[.int,.int,.int]
 | .Instr=>[.int,.int,.int,.int,.int,.str,.sl .int,.sl .str]
 | .zk=>[.str,.sl .int,.int,.sl .int,.sl (.st .Instr)]
 | .zq=>[.str,.sl (.st .Field),.sl (.st .zk)]
 | .Code=>[.sl (.st .zq)]
 | .Vari=>[.int,.int,.bool]
 | .Body=>[.sl (.st .Param),.mp .int .int,.mp .int (.st .Vari)]
 | .Info=>[.sl (.st .zF),.sl (.sl (.st .Body))]
 | .Signature=>[.sl .int,.int]
 | .State=>[.bool,.sl .int,.u64]
 | .Eff=>[.sl .int,.sl .int]
 | .zL=>[.pt (.st .Info),.str,.sl (.st .Field),.sl (.st .Method),.int,.int,.int,.sl (.st .Node),.str,.sl (.st .Input),.int]
 | .zH=>[.int,.int]
 | .zn=>[.sl (.st .Token),.int,.int,.int,.int,.int,.int]
 | .yA=>[.sl (.st .zF),.pt (.st .Info),.int,.int,.sl (.st .Node)]
 | .zX=>[.sl (.st .zF),.mp .str (.st .Vari)]
 | .zW=>[.sl (.st .Node),.int]
 | .zS=>[.int,.int]
 | .yj=>[.sl (.st .zq),.str,.sl .int,.int,.sl .int,.sl (.st .Instr),.int,.int,.int]
 | .yK=>[.str]
 | .yE=>[.bool,.int,.int,.int,.str,.sl .int,.sl .str,.str,.str,.str,.sl (.st .Value),.int,.int,.int,.int,.sl (.st .Value),.sl (.st .Value),.sl (.st .Effect),.int]
@[reducible] def LT:List EC->Type
 | []=>Unit
 | [c]=>T c
 | c::d::r=>T c×LT (d::r)
def stTo:(s:SN)->stT s->LT (leaves s)
 | .Value,x=>(x.Kind,x.N,x.S,x.I,x.L)
 | .Ref,x=>(x.wR,x.Key)
 | .vS,x=>(x.Target.wR,x.Target.Key,x.Method,x.Args)
 | .Effect,x=>(x.Kind,x.Name,x.A,x.B)
 | .Machine,x=>(x.wR,x.Method,x.PC,x.zK)
 | .zi,x=>(x.Kind,x.Value.Kind,x.Value.N,x.Value.S,x.Value.I,x.Value.L,x.Call.Target.wR,x.Call.Target.Key,x.Call.Method,x.Call.Args,x.Err,x.Machine.wR,x.Machine.Method,x.Machine.PC,x.Machine.zK,x.Fields,x.qw,x.Fuel)
 | .Input,x=>(x.Fields,x.vY.Kind,x.vY.N,x.vY.S,x.vY.I,x.vY.L)
 | .Token,x=>(x.Kind,x.Text,x.Num,x.At)
 | .Node,x=>(x.Op,x.Name,x.Value.Kind,x.Value.N,x.Value.S,x.Value.I,x.Value.L,x.Kids)
 | .Param,x=>(x.Name,x.Kind)
 | .Method,x=>(x.Name,x.Params,x.Result,x.Nodes)
 | .Field,x=>(x.Name,x.Kind,x.Init.Kind,x.Init.N,x.Init.S,x.Init.I,x.Init.L)
 | .zF,x=>(x.Name,x.Fields,x.Methods)
 | .Program,x=>x.Types
 | .Place,x=>(x.wR,x.Method,x.Node)
 | .Instr,x=>(x.Op,x.A,x.B,x.Value.Kind,x.Value.N,x.Value.S,x.Value.I,x.Value.L)
 | .zk,x=>(x.Name,x.Params,x.Result,x.zK,x.Code)
 | .zq,x=>(x.Name,x.Fields,x.Methods)
 | .Code,x=>x.Types
 | .Vari,x=>(x.kind,x.slot,x.field)
 | .Body,x=>(x.locals,x.kinds,x.variables)
 | .Info,x=>(x.program.Types,x.bodies)
 | .Signature,x=>(x.params,x.result)
 | .State,x=>(x.reached,x.stack,x.set)
 | .Eff,x=>(x.takes,x.puts)
 | .zL,x=>(x.info,x.typ.Name,x.typ.Fields,x.typ.Methods,x.at_.wR,x.at_.Method,x.at_.Node,x.nodes,x.key,x.inputs,x.next)
 | .zH,x=>(x.limit,x.rounds)
 | .zn,x=>(x.tokens,x.pos,x.end_,x.at_,x.err,x.nest,x.total)
 | .yA,x=>(x.program.Types,x.info,x.typ,x.method,x.nodes)
 | .zX,x=>(x.program.Types,x.fields)
 | .zW,x=>(x.nodes,x.result)
 | .zS,x=>(x.node,x.err)
 | .yj,x=>(x.code.Types,x.method.Name,x.method.Params,x.method.Result,x.method.zK,x.method.Code,x.jW,x.y9,x.pc)
 | .yK,x=>x.key
 | .yE,x=>(x.Qj,x.out.Kind,x.out.Value.Kind,x.out.Value.N,x.out.Value.S,x.out.Value.I,x.out.Value.L,x.out.Call.Target.wR,x.out.Call.Target.Key,x.out.Call.Method,x.out.Call.Args,x.out.Err,x.out.Machine.wR,x.out.Machine.Method,x.out.Machine.PC,x.out.Machine.zK,x.out.Fields,x.out.qw,x.out.Fuel)
def stOf:(s:SN)->LT (leaves s)->stT s
 | .Value,(a0,a1,a2,a3,a4)=>⟨a0,a1,a2,a3,a4⟩
 | .Ref,(a0,a1)=>⟨a0,a1⟩
 | .vS,(a0,a1,a2,a3)=>⟨⟨a0,a1⟩,a2,a3⟩
 | .Effect,(a0,a1,a2,a3)=>⟨a0,a1,a2,a3⟩
 | .Machine,(a0,a1,a2,a3)=>⟨a0,a1,a2,a3⟩
 | .zi,(a0,a1,a2,a3,a4,a5,a6,a7,a8,a9,a10,a11,a12,a13,a14,a15,a16,a17)=>⟨a0,⟨a1,a2,a3,a4,a5⟩,⟨⟨a6,a7⟩,a8,a9⟩,a10,⟨a11,a12,a13,a14⟩,a15,a16,a17⟩
 | .Input,(a0,a1,a2,a3,a4,a5)=>⟨a0,⟨a1,a2,a3,a4,a5⟩⟩
 | .Token,(a0,a1,a2,a3)=>⟨a0,a1,a2,a3⟩
 | .Node,(a0,a1,a2,a3,a4,a5,a6,a7)=>⟨a0,a1,⟨a2,a3,a4,a5,a6⟩,a7⟩
 | .Param,(a0,a1)=>⟨a0,a1⟩
 | .Method,(a0,a1,a2,a3)=>⟨a0,a1,a2,a3⟩
 | .Field,(a0,a1,a2,a3,a4,a5,a6)=>⟨a0,a1,⟨a2,a3,a4,a5,a6⟩⟩
 | .zF,(a0,a1,a2)=>⟨a0,a1,a2⟩
 | .Program,a0=>⟨a0⟩
 | .Place,(a0,a1,a2)=>⟨a0,a1,a2⟩
 | .Instr,(a0,a1,a2,a3,a4,a5,a6,a7)=>⟨a0,a1,a2,⟨a3,a4,a5,a6,a7⟩⟩
 | .zk,(a0,a1,a2,a3,a4)=>⟨a0,a1,a2,a3,a4⟩
 | .zq,(a0,a1,a2)=>⟨a0,a1,a2⟩
 | .Code,a0=>⟨a0⟩
 | .Vari,(a0,a1,a2)=>⟨a0,a1,a2⟩
 | .Body,(a0,a1,a2)=>⟨a0,a1,a2⟩
 | .Info,(a0,a1)=>⟨⟨a0⟩,a1⟩
 | .Signature,(a0,a1)=>⟨a0,a1⟩
 | .State,(a0,a1,a2)=>⟨a0,a1,a2⟩
 | .Eff,(a0,a1)=>⟨a0,a1⟩
 | .zL,(a0,a1,a2,a3,a4,a5,a6,a7,a8,a9,a10)=>⟨a0,⟨a1,a2,a3⟩,⟨a4,a5,a6⟩,a7,a8,a9,a10⟩
 | .zH,(a0,a1)=>⟨a0,a1⟩
 | .zn,(a0,a1,a2,a3,a4,a5,a6)=>⟨a0,a1,a2,a3,a4,a5,a6⟩
 | .yA,(a0,a1,a2,a3,a4)=>⟨⟨a0⟩,a1,a2,a3,a4⟩
 | .zX,(a0,a1)=>⟨⟨a0⟩,a1⟩
 | .zW,(a0,a1)=>⟨a0,a1⟩
 | .zS,(a0,a1)=>⟨a0,a1⟩
 | .yj,(a0,a1,a2,a3,a4,a5,a6,a7,a8)=>⟨⟨a0⟩,⟨a1,a2,a3,a4,a5⟩,a6,a7,a8⟩
 | .yK,a0=>⟨a0⟩
 | .yE,(a0,a1,a2,a3,a4,a5,a6,a7,a8,a9,a10,a11,a12,a13,a14,a15,a16,a17,a18)=>⟨a0,⟨a1,⟨a2,a3,a4,a5,a6⟩,⟨⟨a7,a8⟩,a9,a10⟩,a11,⟨a12,a13,a14,a15⟩,a16,a17,a18⟩⟩
theorem zge:∀(s:SN) (x:LT (leaves s)),stTo s (stOf s x)=x:=by
 intro s;cases s<;>intro x<;>rfl
def WS (x:Int):List FV:=[.val (.int .i64 x)]
def zl1 (x:Bool):List FV:=[.val (.bool x)]
def zoD (x:UInt8):List FV:=[.val (.int .u8 (x.toNat:Int))]
def znA (x:UInt16):List FV:=[.val (.int .u16 (x.toNat:Int))]
def znB (x:UInt32):List FV:=[.val (.int .u32 (x.toNat:Int))]
def znC (x:UInt64):List FV:=[.val (.int .u64 (x.toNat:Int))]
def za0 (x:List UInt8):List FV:=[.val (Sv x)]
def znz (x:Bool):List FV:=[.err x]
def zgo (x:Int):Value:=(.int .i64 x)
def zm9 (x:Bool):Value:=(.bool x)
def zo1 (x:UInt8):Value:=(.int .u8 (x.toNat:Int))
def zoq (x:UInt64):Value:=(.int .u64 (x.toNat:Int))
def zlx (x:List UInt8):Value:=(Sv x)
def cvL {α:Type} [Inhabited α] (f:α->List FV) (x:List α):List FV:=[.ls f x]
def cvP {α:Type} (f:α->List FV) (x:α):List FV:=[.cptr (f x)]
def mpl {α β:Type} (f:α->Value) (g:β->Value) (x:List (α×β)):List (Value×Value):=x.map fun p=>(f p.1,g p.2)
def cvM {α β:Type} (f:α->Value) (g:β->Value) (x:List (α×β)):List FV:=[.mp (mpl f g x)]
def WI (x:Md.Value):List FV:=[.val (.int .i64 x.Kind),.val (.int .i64 x.N),.val (Sv x.S),.ls WS x.I,.ls za0 x.L]
def zoo (x:Md.Ref):Value:=.agg #[Sv x.wR,Sv x.Key]
def zny (x:Md.Ref):List FV:=[.val (Sv x.wR),.val (Sv x.Key)]
def zdI (x:Md.vS):List FV:=[.val (Sv x.Target.wR),.val (Sv x.Target.Key),.val (Sv x.Method),.ls WI x.Args]
def zjg (x:Md.Effect):Value:=.agg #[.int .i64 x.Kind,Sv x.Name,.int .i64 x.A,.int .i64 x.B]
def zbC (x:Md.Effect):List FV:=[.val (.int .i64 x.Kind),.val (Sv x.Name),.val (.int .i64 x.A),.val (.int .i64 x.B)]
def zgC (x:Md.Machine):List FV:=[.val (.int .i64 x.wR),.val (.int .i64 x.Method),.val (.int .i64 x.PC),.ls WI x.zK]
def zgE (x:Md.zi):List FV:=[.val (.int .i64 x.Kind),.val (.int .i64 x.Value.Kind),.val (.int .i64 x.Value.N),.val (Sv x.Value.S),.ls WS x.Value.I,.ls za0 x.Value.L,.val (Sv x.Call.Target.wR),.val (Sv x.Call.Target.Key),.val (Sv x.Call.Method),.ls WI x.Call.Args,.val (.int .i64 x.Err),.val (.int .i64 x.Machine.wR),.val (.int .i64 x.Machine.Method),.val (.int .i64 x.Machine.PC),.ls WI x.Machine.zK,.ls WI x.Fields,.ls zbC x.qw,.val (.int .i64 x.Fuel)]
def zfA (x:Md.Input):List FV:=[.ls WI x.Fields,.val (.int .i64 x.vY.Kind),.val (.int .i64 x.vY.N),.val (Sv x.vY.S),.ls WS x.vY.I,.ls za0 x.vY.L]
def zkR (x:Md.Token):Value:=.agg #[.int .i64 x.Kind,Sv x.Text,.int .i64 x.Num,.int .i64 x.At]
def zfB (x:Md.Token):List FV:=[.val (.int .i64 x.Kind),.val (Sv x.Text),.val (.int .i64 x.Num),.val (.int .i64 x.At)]
def zbE (x:Md.Node):List FV:=[.val (.int .i64 x.Op),.val (Sv x.Name),.val (.int .i64 x.Value.Kind),.val (.int .i64 x.Value.N),.val (Sv x.Value.S),.ls WS x.Value.I,.ls za0 x.Value.L,.ls WS x.Kids]
def zkP (x:Md.Param):Value:=.agg #[Sv x.Name,.int .i64 x.Kind]
def zcT (x:Md.Param):List FV:=[.val (Sv x.Name),.val (.int .i64 x.Kind)]
def zbD (x:Md.Method):List FV:=[.val (Sv x.Name),.ls zcT x.Params,.val (.int .i64 x.Result),.ls zbE x.Nodes]
def zbh (x:Md.Field):List FV:=[.val (Sv x.Name),.val (.int .i64 x.Kind),.val (.int .i64 x.Init.Kind),.val (.int .i64 x.Init.N),.val (Sv x.Init.S),.ls WS x.Init.I,.ls za0 x.Init.L]
def WR (x:Md.zF):List FV:=[.val (Sv x.Name),.ls zbh x.Fields,.ls zbD x.Methods]
def zgD (x:Md.Program):List FV:=[.ls WR x.Types]
def zkQ (x:Md.Place):Value:=.agg #[.int .i64 x.wR,.int .i64 x.Method,.int .i64 x.Node]
def zjR (x:Md.Place):List FV:=[.val (.int .i64 x.wR),.val (.int .i64 x.Method),.val (.int .i64 x.Node)]
def zcS (x:Md.Instr):List FV:=[.val (.int .i64 x.Op),.val (.int .i64 x.A),.val (.int .i64 x.B),.val (.int .i64 x.Value.Kind),.val (.int .i64 x.Value.N),.val (Sv x.Value.S),.ls WS x.Value.I,.ls za0 x.Value.L]
def zam (x:Md.zk):List FV:=[.val (Sv x.Name),.ls WS x.Params,.val (.int .i64 x.Result),.ls WS x.zK,.ls zcS x.Code]
def KN (x:Md.zq):List FV:=[.val (Sv x.Name),.ls zbh x.Fields,.ls zam x.Methods]
def zlZ (x:Md.Code):List FV:=[.ls KN x.Types]
def zfn (x:Md.Vari):Value:=.agg #[.int .i64 x.kind,.int .i64 x.slot,.bool x.field]
def zl0 (x:Md.Vari):List FV:=[.val (.int .i64 x.kind),.val (.int .i64 x.slot),.val (.bool x.field)]
def zhM (x:Md.Body):List FV:=[.ls zcT x.locals,.mp (mpl zgo zgo x.kinds),.mp (mpl zgo zfn x.variables)]
def zeO (x:Md.Info):List FV:=[.ls WR x.program.Types,.ls (cvL zhM) x.bodies]
def zdJ (x:Md.Signature):List FV:=[.ls WS x.params,.val (.int .i64 x.result)]
def zjS (x:Md.State):List FV:=[.val (.bool x.reached),.ls WS x.stack,.val (.int .u64 (x.set.toNat:Int))]
def znx (x:Md.Eff):List FV:=[.ls WS x.takes,.ls WS x.puts]
def zjT (x:Md.zL):List FV:=[.cptr (zeO x.info),.val (Sv x.typ.Name),.ls zbh x.typ.Fields,.ls zbD x.typ.Methods,.val (.int .i64 x.at_.wR),.val (.int .i64 x.at_.Method),.val (.int .i64 x.at_.Node),.ls zbE x.nodes,.val (Sv x.key),.ls zfA x.inputs,.val (.int .i64 x.next)]
def zkS (x:Md.zH):Value:=.agg #[.int .i64 x.limit,.int .i64 x.rounds]
def zjU (x:Md.zH):List FV:=[.val (.int .i64 x.limit),.val (.int .i64 x.rounds)]
def zjQ (x:Md.zn):List FV:=[.ls zfB x.tokens,.val (.int .i64 x.pos),.val (.int .i64 x.end_),.val (.int .i64 x.at_),.val (.int .i64 x.err),.val (.int .i64 x.nest),.val (.int .i64 x.total)]
def zjM (x:Md.yA):List FV:=[.ls WR x.program.Types,.cptr (zeO x.info),.val (.int .i64 x.typ),.val (.int .i64 x.method),.ls zbE x.nodes]
def zhN (x:Md.zX):List FV:=[.ls WR x.program.Types,.mp (mpl zlx zfn x.fields)]
def zhO (x:Md.zW):List FV:=[.ls zbE x.nodes,.val (.int .i64 x.result)]
def zjf (x:Md.zS):Value:=.agg #[.int .i64 x.node,.int .i64 x.err]
def zhP (x:Md.zS):List FV:=[.val (.int .i64 x.node),.val (.int .i64 x.err)]
def zjN (x:Md.yj):List FV:=[.ls KN x.code.Types,.val (Sv x.method.Name),.ls WS x.method.Params,.val (.int .i64 x.method.Result),.ls WS x.method.zK,.ls zcS x.method.Code,.val (.int .i64 x.jW),.val (.int .i64 x.y9),.val (.int .i64 x.pc)]
def zkO (x:Md.yK):Value:=.agg #[Sv x.key]
def zjO (x:Md.yK):List FV:=[.val (Sv x.key)]
def zjP (x:Md.yE):List FV:=[.val (.bool x.Qj),.val (.int .i64 x.out.Kind),.val (.int .i64 x.out.Value.Kind),.val (.int .i64 x.out.Value.N),.val (Sv x.out.Value.S),.ls WS x.out.Value.I,.ls za0 x.out.Value.L,.val (Sv x.out.Call.Target.wR),.val (Sv x.out.Call.Target.Key),.val (Sv x.out.Call.Method),.ls WI x.out.Call.Args,.val (.int .i64 x.out.Err),.val (.int .i64 x.out.Machine.wR),.val (.int .i64 x.out.Machine.Method),.val (.int .i64 x.out.Machine.PC),.ls WI x.out.Machine.zK,.ls WI x.out.Fields,.ls zbC x.out.qw,.val (.int .i64 x.out.Fuel)]
def vl:(c:EC)->T c->Value
 | .int=>zgo
 | .bool=>zm9
 | .u8=>zo1
 | .u64=>zoq
 | .str=>zlx
 | .st .Ref=>zoo
 | .st .Effect=>zjg
 | .st .Token=>zkR
 | .st .Param=>zkP
 | .st .Place=>zkQ
 | .st .Vari=>zfn
 | .st .zH=>zkS
 | .st .zS=>zjf
 | .st .yK=>zkO
 | _=>fun _=>undef
def cvS:(s:SN)->stT s->List FV
 | .Value=>WI
 | .Ref=>zny
 | .vS=>zdI
 | .Effect=>zbC
 | .Machine=>zgC
 | .zi=>zgE
 | .Input=>zfA
 | .Token=>zfB
 | .Node=>zbE
 | .Param=>zcT
 | .Method=>zbD
 | .Field=>zbh
 | .zF=>WR
 | .Program=>zgD
 | .Place=>zjR
 | .Instr=>zcS
 | .zk=>zam
 | .zq=>KN
 | .Code=>zlZ
 | .Vari=>zl0
 | .Body=>zhM
 | .Info=>zeO
 | .Signature=>zdJ
 | .State=>zjS
 | .Eff=>znx
 | .zL=>zjT
 | .zH=>zjU
 | .zn=>zjQ
 | .yA=>zjM
 | .zX=>zhN
 | .zW=>zhO
 | .zS=>zhP
 | .yj=>zjN
 | .yK=>zjO
 | .yE=>zjP
def cv:(c:EC)->T c->List FV
 | .int=>WS
 | .bool=>zl1
 | .u8=>zoD
 | .u16=>znA
 | .u32=>znB
 | .u64=>znC
 | .str=>za0
 | .err=>znz
 | .st s=>cvS s
 | .sl c=>cvL (cv c)
 | .pt c=>cvP (cv c)
 | .mp k v=>cvM (vl k) (vl v)
def ecT:TypeId->Option EC
 | 2=>some .int
 | 3=>some .int
 | 4=>some .bool
 | 5=>some .u8
 | 6=>some .u8
 | 9=>some .str
 | 10=>some .str
 | 11=>some .str
 | 12=>some .u64
 | 22=>some (.sl (.st .Value))
 | 23=>some (.sl (.st .Input))
 | 25=>some (.sl (.st .zF))
 | 27=>some (.st .Program)
 | 28=>some .int
 | 31=>some (.sl (.st .zq))
 | 33=>some (.st .Code)
 | 35=>some (.st .Place)
 | 40=>some (.sl .u8)
 | 43=>some (.sl (.st .zi))
 | 47=>some (.st .Machine)
 | 50=>some (.sl .int)
 | 51=>some (.sl .str)
 | 53=>some (.st .Value)
 | 55=>some (.st .Ref)
 | 57=>some (.st .vS)
 | 58=>some (.sl (.st .Effect))
 | 60=>some (.st .zi)
 | 64=>some (.st .Input)
 | 67=>some (.sl (.st .Token))
 | 71=>some (.pt (.st .Info))
 | 74=>some (.sl (.st .Field))
 | 75=>some (.sl (.st .Method))
 | 77=>some (.st .zF)
 | 78=>some (.sl (.st .zk))
 | 80=>some (.st .zq)
 | 82=>some (.st .Field)
 | 85=>some (.sl (.st .Instr))
 | 87=>some (.st .zk)
 | 107=>some (.sl (.st .Param))
 | 108=>some (.sl (.st .Node))
 | 110=>some (.st .Method)
 | 112=>some (.st .Param)
 | 137=>some (.st .Effect)
 | 140=>some (.st .Token)
 | 150=>some (.sl (.sl (.st .Body)))
 | 152=>some (.st .Info)
 | 155=>some (.mp .str (.st .Vari))
 | 157=>some (.st .Vari)
 | 159=>some (.sl (.st .Body))
 | 162=>some (.mp .int .int)
 | 163=>some (.mp .int (.st .Vari))
 | 165=>some (.st .Body)
 | 173=>some (.sl (.st .State))
 | 176=>some .u64
 | 195=>some (.st .Instr)
 | 206=>some (.st .Node)
 | 208=>some (.pt (.st .Value))
 | 237=>some (.mp .str .bool)
 | 245=>some .u64
 | 247=>some (.st .State)
 | 251=>some (.pt (.st .State))
 | 270=>some (.sl .bool)
 | 306=>some (.sl (.st .Eff))
 | 309=>some (.st .Eff)
 | 359=>some .int
 | 368=>some (.sl (.st .Signature))
 | 370=>some (.mp .str (.sl (.st .Signature)))
 | 373=>some (.st .Signature)
 | 391=>some .u32
 | 413=>some .u8
 | 414=>some .u8
 | _=>none
end G
end Go.Proofs.YtbijabmjbgplbaaGreatDoor
namespace Go.Proofs.YtbijabmjbgplbaaGreatDoor
open Go.ChangeShapes Go.WideShapes Go.RowKit
namespace G
inductive XV where
 | i (k:IntKind) (n:Int)
 | n (n:Nat)
 | z (k:IntKind) (n:Int)
 | w8 (x:UInt8)
 | w16 (x:UInt16)
 | w32 (x:UInt32)
 | w64 (x:UInt64)
 | b (b:Bool)
 | bl (b:Bool)
 | s (l:List UInt8)
 | e (b:Bool)
 | ls (c:EC) (l:List (T c))
 | fl (c:EC) (l:List (T c))
 | nl (c:EC) (l:List (T c))
 | nil
 | mp (k v:EC) (l:List (T k×T v))
 | pt (c:EC) (x:T c)
 | cp (cs:List XV)
 | own (id:Nat)
 | m (id:Nat)
 | p (id off:Nat)
 | rp (id sz j o:Nat)
 | vw (id sz lo:Nat)
 | fn (mt:Bool) (f:FuncId) (caps:List XV)
 | v (v:Value)
 | any
 deriving Inhabited
mutual
def plain:XV->Option FV
 | .i k x=>some (.val (.int k x))
 | .n x=>some (.val (.int .i64 (x:Int)))
 | .z k x=>some (.val (.int k x))
 | .w8 x=>some (.val (.int .u8 (x.toNat:Int)))
 | .w16 x=>some (.val (.int .u16 (x.toNat:Int)))
 | .w32 x=>some (.val (.int .u32 (x.toNat:Int)))
 | .w64 x=>some (.val (.int .u64 (x.toNat:Int)))
 | .b x=>some (.val (.bool x))
 | .bl x=>some (.val (.bool x))
 | .s x=>some (.val (Sv x))
 | .e x=>some (.err x)
 | .ls c x=>some (.ls (cv c) x)
 | .fl c x=>some (.full x.length (lsEl (cv c) x))
 | .nil=>some (.val (.slice none 0 0))
 | .mp k v l=>some (.mp (mpl (vl k) (vl v) l))
 | .pt c x=>some (.cptr (cv c x))
 | .cp cs=>(KE cs).map .cptr
 | .v v=>some (.val v)
 | .fn false f []=>some (.val (.func (.func f) #[] #[]))
 | _=>none
def KE:List XV->Option (List FV)
 | []=>some []
 | c::cs=>match plain c,KE cs with
  | some f,some fs=>some (f::fs)
  | _,_=>none
end
inductive X1 where
 | one (x:XV)
 | ag (cs:List XV)
 deriving Inhabited
inductive XA where
 | one (x:XV)
 | ag (cs:List XV)
 | tu (l:List X1)
 deriving Inhabited
def X1.xa:X1->XA
 | .one x=>.one x
 | .ag cs=>.ag cs
inductive XB where
 | box (cs:List XV)
 | row (e:TypeId) (c:EC) (l:List (T c))
 | mp (k v:EC) (l:List (T k×T v))
 | cm (es:List (Value×X1))
 | fz (x:XV)
 | rd (x:XB)
def XB.own:XB->Bool
 | .fz _=>false
 | .rd _=>false
 | _=>true
def XB.live:XB->Bool
 | .fz _=>false
 | .rd x=>x.live
 | _=>true
theorem Xl {x:XB} (h:x.own=true):x.live=true:=by cases x<;>first|rfl|cases h
structure Kn where
 ρ:Nat->Value
 N:Nat->Prop
 R:Nat->Prop
 w:World
def fnV (mt:Bool) (f:FuncId) (vs:List Value):Value:=bif mt then .func (.func f) vs.toArray #[] else .func (.func f) #[] vs.toArray
def yV:Value->Option Nat
 | .pointer (some a)=>some a.block
 | .slice (some a) _ (_+1)=>some a.block
 | .map (some b)=>some b
 | _=>none
def AtB (v:Value) (b:Nat):Prop:=v=.pointer (some ⟨b,0,none⟩)\/∃n c,v=.slice (some ⟨b,0,none⟩) n c
mutual
def RepX (κ:Kn):XV->Value->Prop
 | .own id,v=>κ.N id/\v=κ.ρ id/\v.oneCell'=true
 | .m id,v=>κ.N id/\v=κ.ρ id/\v.oneCell'=true
 | .p id off,v=>κ.N id/\∃b,κ.ρ id=.pointer (some ⟨b,0,none⟩)/\v=.pointer (some ⟨b,off,none⟩)
 | .rp id sz j o,v=>κ.N id/\∃b,AtB (κ.ρ id) b/\v=.pointer (some ⟨b,j*sz+o,none⟩)
 | .vw id sz lo,v=>κ.N id/\∃A n c A' c',v=.slice A n c/\κ.ρ id=.slice A' (lo+n) c'/\n<=c/\c<=maxLen/\(A=none->c=0)/\(0<n->∃b,A'=some ⟨b,0,none⟩/\A=some ⟨b,lo*sz,none⟩)
 | .fn mt f caps,v=>∃vs:List Value,v=fnV mt f vs/\Jj κ caps vs
 | .any,_=>True
 | .i k x,v=>RepF κ.R κ.w (.val (.int k x)) v
 | .n x,v=>RepF κ.R κ.w (.val (.int .i64 (x:Int))) v
 | .z k x,v=>RepF κ.R κ.w (.val (.int k x)) v
 | .w8 x,v=>RepF κ.R κ.w (.val (.int .u8 (x.toNat:Int))) v
 | .w16 x,v=>RepF κ.R κ.w (.val (.int .u16 (x.toNat:Int))) v
 | .w32 x,v=>RepF κ.R κ.w (.val (.int .u32 (x.toNat:Int))) v
 | .w64 x,v=>RepF κ.R κ.w (.val (.int .u64 (x.toNat:Int))) v
 | .b x,v=>RepF κ.R κ.w (.val (.bool x)) v
 | .bl x,v=>RepF κ.R κ.w (.val (.bool x)) v
 | .s x,v=>RepF κ.R κ.w (.val (Sv x)) v
 | .e x,v=>RepF κ.R κ.w (.err x) v
 | .ls c x,v=>RepF κ.R κ.w (.ls (cv c) x) v
 | .fl c x,v=>RepF κ.R κ.w (.full x.length (lsEl (cv c) x)) v
 | .nl c x,v=>RepF κ.R κ.w (.ls (cv c) x) v/\v≠.slice none 0 0
 | .nil,v=>RepF κ.R κ.w (.val (.slice none 0 0)) v
 | .mp k u l,v=>RepF κ.R κ.w (.mp (mpl (vl k) (vl u) l)) v
 | .pt c x,v=>RepF κ.R κ.w (.cptr (cv c x)) v
 | .cp cs,v=>∃fs,KE cs=some fs/\RepF κ.R κ.w (.cptr fs) v
 | .v u,v=>RepF κ.R κ.w (.val u) v
def Jj (κ:Kn):List XV->List Value->Prop
 | [],[]=>True
 | c::cs,v::vs=>RepX κ c v/\Jj κ cs vs
 | _,_=>False
end
theorem vU {κ:Kn} {x:XV} {f:FV} {v:Value} (h:plain x=some f):RepX κ x v↔RepF κ.R κ.w f v:=by
 cases x<;>first|(cases h;done)|(cases h;exact Iff.rfl)|skip
 .rename_i cs
  unfold plain at h;obtain ⟨fs,h1,rfl⟩:=Option.map_eq_some_iff.1 h;exact ⟨fun ⟨fs',h2,h3⟩=>by rw [h1] at h2;cases h2;exact h3,fun h3=>⟨fs,h1,h3⟩⟩
 .rename_i mt f caps
  cases mt with
  | true=>cases h
  | false =>
   cases caps with
   | cons c cs=>cases h
   | nil =>
    cases h;refine ⟨?_,?_⟩
    .rintro ⟨vs,rfl,h2⟩
     cases vs with
     | nil=>exact .val _ rfl
     | cons _ _=>exact h2.elim
    .intro h2
     cases h2;exact ⟨[],rfl,trivial⟩
theorem Wu {κ:Kn}:∀{cs:List XV} {vs:List Value},Jj κ cs vs↔All2 (RepX κ) cs vs
 | [],[]=>⟨fun _=>.nil,fun _=>trivial⟩
 | [],_::_=>⟨fun h=>h.elim,fun h=>by cases h⟩
 | _::_,[]=>⟨fun h=>h.elim,fun h=>by cases h⟩
 | c::cs,v::vs=>⟨fun ⟨h,k⟩=>.cons h (Wu.1 k),fun h=>by cases h with|cons h k=>exact ⟨h,Wu.2 k⟩⟩
def Rep1 (κ:Kn):X1->Value->Prop
 | .one x,v=>RepX κ x v
 | .ag cs,v=>∃vs:List Value,v=.agg vs.toArray/\All2 (RepX κ) cs vs
def RepA (κ:Kn):XA->Value->Prop
 | .one x,v=>RepX κ x v
 | .ag cs,v=>∃vs:List Value,v=.agg vs.toArray/\All2 (RepX κ) cs vs
 | .tu l,v=>∃vs:List Value,v=.tuple vs.toArray/\All2 (Rep1 κ) l vs
theorem UY {κ:Kn} {a:X1} {v:Value}:RepA κ a.xa v↔Rep1 κ a v:=by cases a<;>exact Iff.rfl
structure Kn.Le (κ κ':Kn):Prop where
 ext:∀id,κ.N id->κ'.N id/\κ'.ρ id=κ.ρ id
 R:∀b,κ.R b->κ'.R b
 keep:∀b,κ.R b->b<κ.w.heap.size->κ'.w.heap[b]?=κ.w.heap[b]?
 size:κ.w.heap.size<=κ'.w.heap.size
theorem Kn.Le.refl (κ:Kn):κ.Le κ:=⟨fun _ h=>⟨h,rfl⟩,fun _ h=>h,fun _ _ _=>rfl,Nat.le_refl _⟩
theorem Kn.Le.trans {a b c:Kn} (h:a.Le b) (k:b.Le c):a.Le c :=
 ⟨fun id hi=>⟨(k.ext id (h.ext id hi).1).1,((k.ext id (h.ext id hi).1).2).trans (h.ext id hi).2⟩,fun b hb=>k.R b (h.R b hb),fun b hb hl=>(k.keep b (h.R b hb) (Nat.lt_of_lt_of_le hl h.size)).trans (h.keep b hb hl),Nat.le_trans h.size k.size⟩
theorem RepF.mono {κ κ':Kn} (h:κ.Le κ') {f:FV} {v:Value} (hr:RepF κ.R κ.w f v):RepF κ'.R κ'.w f v:=hr.keep h.keep h.size h.R
mutual
theorem RepX.mono {κ κ':Kn} (h:κ.Le κ'):∀{x:XV} {v:Value},RepX κ x v->RepX κ' x v
 | .own id,v,⟨h1,h2,h3⟩=>⟨(h.ext id h1).1,h2.trans (h.ext id h1).2.symm,h3⟩
 | .m id,v,⟨h1,h2,h3⟩=>⟨(h.ext id h1).1,h2.trans (h.ext id h1).2.symm,h3⟩
 | .p id off,v,⟨h1,b,h2,h3⟩=>⟨(h.ext id h1).1,b,(h.ext id h1).2.trans h2,h3⟩
 | .rp id sz j o,v,⟨h1,b,h2,h3⟩=>⟨(h.ext id h1).1,b,by rw [(h.ext id h1).2];exact h2,h3⟩
 | .vw id sz lo,v,⟨h1,A,n,c,A',c',h2,h3,h4⟩=>⟨(h.ext id h1).1,A,n,c,A',c',h2,(h.ext id h1).2.trans h3,h4⟩
 | .fn mt f caps,v,⟨vs,h1,h2⟩=>⟨vs,h1,Jj.mono h h2⟩
 | .any,v,_=>trivial
 | .i k x,v,hr=>RepF.mono h hr
 | .n x,v,hr=>RepF.mono h hr
 | .z k x,v,hr=>RepF.mono h hr
 | .w8 x,v,hr=>RepF.mono h hr
 | .w16 x,v,hr=>RepF.mono h hr
 | .w32 x,v,hr=>RepF.mono h hr
 | .w64 x,v,hr=>RepF.mono h hr
 | .b x,v,hr=>RepF.mono h hr
 | .bl x,v,hr=>RepF.mono h hr
 | .s x,v,hr=>RepF.mono h hr
 | .e x,v,hr=>RepF.mono h hr
 | .ls c x,v,hr=>RepF.mono h hr
 | .fl c x,v,hr=>RepF.mono h hr
 | .nl c x,v,⟨hr,hn⟩=>⟨RepF.mono h hr,hn⟩
 | .nil,v,hr=>RepF.mono h hr
 | .mp k u l,v,hr=>RepF.mono h hr
 | .pt c x,v,hr=>RepF.mono h hr
 | .cp cs,v,⟨fs,h1,hr⟩=>⟨fs,h1,RepF.mono h hr⟩
 | .v u,v,hr=>RepF.mono h hr
theorem Jj.mono {κ κ':Kn} (h:κ.Le κ'):∀{cs:List XV} {vs:List Value},Jj κ cs vs->Jj κ' cs vs
 | [],[],_=>trivial
 | c::cs,v::vs,⟨h1,h2⟩=>⟨RepX.mono h h1,Jj.mono h h2⟩
 | [],_::_,h=>h.elim
 | _::_,[],h=>h.elim
end
theorem Rep1.mono {κ κ':Kn} (h:κ.Le κ') {x:X1} {v:Value} (hr:Rep1 κ x v):Rep1 κ' x v:=by
 cases x with
 | one x=>exact RepX.mono h hr
 | ag cs=>obtain ⟨vs,e,h2⟩:=hr;exact ⟨vs,e,h2.imp fun _ _ k=>k.mono h⟩
theorem RepA.mono {κ κ':Kn} (h:κ.Le κ') {x:XA} {v:Value} (hr:RepA κ x v):RepA κ' x v:=by
 cases x with
 | one x=>exact RepX.mono h hr
 | ag cs=>obtain ⟨vs,e,h2⟩:=hr;exact ⟨vs,e,h2.imp fun _ _ k=>k.mono h⟩
 | tu l=>obtain ⟨vs,e,h2⟩:=hr;exact ⟨vs,e,h2.imp fun _ _ k=>k.mono h⟩
def solid:XV->Bool
 | .any=>false
 | .v v=>v.oneCell'
 | _=>true
theorem RepX.one {κ:Kn} {x:XV} {v:Value} (hr:RepX κ x v) (hs:solid x=true):v.oneCell'=true:=by
 cases x with
 | any=>cases hs
 | own id=>exact hr.2.2
 | m id=>exact hr.2.2
 | p id off=>obtain ⟨_,b,_,rfl⟩:=hr;rfl
 | rp id sz j o=>obtain ⟨_,b,_,rfl⟩:=hr;rfl
 | vw id sz lo=>obtain ⟨_,A,n,c,A',c',rfl,_⟩:=hr;rfl
 | fn mt f caps=>obtain ⟨vs,rfl,_⟩:=hr;cases mt<;>rfl
 | cp cs=>obtain ⟨fs,_,hr⟩:=hr;exact hr.one
 | nl c l=>exact RepF.one hr.1
 | _=>exact RepF.one hr
def ku (w:World) (e:TypeId) (sz:Nat) (v:Value) (n:Nat) (vs:List Value):Prop :=
 vs.length=n*sz /\
 (
  (n=0/\∃A,v=.slice A 0 0) \/
  ∃g cap cur,v=.slice (some ⟨g,0,none⟩) n (cap+1)/\w.heap[g]?=some (.cells cur e (0,0))/\n<=cap+1/\cap+1<=maxLen/\cur.size=(cap+1)*sz/\cur.toList.take (n*sz)=vs)
theorem ku.of {w:World} {b:Nat} {e:TypeId} {sz n:Nat} {v:Value} {vs:List Value} (h:w.ownsRow b e sz v n vs):ku w e sz v n vs:=by
 refine ⟨h.1,?_⟩;rcases h.2 with ⟨rfl,rfl⟩|⟨g,cap,cur,rfl,_,h1,h2,h3,h4,h5⟩
 .exact .inl ⟨rfl,none,rfl⟩
 .cases cap with
  | zero =>
       obtain rfl:n=0:=by omega
       exact .inl ⟨rfl,_,rfl⟩
  | succ cap=>exact .inr ⟨g,cap,cur,rfl,h1,h2,h3,h4,h5⟩
theorem ku.fr {w w':World} {e:TypeId} {sz n:Nat} {v:Value} {vs:List Value} (h:ku w e sz v n vs) (hk:∀b,yV v=some b->b<w.heap.size->w'.heap[b]?=w.heap[b]?):ku w' e sz v n vs:=by
 refine ⟨h.1,?_⟩;rcases h.2 with h1|⟨g,cap,cur,rfl,h1,r⟩
 .exact .inl h1
 .exact .inr ⟨g,cap,cur,rfl,(hk g rfl (Array.getElem?_eq_some_iff.1 h1).1).trans h1,r⟩
theorem ku.slice {w:World} {e:TypeId} {sz n:Nat} {v:Value} {vs:List Value} (h:ku w e sz v n vs):∃A c,v=.slice A n c/\n<=c/\c<=maxLen/\Kit.Flat w w.heap.size A vs:=by
 rcases h.2 with ⟨rfl,A,rfl⟩|⟨g,cap,cur,rfl,h1,h2,h3,h4,h5⟩
 .refine ⟨A,0,rfl,Nat.le_refl _,by unfold maxLen;decide,?_⟩
  have:vs=[]:=List.eq_nil_of_length_eq_zero (by rw [h.1];simp);rw [this];exact Kit.Flat.nil _ _ _
 .exact ⟨_,_,rfl,h2,h3,Kit.Flat.ziJ (base:=0) (e:=e) (size:=sz) ⟨h.1,.inr ⟨g,_,cur,rfl,Nat.zero_le _,h1,h2,h3,h4,h5⟩⟩⟩
theorem ku.lt {w:World} {e:TypeId} {sz n:Nat} {v:Value} {vs:List Value} (h:ku w e sz v n vs) {b:Nat} (hb:yV v=some b):b<w.heap.size:=by
 rcases h.2 with ⟨rfl,A,rfl⟩|⟨g,cap,cur,rfl,h1,_⟩
 .cases A<;>cases hb
 .cases hb;exact (Array.getElem?_eq_some_iff.1 h1).1
def flat (c:EC) (l:List (T c)):List FV:=l.flatMap (cv c)
def Xq (R:Nat->Prop) (w:World) (c:EC) (l:List (T c)) (vs:List Value):Prop:=All2 (RepF R w) (flat c l) vs
def szC (c:EC):Nat:=(cv c default).length
theorem kH (c:EC) (x:T c):(cv c x).length=szC c:=by
 cases c with
 | st s=>cases s<;>rfl
 | _=>rfl
def uO (κ:Kn) (id:Nat):XB->Prop
 | .box cs=>∃b vs t,κ.ρ id=.pointer (some ⟨b,0,none⟩)/\κ.w.heap[b]?=some (.cells vs t (0,0))/\All2 (RepX κ) cs vs.toList
 | .row e c l=>∃vs:List Value,ku κ.w e (szC c) (κ.ρ id) l.length vs/\Xq κ.R κ.w c l vs
 | .mp k v l=>∃(b:Nat) (es:List MapEntry) (clock:Nat),κ.ρ id=.map (some b)/\κ.w.heap[b]?=some (.map es.toArray clock)/\es.map (fun e=>(e.key,e.val))=mpl (vl k) (vl v) l
 | .cm l=>∃(b:Nat) (es:List MapEntry) (clock:Nat),κ.ρ id=.map (some b)/\κ.w.heap[b]?=some (.map es.toArray clock)/\All2 (fun x e=>e.key=x.1/\Rep1 κ x.2 e.val) l es
 | .fz x=>RepX κ x (κ.ρ id)
 | .rd x=>uO κ id x
theorem uO.lt {κ:Kn} {id:Nat} {x:XB} (h:uO κ id x) (ho:x.live=true) {b:Nat} (hb:yV (κ.ρ id)=some b):b<κ.w.heap.size:=by
 induction x with
 | rd x ih=>exact ih h ho
 | box cs=>obtain ⟨g,vs,t,h1,h2,_⟩:=h;rw [h1] at hb;cases hb;exact (Array.getElem?_eq_some_iff.1 h2).1
 | row e c l=>obtain ⟨vs,h1,_⟩:=h;exact h1.lt hb
 | mp k v l=>obtain ⟨g,es,cl,h1,h2,_⟩:=h;rw [h1] at hb;cases hb;exact (Array.getElem?_eq_some_iff.1 h2).1
 | cm l=>obtain ⟨g,es,cl,h1,h2,_⟩:=h;rw [h1] at hb;cases hb;exact (Array.getElem?_eq_some_iff.1 h2).1
 | fz x=>cases ho
theorem Xq.mono {κ κ':Kn} (hle:κ.Le κ') {c:EC} {l:List (T c)} {vs:List Value} (h:Xq κ.R κ.w c l vs):Xq κ'.R κ'.w c l vs:=All2.imp (fun _ _ h=>RepF.mono hle h) h
theorem uO.mono {κ κ':Kn} (hle:κ.Le κ') {id:Nat} {x:XB} (h:uO κ id x) (hN:κ.N id) (hk:x.live=true->∀b,yV (κ.ρ id)=some b->b<κ.w.heap.size->κ'.w.heap[b]?=κ.w.heap[b]?):uO κ' id x:=by
 have hρ:=(hle.ext id hN).2
 induction x with
 | rd x ih=>exact ih h hk
 | box cs =>
  obtain ⟨g,vs,t,h1,h2,h3⟩:=h;exact ⟨g,vs,t,hρ.trans h1,(hk rfl g (by rw [h1];rfl) (Array.getElem?_eq_some_iff.1 h2).1).trans h2,h3.imp fun _ _ k=>k.mono hle⟩
 | row e c l =>
  obtain ⟨vs,h1,h2⟩:=h;exact ⟨vs,by rw [hρ];exact h1.fr (hk rfl),h2.mono hle⟩
 | mp k v l =>
  obtain ⟨g,es,cl,h1,h2,h3⟩:=h;exact ⟨g,es,cl,hρ.trans h1,(hk rfl g (by rw [h1];rfl) (Array.getElem?_eq_some_iff.1 h2).1).trans h2,h3⟩
 | cm l =>
  obtain ⟨g,es,cl,h1,h2,h3⟩:=h;exact ⟨g,es,cl,hρ.trans h1,(hk rfl g (by rw [h1];rfl) (Array.getElem?_eq_some_iff.1 h2).1).trans h2,h3.imp fun _ _ k=>⟨k.1,k.2.mono hle⟩⟩
 | fz x=>show RepX κ' x (κ'.ρ id);rw [hρ];exact RepX.mono hle h
abbrev Uf:=List (Nat×Option XB)
abbrev XEnv:=List (Nat×XA)
def look:Uf->Nat->Option XB
 | [],_=>none
 | (k,b)::r,id=>bif Nat.beq k id then b else look r id
theorem kJ (k:Nat) (b:Option XB) (r:Uf) (id:Nat):look ((k,b)::r) id=if k=id then b else look r id:=by
 show (bif Nat.beq k id then b else look r id)=_;cases h:Nat.beq k id
 .rw [if_neg (Nat.ne_of_beq_eq_false h)];rfl
 .rw [if_pos (Nat.eq_of_beq_eq_true h)];rfl
def keys (h:Uf):List Nat:=h.map (·.1)
theorem jI:∀{a:Uf} {b:Uf} {id:Nat},id∈keys a->look (a++b) id=look a id
 | [],b,id,h=>by cases h
 | (k,x)::r,b,id,h=>by
  rw [List.cons_append,kJ,kJ]
  by_cases hk:k=id
  .rw [if_pos hk,if_pos hk]
  .rw [if_neg hk,if_neg hk]
   exact jI (by rcases List.mem_cons.1 h with h|h;exact absurd h.symm hk;exact h)
theorem uJ:∀{a:Uf} {b:Uf} {id:Nat},id∉keys a->look (a++b) id=look b id
 | [],b,id,h=>rfl
 | (k,x)::r,b,id,h=>by
  rw [List.cons_append,kJ,if_neg fun e=>h (by rw [e];exact List.mem_cons_self ..)];exact uJ fun e=>h (List.mem_cons_of_mem _ e)
def get:XEnv->Nat->XA
 | [],_=>.one .any
 | (k,v)::r,t=>bif Nat.beq k t then v else get r t
theorem Vx (k:Nat) (v:XA) (r:XEnv) (t:Nat):get ((k,v)::r) t=if k=t then v else get r t:=by
 show (bif Nat.beq k t then v else get r t)=_;cases h:Nat.beq k t
 .rw [if_neg (Nat.ne_of_beq_eq_false h)];rfl
 .rw [if_pos (Nat.eq_of_beq_eq_true h)];rfl
def zi7 (b:Nat):Option (Array Value->Prop):=bif Nat.beq b 3 then some (fun cs=>cs=((List.range 20).map fun i=>Value.int .u64 ((10:Int)^i)).toArray) else bif Nat.beq b 1 then some (fun cs=>∃ev,cs=#[ev]/\(ev=.nilIface\/∃tp q,ev=.iface tp q)) else bif Nat.beq b 2 then some (fun cs=>∃ev,cs=#[ev]/\(ev=.nilIface\/∃tp q,ev=.iface tp q)) else none
structure HOk (κ:Kn) (H:Nat->Option XB):Prop where
 blk:∀{id x},H id=some x->κ.N id/\uO κ id x
 inj:∀{i j x y b},H i=some x->H j=some y->x.live=true->y.live=true->yV (κ.ρ i)=some b->yV (κ.ρ j)=some b->i=j
 notR:∀{i x b},H i=some x->x.live=true->yV (κ.ρ i)=some b->¬κ.R b
structure WOk (κ:Kn):Prop where
 ult:∀b,κ.R b->b<κ.w.heap.size
 tab:∀b p,zi7 b=some p->κ.R b/\∃cs t x,κ.w.heap[b]?=some (.cells cs t x)/\p cs
 fin:∃q,∀id,κ.N id->id<q
theorem WOk.next {κ κ':Kn} (h:WOk κ) (hle:κ.Le κ') (hu:∀b,κ'.R b->b<κ'.w.heap.size) (hf:∃q,∀id,κ'.N id->id<q):WOk κ' :=
 ⟨hu,fun b p e=>by
  obtain ⟨h1,cs,t,x,h2,h3⟩:=h.tab b p e;exact ⟨hle.R b h1,cs,t,x,(hle.keep b h1 (h.ult b h1)).trans h2,h3⟩,hf⟩
structure Upd where
 v:XA
 bl:Uf
 ids:List Nat
 wr:List Nat
abbrev XA.x (a:XA):Upd:=⟨a,[],[],[]⟩
abbrev XV.x (a:XV):Upd:=⟨.one a,[],[],[]⟩
def Touch (κ:Kn) (H:Nat->Option XB) (wr:List Nat) (b:Nat):Prop:=∃id x,id∈wr/\H id=some x/\x.own=true/\yV (κ.ρ id)=some b
structure Eff (κ κ':Kn) (H:Nat->Option XB) (u:Upd) (v:Value):Prop where
 ext:∀id,κ.N id->κ'.N id/\κ'.ρ id=κ.ρ id
 new:∀id,κ'.N id->κ.N id\/id∈u.ids
 R:∀b,κ.R b->κ'.R b
 Rn:∀b,κ'.R b->κ.R b\/Touch κ H u.wr b\/(κ.w.heap.size<=b/\b<κ'.w.heap.size)
 fr:Fr (Touch κ H u.wr) κ.w κ'.w
 val:RepA κ' u.v v
 hok:HOk κ' (look u.bl)
 old:∀id x b,look u.bl id=some x->x.live=true->yV (κ'.ρ id)=some b->Touch κ H u.wr b\/κ.w.heap.size<=b
 wr:∀id,id∈u.wr->id∈keys u.bl
section
variable {κ κ':Kn} {H:Nat->Option XB} {u:Upd} {v:Value}
theorem Touch.notR {wr:List Nat} (h:HOk κ H) {b:Nat} (ht:Touch κ H wr b):¬κ.R b:=by
 obtain ⟨id,x,_,h1,h2,h3⟩:=ht;exact h.notR h1 (Xl h2) h3
theorem Touch.sub {wr:List Nat} {H':Nat->Option XB} (hs:∀id x,H id=some x->H' id=some x) {b:Nat} (ht:Touch κ H wr b):Touch κ H' wr b:=by
 obtain ⟨id,x,h0,h1,h2,h3⟩:=ht;exact ⟨id,x,h0,hs _ _ h1,h2,h3⟩
theorem Eff.sub {H':Nat->Option XB} (e:Eff κ κ' H u v) (hs:∀id x,H id=some x->H' id=some x):Eff κ κ' H' u v :=
 ⟨e.ext,e.new,e.R,fun b hb=>(e.Rn b hb).imp id (Or.imp (Touch.sub hs) id),e.fr.mono fun b _ hb=>hb.sub hs,e.val,e.hok,fun i x b h1 h2 h3=>(e.old i x b h1 h2 h3).imp (Touch.sub hs) (fun h=>h),e.wr⟩
theorem Eff.le (e:Eff κ κ' H u v) (hH:HOk κ H):κ.Le κ':=⟨e.ext,e.R,fun b hb hl=>e.fr.block b hl fun ht=>ht.notR hH hb,e.fr.size⟩
theorem Eff.heap {h:Uf} (e:Eff κ κ' (look h) u v) (hH:HOk κ (look h)):HOk κ' (look (u.bl++h)):=by
 have hle:=e.le hH;have hat:∀id,(id∈keys u.bl/\look (u.bl++h) id=look u.bl id)\/(id∉keys u.bl/\look (u.bl++h) id=look h id):=fun id=>by
  by_cases hi:id∈keys u.bl
  .exact .inl ⟨hi,jI hi⟩
  .exact .inr ⟨hi,uJ hi⟩
 have hnt:∀{i x b},i∉keys u.bl->look h i=some x->x.live=true->yV (κ.ρ i)=some b->¬Touch κ (look h) u.wr b:=by
  rintro i x b hi hx ho hb ⟨j,y,h0,h1,h2,h3⟩;exact hi (hH.inj hx h1 ho (Xl h2) hb h3▸e.wr j h0)
 have hsame:∀{i x},look h i=some x->κ'.ρ i=κ.ρ i:=fun hx=>(e.ext _ (hH.blk hx).1).2;refine ⟨fun {id x} hx=>?_,fun {i j x y b} hx hy ho ho' hb hb'=>?_,fun {i x b} hx ho hb hR=>?_⟩
 .rcases hat id with ⟨hi,h1⟩|⟨hi,h1⟩
  .rw [h1] at hx;exact e.hok.blk hx
  .rw [h1] at hx
   obtain ⟨h2,h3⟩:=hH.blk hx;exact ⟨(e.ext id h2).1,h3.mono hle h2 fun ho b hb hl=>e.fr.block b hl (hnt hi hx ho hb)⟩
 .have key:∀{i j x y},i∈keys u.bl->look u.bl i=some x->j∉keys u.bl->look h j=some y->x.live=true->y.live=true->yV (κ'.ρ i)=some b->yV (κ'.ρ j)=some b->False:=by
   intro i j x y hi hx hj hy ho ho' hb hb';rw [hsame hy] at hb';rcases e.old i x b hx ho hb with h1|h1
   .exact hnt hj hy ho' hb' h1
   .have:=(hH.blk hy).2.lt ho' hb'
    omega
  rcases hat i with ⟨hi,h1⟩|⟨hi,h1⟩<;>rcases hat j with ⟨hj,h2⟩|⟨hj,h2⟩<;>rw [h1] at hx<;>rw [h2] at hy
  .exact e.hok.inj hx hy ho ho' hb hb'
  .exact (key hi hx hj hy ho ho' hb hb').elim
  .exact (key hj hy hi hx ho' ho hb' hb).elim
  .rw [hsame hx] at hb
   rw [hsame hy] at hb';exact hH.inj hx hy ho ho' hb hb'
 .rcases hat i with ⟨hi,h1⟩|⟨hi,h1⟩<;>rw [h1] at hx
  .exact e.hok.notR hx ho hb hR
  .rw [hsame hx] at hb
   rcases e.Rn b hR with h2|h2|h2
   .exact hH.notR hx ho hb h2
   .exact hnt hi hx ho hb h2
   .have:=(hH.blk hx).2.lt ho hb
    omega
theorem HOk.nil (κ:Kn):HOk κ (look []):=⟨fun h=>(by cases h),fun h _ _ _ _ _=>(by cases h),fun h _ _=>(by cases h)⟩
theorem Eff.pure {a:XA} (h:RepA κ a v):Eff κ κ H a.x v :=
 ⟨fun _ h=>⟨h,rfl⟩,fun _ h=>.inl h,fun _ h=>h,fun _ h=>.inl h,Fr.refl _ _,h,HOk.nil κ,fun _ _ _ h=>(by cases h),fun _ h=>(by cases h)⟩
end
structure St where
 env:XEnv
 hp:Uf
 nx:Nat
def St.put (s:St) (d:Option Nat) (v:XA):XEnv:=match d with|some d=>(d,v)::s.env|none=>s.env
def nxA (n:Nat):List Nat->Nat
 | []=>n
 | i::r=>nxA (bif Nat.blt i n then n else i+1) r
theorem zcA:∀(l:List Nat) (n:Nat),n<=nxA n l
 | [],n=>Nat.le_refl _
 | i::r,n=>by
  refine Nat.le_trans ?_ (zcA r _);cases h:Nat.blt i n
  .have:¬i<n:=by rw [<-Nat.blt_eq,h];simp
   show n<=i+1;omega
  .exact Nat.le_refl _
theorem ziH:∀(l:List Nat) (n i:Nat),i∈l->i<nxA n l
 | j::r,n,i,h=>by
  rcases List.mem_cons.1 h with rfl|h
  .refine Nat.lt_of_lt_of_le ?_ (zcA r _)
   cases hb:Nat.blt i n
   .exact Nat.lt_succ_self _
   .rw [Nat.blt_eq] at hb;exact hb
  .exact ziH r _ i h
def St.upd (s:St) (d:Option Nat) (u:Upd):St:=⟨s.put d u.v,u.bl++s.hp,nxA s.nx u.ids⟩
structure Base where
 w:World
 T:Nat->Prop
 R:Nat->Prop
 N:Nat->Prop
 ρ:Nat->Value
 n:Nat
structure Ok (nt:Nat) (B:Base) (κ:Kn) (s:St) (a:Act):Prop where
 nt:a.tmps.size=nt
 defers:a.defers=[]
 env:∀t,RepA κ (get s.env t) (a.tmps.getD t undef)
 hp:HOk κ (look s.hp)
 wd:WOk κ
 nx:∀id,κ.N id->id<s.nx
 fr:Fr B.T B.w κ.w
 own:∀{id x b},look s.hp id=some x->x.own=true->yV (κ.ρ id)=some b->B.T b\/B.w.heap.size<=b
 rb:∀b,κ.R b->B.R b\/B.T b\/B.w.heap.size<=b
 rr:∀b,B.R b->κ.R b
 ids:∀id,B.N id->κ.N id/\κ.ρ id=B.ρ id
 low:B.n<=s.nx
 nw:∀id,κ.N id->B.N id\/B.n<=id
def dOk (nt:Nat):Option Nat->Bool
 | some t=>Nat.blt t nt
 | none=>true
theorem zmF {a:Act} {d:Option Nat} {v:Value} {nt:Nat} (hn:a.tmps.size=nt) (hd:dOk nt d=true) (t:Nat):(a.put d v).tmps.getD t undef=if d=some t then v else a.tmps.getD t undef:=by
 cases d with
 | none=>rfl
 | some d =>
  have hlt:d<a.tmps.size:=by rw [hn];simpa [dOk,Nat.blt_eq] using hd
  by_cases hdt:d=t
  .subst hdt;rw [if_pos rfl];simp [Act.put,hlt]
  .rw [if_neg fun e=>hdt (Option.some.inj e)]
   simp [Act.put,Array.getElem?_setIfInBounds_ne hdt]
theorem get_put (s:St) (d:Option Nat) (v:XA) (t:Nat):get (s.put d v) t=if d=some t then v else get s.env t:=by
 cases d with
 | none=>rfl
 | some d =>
  show get ((d,v)::s.env) t=_;rw [Vx]
  by_cases h:d=t
  .rw [if_pos h,if_pos (by rw [h])]
  .rw [if_neg h,if_neg fun e=>h (Option.some.inj e)]
theorem Ok.upd {nt:Nat} {B:Base} {κ κ':Kn} {s:St} {a:Act} {d:Option Nat} {u:Upd} {v:Value} (ok:Ok nt B κ s a) (e:Eff κ κ' (look s.hp) u v) (hd:dOk nt d=true) (hq:∀id,id∈u.ids->B.n<=id):Ok nt B κ' (s.upd d u) (a.put d v):=by
 have hle:=e.le ok.hp;have hnx:∀id,κ'.N id->id<nxA s.nx u.ids:=fun id hid=>by
  rcases e.new id hid with h|h
  .exact Nat.lt_of_lt_of_le (ok.nx id h) (zcA _ _)
  .exact ziH _ _ _ h
 have hT:∀b,b<B.w.heap.size->Touch κ (look s.hp) u.wr b->B.T b:=fun b hb ⟨id,x,_,h1,h2,h3⟩=>(ok.own h1 h2 h3).resolve_right (by omega);refine ⟨?_,?_,fun t=>?_,e.heap ok.hp,ok.wd.next hle (fun b hb=>?_) ⟨_,hnx⟩,hnx,ok.fr.trans e.fr hT,fun {id x b} hx ho hb=>?_,fun b hb=>?_,fun b hb=>e.R b (ok.rr b hb),fun id hid=>?_,Nat.le_trans ok.low (zcA _ _),fun id hid=>?_⟩
 .cases d<;>simp [Act.put,ok.nt]
 .cases d<;>simp [Act.put,ok.defers]
 .show RepA κ' (get (s.put d u.v) t) _
  rw [get_put,zmF ok.nt hd]
  by_cases h:d=some t
  .rw [if_pos h,if_pos h];exact e.val
  .rw [if_neg h,if_neg h];exact (ok.env t).mono hle
 .rcases e.Rn b hb with h|⟨id,x,_,h1,h2,h3⟩|h
  .exact Nat.lt_of_lt_of_le (ok.wd.ult b h) hle.size
  .exact Nat.lt_of_lt_of_le ((ok.hp.blk h1).2.lt (Xl h2) h3) hle.size
  .exact h.2
 .by_cases hi:id∈keys u.bl
  .rw [show look (s.upd d u).hp id=look u.bl id from jI hi] at hx
   rcases e.old id x b hx (Xl ho) hb with ⟨j,y,_,h1,h2,h3⟩|h
   .exact ok.own h1 h2 h3
   .exact .inr (Nat.le_trans ok.fr.size h)
  .rw [show look (s.upd d u).hp id=look s.hp id from uJ hi] at hx
   rw [(e.ext id (ok.hp.blk hx).1).2] at hb;exact ok.own hx ho hb
 .rcases e.Rn b hb with h|⟨id,x,_,h1,h2,h3⟩|h
  .exact ok.rb b h
  .exact .inr (ok.own h1 h2 h3)
  .exact .inr (.inr (Nat.le_trans ok.fr.size h.1))
 .obtain ⟨h1,h2⟩:=ok.ids id hid
  exact ⟨(e.ext id h1).1,((e.ext id h1).2).trans h2⟩
 .rcases e.new id hid with h|h
  .exact ok.nw id h
  .exact .inr (hq id h)
end G
end Go.Proofs.YtbijabmjbgplbaaGreatDoor
namespace Go.Proofs.YtbijabmjbgplbaaGreatDoor
open Go.ChangeShapes Go.WideShapes Go.RowKit
namespace Md
theorem wrap_i64 {n:Int} (h:-9223372036854775808<=n) (h':n<=9223372036854775807):IntKind.i64.wrap n=n:=by
 simp [IntKind.wrap,IntKind.bits,IntKind.signed];omega
theorem JX (n:Int):IntKind.i64.wrap n=W n:=by
 unfold W IntKind.wrap;simp [IntKind.bits,IntKind.signed]
theorem zfq (n:Int):IntKind.u8.wrap n=n%256:=by simp [IntKind.wrap,IntKind.bits,IntKind.signed]
theorem JW (n:Int):IntKind.u64.wrap n=n%18446744073709551616:=by simp [IntKind.wrap,IntKind.bits,IntKind.signed]
theorem zj5 (a b:Int):IntKind.i64.wrap (BitVec.ofInt IntKind.i64.bits a &&& BitVec.ofInt IntKind.i64.bits b).toNat=iand a b:=JX _
theorem zmk (a b:Int):IntKind.i64.wrap (BitVec.ofInt IntKind.i64.bits a ||| BitVec.ofInt IntKind.i64.bits b).toNat=ior a b:=JX _
theorem zj9 (a b:Int):IntKind.i64.wrap (BitVec.ofInt IntKind.i64.bits a ^^^ BitVec.ofInt IntKind.i64.bits b).toNat=ixor a b:=JX _
theorem zog (a b:UInt8):IntKind.u8.wrap ((a.toNat:Int) - (b.toNat:Int))=((a - b).toNat:Int):=by
 rw [zfq,UInt8.toNat_sub];have:=a.toNat_lt;have:=b.toNat_lt;omega
theorem zjG (a:UInt8):BitVec.ofInt IntKind.u8.bits (a.toNat:Int)=a.toBitVec:=by
 apply BitVec.eq_of_toNat_eq;have:=a.toNat_lt;have h:IntKind.u8.bits=8:=rfl;simp [h];rfl
theorem znp (a b:UInt8):IntKind.u8.wrap (BitVec.ofInt IntKind.u8.bits (a.toNat:Int) &&& BitVec.ofInt IntKind.u8.bits (b.toNat:Int)).toNat=((a &&& b).toNat:Int):=by
 rw [zjG,zjG,zfq];have:=(a &&& b).toNat_lt;show ((a &&& b).toNat:Int)%_=_;omega
theorem zoM (a b:UInt8):IntKind.u8.wrap (BitVec.ofInt IntKind.u8.bits (a.toNat:Int) ||| BitVec.ofInt IntKind.u8.bits (b.toNat:Int)).toNat=((a ||| b).toNat:Int):=by
 rw [zjG,zjG,zfq];have:=(a ||| b).toNat_lt;show ((a ||| b).toNat:Int)%_=_;omega
theorem zkt (n:Nat):IntKind.u8.wrap (n:Int)=((UInt8.ofNat n).toNat:Int):=by rw [zfq,UInt8.toNat_ofNat'];omega
theorem ofInt_u8 (n:Int):IntKind.u8.wrap n=((UInt8.ofInt n).toNat:Int):=by
 rw [zfq];show _=(((UInt8.ofNat (n%2^8).toNat).toNat:Nat):Int);rw [UInt8.toNat_ofNat'];omega
theorem zmQ (a:UInt8):IntKind.u8.wrap (a.toNat:Int)=(a.toNat:Int):=by
 rw [zfq];have:=a.toNat_lt;omega
theorem zeM (a:UInt8):IntKind.u64.wrap (a.toNat:Int)=((a.toUInt64).toNat:Int):=by rw [JW,UInt8.toNat_toUInt64];have:=a.toNat_lt;omega
theorem zeL (a:UInt8):IntKind.i64.wrap (a.toNat:Int)=((a.toNat:Nat):Int):=by have:=a.toNat_lt;exact wrap_i64 (by omega) (by omega)
theorem zlK (a b:UInt64):IntKind.u64.wrap ((a.toNat:Int)+(b.toNat:Int))=((a+b).toNat:Int):=by rw [JW,UInt64.toNat_add];omega
theorem zmY (a b:UInt64):IntKind.u64.wrap ((a.toNat:Int) - (b.toNat:Int))=((a - b).toNat:Int):=by
 rw [JW,UInt64.toNat_sub];have:=a.toNat_lt;have:=b.toNat_lt;omega
theorem zcn (a:UInt64):BitVec.ofInt IntKind.u64.bits (a.toNat:Int)=a.toBitVec:=by
 apply BitVec.eq_of_toNat_eq;have:=a.toNat_lt;have h:IntKind.u64.bits=64:=rfl;simp [h];rfl
theorem zlN (a b:UInt64):IntKind.u64.wrap (BitVec.ofInt IntKind.u64.bits (a.toNat:Int) &&& BitVec.ofInt IntKind.u64.bits (b.toNat:Int)).toNat=((a &&& b).toNat:Int):=by
 rw [zcn,zcn,JW];have:=(a &&& b).toNat_lt;show ((a &&& b).toNat:Int)%_=_;omega
theorem zn0 (a b:UInt64):IntKind.u64.wrap (BitVec.ofInt IntKind.u64.bits (a.toNat:Int) ||| BitVec.ofInt IntKind.u64.bits (b.toNat:Int)).toNat=((a ||| b).toNat:Int):=by
 rw [zcn,zcn,JW];have:=(a ||| b).toNat_lt;show ((a ||| b).toNat:Int)%_=_;omega
theorem znc (a b:UInt64):IntKind.u64.wrap (BitVec.ofInt IntKind.u64.bits (a.toNat:Int) ^^^ BitVec.ofInt IntKind.u64.bits (b.toNat:Int)).toNat=((a ^^^ b).toNat:Int):=by
 rw [zcn,zcn,JW];have:=(a ^^^ b).toNat_lt;show ((a ^^^ b).toNat:Int)%_=_;omega
theorem zmS (a:UInt64) {m:Int} {n:Nat} (h:m.toNat=n):IntKind.u64.wrap ((a.toNat:Int)*2^(min m.toNat IntKind.u64.bits))=((QU a n).toNat:Int):=by
 subst h;rw [JW];show _=((UInt64.ofNat (a.toNat*2^min m.toNat 64)).toNat:Int);rw [UInt64.toNat_ofNat'];have h:((a.toNat:Int)*2^(min m.toNat IntKind.u64.bits))=((a.toNat*2^min m.toNat 64:Nat):Int):=by
  rw [Int.natCast_mul,Int.natCast_pow];rfl
 rw [h];omega
theorem zmT (a:UInt64) {m:Int} {n:Nat} (h:m.toNat=n):(a.toNat:Int).fdiv (2^(min m.toNat IntKind.u64.bits))=((Kq a n).toNat:Int):=by
 subst h;show _=((UInt64.ofNat (a.toNat/2^min m.toNat 64)).toNat:Int);rw [UInt64.toNat_ofNat'];have h:((2:Int)^(min m.toNat IntKind.u64.bits))=((2^min m.toNat 64:Nat):Int):=by
  rw [Int.natCast_pow];rfl
 rw [h,<-Int.ofNat_fdiv];have h1:=a.toNat_lt;have h2:=Nat.div_le_self a.toNat (2^min m.toNat 64);generalize a.toNat/(2^min m.toNat 64)=q at *;omega
theorem ziI (n:Nat):IntKind.u64.wrap (n:Int)=((UInt64.ofNat n).toNat:Int):=by rw [JW,UInt64.toNat_ofNat'];omega
theorem ofInt_u64 (n:Int):IntKind.u64.wrap n=((UInt64.ofInt n).toNat:Int):=by
 rw [JW];show _=(((UInt64.ofNat (n%2^64).toNat).toNat:Nat):Int);rw [UInt64.toNat_ofNat'];omega
theorem zkE (a:UInt64):IntKind.u64.wrap (a.toNat:Int)=(a.toNat:Int):=by
 rw [JW];have:=a.toNat_lt;omega
theorem zeK (a:UInt64):IntKind.u8.wrap (a.toNat:Int)=((a.toUInt8).toNat:Int):=by rw [zfq,UInt64.toNat_toUInt8];omega
theorem zmr {a b:Nat} (h:a+b<=9223372036854775807):IntKind.i64.wrap ((a:Int)+(b:Int))=((a+b:Nat):Int):=(wrap_i64 (by omega) (by omega)).trans (by omega)
theorem zms {a b:Nat} (h:a*b<=9223372036854775807):IntKind.i64.wrap ((a:Int)*(b:Int))=((a*b:Nat):Int):=by
 rw [<-Int.natCast_mul];exact wrap_i64 (by omega) (by omega)
theorem zmX {a b:List UInt8}:((⟨a.toArray⟩:ByteArray)=⟨b.toArray⟩)↔a=b:=by
 constructor
 .intro h
  injection h with h
  exact congrArg Array.toList h
 .rintro rfl;rfl
theorem zhs (a b:List UInt8):(⟨a.toArray⟩:ByteArray)++(⟨b.toArray⟩:ByteArray)=⟨(a++b).toArray⟩:=by
 apply ByteArray.ext;simp
end Md
namespace G
theorem ziA (bs:ByteArray):∀(k i:Nat) (r:List UInt8),k=bs.size - i->ByteArray.toList.loop bs i r=r.reverse++bs.data.toList.drop i:=by
 intro k
 induction k with
 | zero =>
  intro i r h;unfold ByteArray.toList.loop;have h1:¬i<bs.size:=by omega
  have h0:bs.data.toList.length=bs.size:=by simp
  have h2:bs.data.toList.drop i=[]:=List.drop_eq_nil_of_le (by omega);simp [h1,h2]
 | succ k ih =>
  intro i r h;unfold ByteArray.toList.loop;have h1:i<bs.size:=by omega
  rw [if_pos h1,ih (i+1) _ (by omega)];have hh:i<bs.data.size:=h1;have h2:bs.data.toList.drop i=bs.get! i::bs.data.toList.drop (i+1):=by
   rw [List.drop_eq_getElem_cons (by simpa using hh)]
   congr 1
   exact (getElem!_pos bs.data i hh).symm
  rw [h2];simp
theorem zgz (bs:ByteArray):bs.toList=bs.data.toList:=by
 unfold ByteArray.toList;rw [ziA bs _ 0 [] rfl];rfl
theorem zfg (a:List UInt8):(⟨a.toArray⟩:ByteArray).toList=a:=by rw [zgz]
structure Says (P:Program) (E:Operand->XA) (H:Nat->Option XB) (o:Op) (u:Upd):Prop where
 go:∀{κ:Kn} {a:Act} {o':Oper},o'.op=o->(∀x,RepA κ (E x) (a.eval x))->HOk κ H->WOk κ->(∀id,id∈u.ids->¬κ.N id) ->
  ∀(K:Act->World->Prop) (Q:Exit->Act->World->Prop),(∀v κ',Eff κ κ' H u v->K (a.put o'.dst v) κ'.w)->o'.wp P a κ.w K Q
section
variable {P:Program} {E:Operand->XA} {H:Nat->Option XB}
theorem yS {o:Op} {r:XA} (h:∀{κ:Kn} {a:Act} {o':Oper},o'.op=o->(∀x,RepA κ (E x) (a.eval x))->HOk κ H ->
  ∃u,(execOp a.eval o').run P κ.w=.ok (.value u) κ.w/\RepA κ r u):Says P E H o r.x:=⟨fun {κ a o'} ho hE hH hW hf K Q hK=>by
 obtain ⟨u,h1,h2⟩:=h ho hE hH;unfold Oper.wp;rw [h1];exact hK u κ (Eff.pure h2)⟩
theorem xM {o:Op} {r:XV} {u:Value} (hr:plain r=some (.val u)) (hu:u.oneCell'=true) (h:∀{κ:Kn} {a:Act} {o':Oper},o'.op=o->(∀x,RepA κ (E x) (a.eval x)) ->
  (execOp a.eval o').run P κ.w=.ok (.value u) κ.w):Says P E H o r.x :=
 yS (r:=.one r) fun ho hE hH=>⟨u,h ho hE,(vU hr).2 (.val u hu)⟩
theorem WU {κ:Kn} {v:Value} {p:XV} {u:Value} (hp:plain p=some (.val u)) (h:RepX κ p v):v=u:=by cases (vU hp).1 h;rfl
theorem uh {κ:Kn} {a:Act} {x:Operand} {p:XV} {u:Value} (hE:∀x,RepA κ (E x) (a.eval x)) (hx:E x=.one p) (hp:plain p=some (.val u)):a.eval x=u:=by
 have:=hE x;rw [hx] at this;exact WU hp this
end
def intOf:XV->Option (IntKind×Int)
 | .i k n=>some (k,n)
 | .n n=>some (.i64,(n:Int))
 | .z k n=>some (k,n)
 | .w8 x=>some (.u8,(x.toNat:Int))
 | .w64 x=>some (.u64,(x.toNat:Int))
 | _=>none
theorem zaQ {a:XV} {k:IntKind} {n:Int} (h:intOf a=some (k,n)):plain a=some (.val (.int k n)):=by
 cases a<;>cases h<;>rfl
def int64:XV->Option Int
 | .i .i64 n=>some n
 | .n n=>some (n:Int)
 | .z .i64 n=>some n
 | _=>none
theorem YW {a:XV} {n:Int} (h:int64 a=some n):plain a=some (.val (.int .i64 n)):=by
 unfold int64 at h;split at h<;>first|(cases h;rfl)|cases h
def zeG:XV->Option UInt64
 | .w64 x=>some x
 | .z .u64 (.ofNat n)=>bif Nat.blt n 18446744073709551616 then some (.ofNat n) else none
 | _=>none
theorem zby {a:XV} {x:UInt64} (h:zeG a=some x):plain a=some (.val (.int .u64 (x.toNat:Int))):=by
 unfold zeG at h;split at h
 .cases h;rfl
 .rename_i n
  cases hb:Nat.blt n 18446744073709551616
  .rw [hb] at h;cases h
  .rw [hb] at h
   cases h;have:n<18446744073709551616:=by rwa [Nat.blt_eq] at hb
   show some (FV.val (.int .u64 (n:Int)))=_;rw [UInt64.toNat_ofNat_of_lt' this]
 .cases h
def asW8:XV->Option UInt8
 | .w8 x=>some x
 | .z .u8 (.ofNat n)=>bif Nat.blt n 256 then some (.ofNat n) else none
 | _=>none
theorem zhq {a:XV} {x:UInt8} (h:asW8 a=some x):plain a=some (.val (.int .u8 (x.toNat:Int))):=by
 unfold asW8 at h;split at h
 .cases h;rfl
 .rename_i n
  cases hb:Nat.blt n 256
  .rw [hb] at h;cases h
  .rw [hb] at h
   cases h;have:n<256:=by rwa [Nat.blt_eq] at hb
   show some (FV.val (.int .u8 (n:Int)))=_;rw [UInt8.toNat_ofNat_of_lt' this]
 .cases h
def zbf:XV->Option Nat
 | .n a=>some a
 | .z .i64 (.ofNat m)=>some m
 | _=>none
theorem KR {a:XV} {n:Nat} (h:zbf a=some n):plain a=some (.val (.int .i64 (n:Int))):=by
 unfold zbf at h;split at h<;>first|(cases h;rfl)|cases h
def Qe:XV->Option Bool
 | .b b=>some b
 | .bl b=>some b
 | _=>none
theorem Ut {a:XV} {b:Bool} (h:Qe a=some b):plain a=some (.val (.bool b)):=by
 cases a<;>cases h<;>rfl
def isZ:XV->Bool
 | .z _ _=>true
 | _=>false
def eqK (a b:IntKind):Bool:=decide (a=b)
def cmpB (op:BinOp) (m n:Int):Option Bool :=
 match op with
 | .eql=>some (m==n)
 | .neq=>some (m != n)
 | .lss=>some (decide (m<n))
 | .leq=>some (decide (m<=n))
 | .gtr=>some (decide (m>n))
 | .geq=>some (decide (m>=n))
 | _=>none
def zht (op:BinOp) (p q:XV):Option XV :=
 match intOf p,intOf q with
 | some (k,m),some (k',n)=>bif eqK k k' then (cmpB op m n).map fun b=>bif isZ p&&isZ q then .bl b else .b b else none
 | _,_=>none
def numI (op:BinOp) (p q:XV):Option XV :=
 match int64 p,int64 q with
 | some m,some n =>
  let r:Option Int:=match op with
   | .add=>some (Md.W (m+n))
   | .sub=>some (Md.W (m - n))
   | .mul=>some (Md.W (m*n))
   | .and=>some (Md.iand m n)
   | .or=>some (Md.ior m n)
   | .xor=>some (Md.ixor m n)
   | _=>none
  r.map fun r=>bif isZ p&&isZ q then .z .i64 r else .i .i64 r
 | _,_=>none
def numW (op:BinOp) (p q:XV):Option XV :=
 match zeG p,zeG q with
 | some m,some n=>match op with
  | .add=>some (.w64 (m+n))
  | .sub=>some (.w64 (m - n))
  | .and=>some (.w64 (m &&& n))
  | .or=>some (.w64 (m ||| n))
  | .xor=>some (.w64 (m ^^^ n))
  | _=>none
 | _,_=>match asW8 p,asW8 q with
  | some m,some n=>match op with
   | .sub=>some (.w8 (m - n))
   | .and=>some (.w8 (m &&& n))
   | .or=>some (.w8 (m ||| n))
   | _=>none
  | _,_=>none
def zhv (op:BinOp) (a b:List UInt8):Option XV :=
 match op with
 | .eql=>some (.b (decide (a=b)))
 | .neq=>some (.b (!(decide (a=b))))
 | .lss=>some (.b (Op.bytesLess a b))
 | _=>none
def zeH (op:BinOp) (a b:Bool):Option Bool :=
 match op with
 | .eql=>some (a==b)
 | .neq=>some (!(a==b))
 | _=>none
def amount:XV->Option Nat
 | .n a=>some a
 | .z _ (.ofNat m)=>some m
 | .w64 x=>some x.toNat
 | .w8 x=>some x.toNat
 | _=>none
theorem zfu {a:XV} {n:Nat} (h:amount a=some n):∃k,plain a=some (.val (.int k (n:Int))):=by
 unfold amount at h;split at h<;>first|(cases h;exact ⟨_,rfl⟩)|cases h
def shX (op:BinOp) (p:XV) (n:Nat):Option XV :=
 match op with
 | .shl=>match zeG p with
  | some m=>some (.w64 (Md.QU m n))
  | none=>(int64 p).map fun m=>bif isZ p then .z .i64 (Md.ishl m n) else .i .i64 (Md.ishl m n)
 | .shr=>match zeG p with
  | some m=>some (.w64 (Md.Kq m n))
  | none=>(int64 p).map fun m=>bif isZ p then .z .i64 (Md.ishr m n) else .i .i64 (Md.ishr m n)
 | _=>none
section
variable {P:Program} {E:Operand->XA} {H:Nat->Option XB} {xT yT:TypeId} {x y:Operand} {r:XV}
theorem zhu {op:BinOp} {p q v:XV} (hx:E x=.one p) (hy:E y=.one q) (h:zht op p q=some v):Says P E H (.binOp op xT x y yT) v.x:=by
 unfold zht at h;split at h
 .rename_i k m k' n h1 h2
  cases hk:eqK k k'
  .rw [hk] at h;cases h
  .rw [hk,cond_true] at h
   have hk:k=k':=of_decide_eq_true hk;subst hk;obtain ⟨b,hb,rfl⟩:=Option.map_eq_some_iff.1 h;refine xM (u:=.bool b) (by cases isZ p&&isZ q<;>rfl) rfl fun ho hE=>?_;have e1:=uh hE hx (zaQ h1);have e2:=uh hE hy (zaQ h2);cases op<;>simp only [cmpB] at hb<;>first|(cases hb;done)|(injection hb with hb;subst hb;simp [execOp,ho,eqGuard,binOp,e1,e2,Op.intCmp])
 .cases h
def bitsOf (op:BinOp) (k:IntKind) (m n:Int):Int :=
 match op with
 | .and=>k.wrap (BitVec.ofInt k.bits m &&& BitVec.ofInt k.bits n).toNat
 | .or=>k.wrap (BitVec.ofInt k.bits m ||| BitVec.ofInt k.bits n).toNat
 | _=>k.wrap (BitVec.ofInt k.bits m ^^^ BitVec.ofInt k.bits n).toNat
theorem UK {P:Program} {a:Act} {o':Oper} {w:World} {op:BinOp} {xT yT:TypeId} {x y:Operand} {k:IntKind} {m n q:Int} (ho:o'.op=.binOp op xT x y yT) (e1:a.eval x=.int k m) (e2:a.eval y=.int k n) (hop:op=.and\/op=.or\/op=.xor) (hq:bitsOf op k m n=q):(execOp a.eval o').run P w=.ok (.value (.int k q)) w:=by
 subst hq;rcases hop with rfl|rfl|rfl<;>simp [execOp,ho,eqGuard,binOp,e1,e2,Op.intBits,bitsOf]
theorem ziG {op:BinOp} {p q v:XV} (hx:E x=.one p) (hy:E y=.one q) (h:numI op p q=some v):Says P E H (.binOp op xT x y yT) v.x:=by
 unfold numI at h;split at h
 .rename_i m n h1 h2
  obtain ⟨z,hz,rfl⟩:=Option.map_eq_some_iff.1 h;refine xM (u:=.int .i64 z) (by cases isZ p&&isZ q<;>rfl) rfl fun ho hE=>?_;have e1:=uh hE hx (YW h1);have e2:=uh hE hy (YW h2);cases op<;>first|(cases hz;done)|skip
  .cases hz;simp [execOp,ho,eqGuard,binOp,e1,e2,Op.intArith,Md.JX]
  .cases hz;simp [execOp,ho,eqGuard,binOp,e1,e2,Op.intArith,Md.JX]
  .cases hz;simp [execOp,ho,eqGuard,binOp,e1,e2,Op.intArith,Md.JX]
  .cases hz;exact UK ho e1 e2 (by simp) (Md.zj5 m n)
  .cases hz;exact UK ho e1 e2 (by simp) (Md.zmk m n)
  .cases hz;exact UK ho e1 e2 (by simp) (Md.zj9 m n)
 .cases h
theorem zmt {op:BinOp} {p q v:XV} (hx:E x=.one p) (hy:E y=.one q) (h:numW op p q=some v):Says P E H (.binOp op xT x y yT) v.x:=by
 unfold numW at h;split at h
 .rename_i m n h1 h2
  split at h<;>first|(cases h;done)|skip
  all_goals
   cases h;refine xM rfl rfl fun ho hE=>?_;have e1:=uh hE hx (zby h1);have e2:=uh hE hy (zby h2)
  .simp [execOp,ho,eqGuard,binOp,e1,e2,Op.intArith,Md.zlK,-UInt64.toNat_add]
  .simp [execOp,ho,eqGuard,binOp,e1,e2,Op.intArith,Md.zmY]
  .exact UK ho e1 e2 (by simp) (Md.zlN m n)
  .exact UK ho e1 e2 (by simp) (Md.zn0 m n)
  .exact UK ho e1 e2 (by simp) (Md.znc m n)
 .split at h
  .rename_i m n h1 h2
   split at h<;>first|(cases h;done)|skip
   all_goals
    cases h;refine xM rfl rfl fun ho hE=>?_;have e1:=uh hE hx (zhq h1);have e2:=uh hE hy (zhq h2)
   .simp [execOp,ho,eqGuard,binOp,e1,e2,Op.intArith,Md.zog]
   .exact UK ho e1 e2 (by simp) (Md.znp m n)
   .exact UK ho e1 e2 (by simp) (Md.zoM m n)
  .cases h
theorem zhw {op:BinOp} {a b:List UInt8} {v:XV} (hx:E x=.one (.s a)) (hy:E y=.one (.s b)) (h:zhv op a b=some v):Says P E H (.binOp op xT x y yT) v.x:=by
 unfold zhv at h;have hb:(a==b)=decide (a=b):=by rw [Bool.eq_iff_iff];simp
 split at h<;>first|(cases h;done)|skip
 all_goals
  cases h;refine xM rfl rfl fun ho hE=>?_;have e1:=uh hE hx rfl;have e2:=uh hE hy rfl;simp [execOp,ho,eqGuard,binOp,e1,e2,Op.stringOp,zfg,hb]
theorem run_equal_bool {d:Nat} {p q:Bool} {w:World} (hT:P.underlying xT=some .bool):(Op.equalIn (d+1) xT (.bool p) (.bool q)).run P w=.ok (p==q) w:=by
 simp [Op.equalIn,run_underlying hT]
theorem zgy {op:BinOp} {p q:XV} {a b r:Bool} (hx:E x=.one p) (hy:E y=.one q) (h1:Qe p=some a) (h2:Qe q=some b) (hT:P.underlying xT=some .bool) (h:zeH op a b=some r):Says P E H (.binOp op xT x y yT) (XV.b r).x:=by
 unfold zeH at h;split at h<;>first|(cases h;done)|skip
 all_goals
  cases h;refine xM rfl rfl fun {κ a' o'} ho hE=>?_;have e1:=uh hE hx (Ut h1);have e2:=uh hE hy (Ut h2);have h:(Op.equal xT (.bool a) (.bool b)).run P κ.w=.ok (a==b) κ.w:=run_equal_bool (d:=9999) hT;simp [execOp,ho,eqGuard,binOp,e1,e2,h]
theorem zgb {op:BinOp} {p q v:XV} {n:Nat} (hx:E x=.one p) (hy:E y=.one q) (hq:∃k,plain q=some (.val (.int k (n:Int)))) (h:shX op p n=some v):Says P E H (.binOp op xT x y yT) v.x:=by
 obtain ⟨k',hq⟩:=hq;have h0:¬((n:Int)<0):=by omega
 unfold shX at h;split at h
 .split at h
  .rename_i m h1
   cases h;refine xM rfl rfl fun ho hE=>?_;have e1:=uh hE hx (zby h1);have e2:=uh hE hy hq;have:=Md.zmS m (m:=(n:Int)) (n:=n) rfl;simp [execOp,ho,eqGuard,binOp,e1,e2,Op.shift,h0];simpa using this
  .obtain ⟨m,h1,rfl⟩:=Option.map_eq_some_iff.1 h
   refine xM (u:=.int .i64 (Md.ishl m n)) (by cases isZ p<;>rfl) rfl fun ho hE=>?_;have e1:=uh hE hx (YW h1);have e2:=uh hE hy hq;have:=Md.JX (m*2^(min n IntKind.i64.bits));simp [execOp,ho,eqGuard,binOp,e1,e2,Op.shift,h0];exact this
 .split at h
  .rename_i m h1
   cases h;refine xM rfl rfl fun ho hE=>?_;have e1:=uh hE hx (zby h1);have e2:=uh hE hy hq;have:=Md.zmT m (m:=(n:Int)) (n:=n) rfl;simp [execOp,ho,eqGuard,binOp,e1,e2,Op.shift,h0];simpa using this
  .obtain ⟨m,h1,rfl⟩:=Option.map_eq_some_iff.1 h
   refine xM (u:=.int .i64 (Md.ishr m n)) (by cases isZ p<;>rfl) rfl fun ho hE=>?_;have e1:=uh hE hx (YW h1);have e2:=uh hE hy hq;simp [execOp,ho,eqGuard,binOp,e1,e2,Op.shift,h0];rfl
 .cases h
end
end G
end Go.Proofs.YtbijabmjbgplbaaGreatDoor
namespace Go.Proofs.YtbijabmjbgplbaaGreatDoor
open Go.ChangeShapes Go.WideShapes Go.RowKit
namespace G
def aggD:TypeDesc->Bool
 | .struct _=>true
 | .array _ _=>true
 | _=>false
def varOf (P:Program) (t:TypeId):Option (Bool×Nat) :=
 match P.underlying t,P.info? t with
 | some d,some i=>some (aggD d,i.size)
 | _,_=>none
class TVar (P:Program) (t:TypeId) (agg:outParam Bool) (n:outParam Nat):Prop where
 h:varOf P t=some (agg,n)
def zih (P:Program) (t:TypeId) (f:Nat):Option (Nat×Nat×Bool) :=
 match P.underlying t with
 | some (.struct fs) =>
  match fs[f]? with
  | some fd=>(varOf P fd.type).map fun (b,n)=>(fd.offset,n,b)
  | none=>none
 | _=>none
class TFld (P:Program) (t:TypeId) (f:Nat) (off n:outParam Nat) (agg:outParam Bool):Prop where
 h:zih P t f=some (off,n,agg)
def slOf (P:Program) (t:TypeId):Option (TypeId×Nat×Nat) :=
 match P.underlying t with
 | some (.slice e) =>
  match P.info? e with
  | some i =>
   match i.zero with
   | some z=>if z.cells.size=i.size/\0<i.size then some (e,i.size,i.bytes) else none
   | none=>none
  | none=>none
 | _=>none
class TSl (P:Program) (t:TypeId) (e sz bytes:outParam Nat):Prop where
 h:slOf P t=some (e,sz,bytes)
def zhp (P:Program) (t:TypeId):Option (Nat×TypeId×Nat×Bool) :=
 match P.underlying t with
 | some (.array n e)=>(varOf P e).map fun (b,k)=>(n,e,k,b)
 | _=>none
class TArr (P:Program) (t:TypeId) (len e sz:outParam Nat) (agg:outParam Bool):Prop where
 h:zhp P t=some (len,e,sz,agg)
class TStr (P:Program) (t:TypeId):Prop where
 h:P.underlying t=some .string
class zaH (P:Program) (t:TypeId) (z:outParam Value):Prop where
 h:(P.info? t).bind (·.zero)=some z
section
variable {P:Program} {t e:TypeId} {agg:Bool} {n sz len bytes off f:Nat}
theorem TVar.parts [k:TVar P t agg n]:∃d i,P.underlying t=some d/\aggD d=agg/\P.info? t=some i/\i.size=n:=by
 have h:=k.h;unfold varOf at h;split at h
 .rename_i d i hd hi
  simp only [Option.some.injEq,Prod.mk.injEq] at h;exact ⟨d,i,hd,h.1,hi,h.2⟩
 .cases h
theorem XP [TVar P t agg n] (w:World):(isAgg t).run P w=.ok agg w:=by
 obtain ⟨d,i,h1,h2,_⟩:=TVar.parts (P:=P) (t:=t) (agg:=agg) (n:=n);subst h2;cases d<;>simp [isAgg,run_underlying h1,aggD]
theorem jl [TVar P t agg n] (w:World):(sizeOf t).run P w=.ok n w:=by
 obtain ⟨d,i,_,_,h1,h2⟩:=TVar.parts (P:=P) (t:=t) (agg:=agg) (n:=n);simp [sizeOf,typeInfo,h1,h2]
theorem TFld.parts [k:TFld P t f off n agg]:∃fs fd,P.underlying t=some (.struct fs)/\fs[f]?=some fd/\fd.offset=off/\TVar P fd.type agg n:=by
 have h:=k.h;unfold zih at h;split at h
 .rename_i fs hs
  split at h
  .rename_i fd hf
   cases hv:varOf P fd.type with
   | none=>rw [hv] at h;cases h
   | some p =>
    rw [hv] at h;simp only [Option.map_some,Option.some.injEq,Prod.mk.injEq] at h;obtain ⟨h1,h2,h3⟩:=h;exact ⟨fs,fd,hs,hf,h1,⟨by rw [hv,<-h2,<-h3]⟩⟩
  .cases h
 .cases h
theorem TSl.elem [k:TSl P t e sz bytes]:Kit.Elem P t e sz bytes:=by
 have h:=k.h;unfold slOf at h;split at h
 .rename_i e' hs
  split at h
  .rename_i i hi
   split at h
   .rename_i z hz
    split at h
    .rename_i hc
     simp only [Option.some.injEq,Prod.mk.injEq] at h;obtain ⟨rfl,rfl,rfl⟩:=h;exact ⟨hs,⟨i,z,hi,hz,rfl,rfl,hc.1⟩,hc.2⟩
    .cases h
   .cases h
  .cases h
 .cases h
theorem TSl.jl [TSl P t e sz bytes] (w:World):(sizeOf e).run P w=.ok sz w:=by
 obtain ⟨i,z,h1,_,h2,_⟩:=(TSl.elem (P:=P) (t:=t) (e:=e) (sz:=sz) (bytes:=bytes)).info;simp [sizeOf,typeInfo,h1,h2]
theorem TArr.parts [k:TArr P t len e sz agg]:P.underlying t=some (.array len e)/\TVar P e agg sz:=by
 have h:=k.h;unfold zhp at h;split at h
 .rename_i n' e' hs
  cases hv:varOf P e' with
  | none=>rw [hv] at h;cases h
  | some p =>
   rw [hv] at h;simp only [Option.map_some,Option.some.injEq,Prod.mk.injEq] at h;obtain ⟨rfl,rfl,h2,h3⟩:=h;exact ⟨hs,⟨by rw [hv,<-h2,<-h3]⟩⟩
 .cases h
theorem zaH.run {z:Value} [k:zaH P t z] (w:World):(zeroValue t).run P w=.ok z w:=by
 have h:=k.h;cases hi:P.info? t with
 | none=>rw [hi] at h;cases h
 | some i =>
  rw [hi] at h;have hz:i.zero=some z:=h;simp [zeroValue,typeInfo,hi,hz]
end
section
variable {P:Program} {t e:TypeId} {agg:Bool} {n sz len bytes off f:Nat}
def Qz (w:World) (v:Value) (vs:List Value):Prop:=∃b off,v=.pointer (some ⟨b,off,none⟩)/\∀j u,vs[j]?=some u->w.cell? ⟨b,off+j,none⟩=some u
theorem zah (b off j:Nat):(⟨b,off,none⟩:Addr).add j=⟨b,off+j,none⟩:=by unfold Addr.add;split<;>simp_all
theorem KF {w:World} {v:Value} {vs:List Value} {agg:Bool} [TVar P t agg n] (h:Qz w v vs) (hn:vs.length=n) (h1:agg=false->∃u,vs=[u]) :
  ∃u,(Instr.loadAt t v).run P w=.ok u w/\(agg=true->u=.agg vs.toArray)/\(agg=false->vs=[u]):=by
 obtain ⟨b,off,rfl,hc⟩:=h;cases agg with
 | true =>
  subst hn;refine ⟨.agg vs.toArray,?_,fun _=>rfl,fun e=>by cases e⟩;have hl:=run_loadCells_list (P:=P) w ⟨b,off,none⟩ vs (fun j v hv=>by rw [zah];exact hc j v hv);simp [Instr.loadAt,Instr.sureAddr,loadVar,XP (P:=P) (t:=t) (agg:=true) (n:=vs.length),jl (P:=P) (t:=t) (agg:=true) (n:=vs.length),hl]
 | false =>
  obtain ⟨u,rfl⟩:=h1 rfl;refine ⟨u,?_,fun e=>by (cases e),fun _=>rfl⟩;have h0:=hc 0 u rfl;simp only [Nat.add_zero] at h0;simp [Instr.loadAt,Instr.sureAddr,loadVar,XP (P:=P) (t:=t) (agg:=false) (n:=n),h0]
theorem Qz.take {w:World} {v:Value} {vs:List Value} (h:Qz w v vs) (k:Nat):Qz w v (vs.take k):=by
 obtain ⟨b,off,e,hc⟩:=h;exact ⟨b,off,e,fun j u hu=>hc j u (by rw [List.getElem?_take] at hu;split at hu<;>simp_all)⟩
end
theorem zb3 {P:Program} {t:TypeId} {f o n b off:Nat} {agg:Bool} {v:Value} (h:zih P t f=some (o,n,agg)) (h0:Nat.blt 0 n=true) (w:World) (hv:v=.pointer (some ⟨b,off,none⟩)):(Instr.fieldAt t v f).run P w=.ok (.pointer (some ⟨b,off+o,none⟩)) w:=by
 have hF:TFld P t f o n agg:=⟨h⟩;obtain ⟨fs,fd,h1,h2,h3,h4⟩:=TFld.parts (P:=P) (t:=t) (f:=f) (off:=o) (n:=n) (agg:=agg);subst hv;have hn:¬n=0:=by have:=Nat.le_of_ble_eq_true h0;omega
 simp [Instr.fieldAt,run_underlying h1,h2,Instr.sureAddr,fieldPlace,jl (P:=P) (t:=fd.type) (agg:=agg) (n:=n),hn,zah,h3]
def xv1:(c:EC)->T c->XV
 | .int,x=>.i .i64 x
 | .bool,x=>.b x
 | .u8,x=>.w8 x
 | .u16,x=>.w16 x
 | .u32,x=>.w32 x
 | .u64,x=>.w64 x
 | .str,x=>.s x
 | .err,x=>.e x
 | .st _,_=>.any
 | .sl c,x=>.ls c x
 | .pt c,x=>.pt c x
 | .mp k v,x=>.mp k v x
def zco:(l:List EC)->LT l->List XV
 | [],_=>[]
 | [c],x=>[xv1 c x]
 | c::d::r,x=>xv1 c x.1::zco (d::r) x.2
def cells:(c:EC)->T c->List XV
 | .st s,x=>zco (leaves s) (stTo s x)
 | .int,x=>[.i .i64 x]
 | .bool,x=>[.b x]
 | .u8,x=>[.w8 x]
 | .u16,x=>[.w16 x]
 | .u32,x=>[.w32 x]
 | .u64,x=>[.w64 x]
 | .str,x=>[.s x]
 | .err,x=>[.e x]
 | .sl c,x=>[.ls c x]
 | .pt c,x=>[.pt c x]
 | .mp k v,x=>[.mp k v x]
theorem qY (c:EC) (x:T c):KE (cells c x)=some (cv c x):=by
 cases c with
 | st s=>cases s<;>rfl
 | _=>rfl
theorem zbX:∀{cs:List XV} {fs:List FV} (k:Nat),KE cs=some fs->KE (cs.drop k)=some (fs.drop k)
 | cs,fs,0,h=>h
 | [],fs,k+1,h=>by cases h;rfl
 | d::cs,fs,k+1,h=>by
  unfold KE at h;split at h
  .rename_i f fs' h1 h2;cases h;exact zbX k h2
  .cases h
theorem ziW {κ:Kn} {c:EC} {x:T c} {v:Value}:RepX κ (.pt c x) v↔RepX κ (.cp (cells c x)) v :=
 ⟨fun h=>⟨_,qY c x,h⟩,fun ⟨fs,h1,h2⟩=>by rw [qY] at h1;cases h1;exact h2⟩
theorem uo {κ:Kn}:∀{cs:List XV} {fs:List FV} {vs:List Value},KE cs=some fs->(All2 (RepX κ) cs vs↔All2 (RepF κ.R κ.w) fs vs)
 | [],fs,vs,h=>by cases h;exact ⟨fun h=>by cases h;exact .nil,fun h=>by cases h;exact .nil⟩
 | c::cs,fs,vs,h=>by
  unfold KE at h;split at h
  .rename_i f fs' h1 h2
   cases h;refine ⟨fun h=>?_,fun h=>?_⟩
   .cases h with|cons a t=>exact .cons ((vU h1).1 a) ((uo h2).1 t)
   .cases h with|cons a t=>exact .cons ((vU h1).2 a) ((uo h2).2 t)
  .cases h
def zf3:(c:EC)->XV->Option (T c)
 | .int,v=>int64 v
 | .bool,v=>Qe v
 | .u8,v=>asW8 v
 | .u64,v=>zeG v
 | .str,.s l=>some l
 | .err,.e b=>some b
 | .err,.v .nilIface=>some false
 | .sl c,.ls c' l=>if h:c'=c then some (h▸l) else none
 | .sl c,.fl c' l=>if h:c'=c then some (h▸l) else none
 | .sl _,.nil=>some []
 | .pt c,.pt c' x=>if h:c'=c then some (h▸x) else none
 | .mp k v,.mp k' v' l=>if h:k'=k then (if h2:v'=v then some (h▸h2▸l) else none) else none
 | .mp _ _,.v (.map none)=>some []
 | _,_=>none
theorem zcB {κ:Kn} {c:EC} {v:XV} {x:T c} {u:Value} (h:zf3 c v=some x) (hr:RepX κ v u):RepX κ (xv1 c x) u:=by
 unfold zf3 at h;split at h
 .exact (vU (x:=.i .i64 x) rfl).2 ((vU (YW h)).1 hr)
 .exact (vU (x:=.b x) rfl).2 ((vU (Ut h)).1 hr)
 .exact (vU (x:=.w8 x) rfl).2 ((vU (zhq h)).1 hr)
 .exact (vU (x:=.w64 x) rfl).2 ((vU (zby h)).1 hr)
 .cases h;exact hr
 .cases h;exact hr
 .cases h;cases hr;exact RepF.errn
 .split at h
  .rename_i e;subst e;cases h;exact hr
  .cases h
 .split at h
  .rename_i e;subst e;cases h;exact (FLe.full _ _).rep hr
  .cases h
 .cases h;exact (FLe.nil _).rep hr
 .split at h
  .rename_i e;subst e;cases h;exact hr
  .cases h
 .split at h
  .rename_i e
   split at h
   .rename_i e2;subst e e2;cases h;exact hr
   .cases h
  .cases h
 .cases h;cases hr;exact RepF.mpn
 .cases h
def mkg (p:(c:EC)->XV->Option (T c)):(l:List EC)->List XV->Option (LT l)
 | [],[]=>some ()
 | [c],[v]=>p c v
 | c::d::r,v::vs =>
  match p c v with
  | some x=>match mkg p (d::r) vs with
   | some y=>some (x,y)
   | none=>none
  | none=>none
 | _,_=>none
theorem ze2 {κ:Kn} {p:(c:EC)->XV->Option (T c)} (hp:∀{c:EC} {v:XV} {x:T c} {u:Value},p c v=some x->RepX κ v u->RepX κ (xv1 c x) u):∀(l:List EC) {vs:List XV} {x:LT l} {us:List Value},mkg p l vs=some x->All2 (RepX κ) vs us->All2 (RepX κ) (zco l x) us
 | [],vs,x,us,h,hr=>by
  cases vs with
  | nil=>cases hr;exact .nil
  | cons _ _=>cases h
 | [c],vs,x,us,h,hr=>by
  cases vs with
  | nil=>cases h
  | cons v vs=>cases vs with
   | nil=>cases hr with|cons a t=>cases t;exact .cons (hp h a) .nil
   | cons _ _=>cases h
 | c::d::r,vs,x,us,h,hr=>by
  cases vs with
  | nil=>cases h
  | cons v vs =>
   unfold mkg at h;split at h
   .rename_i y hy
    split at h
    .rename_i z hz
     cases h;cases hr with|cons a t=>exact .cons (hp hy a) (ze2 hp (d::r) hz t)
    .cases h
   .cases h
theorem RepF.Uu {R:Nat->Prop} {w:World} {fs:List FV} {v:Value} (h:RepF R w (.cptr fs) v):∃(b off:Nat) (vals:Nat->Value),v=.pointer (some ⟨b,off,none⟩)/\R b/\b<w.heap.size /\
  (∀j c,fs[j]?=some c->w.cell? ⟨b,off+j,none⟩=some (vals j))/\∀j c,fs[j]?=some c->RepF R w c (vals j):=by
 cases h with|cptr _ b off vals hR hb hc hr=>exact ⟨b,off,vals,rfl,hR,hb,hc,hr⟩
theorem zfx {R:Nat->Prop} {w:World} {fs:List FV} {b off:Nat} {vals:Nat->Value} (hc:∀j c,fs[j]?=some c->w.cell? ⟨b,off+j,none⟩=some (vals j)) (hr:∀j c,fs[j]?=some c->RepF R w c (vals j)) :
  Qz w (.pointer (some ⟨b,off,none⟩)) ((List.range fs.length).map vals)/\All2 (RepF R w) fs ((List.range fs.length).map vals):=by
 have key:∀j,j<fs.length->((List.range fs.length).map vals)[j]?=some (vals j):=fun j hj=>by simp [hj]
 refine ⟨⟨b,off,rfl,fun j u hu=>?_⟩,All2.of (by simp) fun j c u hj hu=>?_⟩
 .have hlt:j<fs.length:=by
   obtain ⟨h,_⟩:=List.getElem?_eq_some_iff.1 hu;simpa using h
  rw [key j hlt] at hu;cases hu;exact hc j _ (List.getElem?_eq_getElem hlt)
 .have hlt:j<fs.length:=(List.getElem?_eq_some_iff.1 hj).1
  rw [key j hlt] at hu;cases hu;exact hr j c hj
def JM (c:EC) (v:XV):Option (T c) :=
 match zf3 c v with
 | some x=>some x
 | none=>match c,v with
  | .pt (.st s),.cp cs=>(mkg zf3 (leaves s) cs).map (stOf s)
  | _,_=>none
theorem VF {κ:Kn} {c:EC} {v:XV} {x:T c} {u:Value} (h:JM c v=some x) (hr:RepX κ v u):RepX κ (xv1 c x) u:=by
 unfold JM at h;split at h
 .rename_i y hy;cases h;exact zcB hy hr
 .split at h
  .rename_i s cs _ _
   obtain ⟨y,hy,rfl⟩:=Option.map_eq_some_iff.1 h;have key:RepX κ (.cp (cells (.st s) (stOf s y))) u:=by
    obtain ⟨fs,h1,h2⟩:=hr;obtain ⟨b,off,vals,e,hR,hb,hc,hrr⟩:=h2.Uu;obtain ⟨h3,h4⟩:=zfx hc hrr;have h5:All2 (RepX κ) (cells (.st s) (stOf s y)) ((List.range fs.length).map vals):=by
     show All2 (RepX κ) (zco (leaves s) (stTo s (stOf s y))) _;rw [zge];exact ze2 zcB _ hy ((uo h1).2 h4)
    have h6:=(uo (qY (.st s) _)).1 h5;refine ⟨cv (.st s) (stOf s y),qY (.st s) _,?_⟩;rw [e];have hl:(cv (.st s) (stOf s y)).length=fs.length:=by rw [h6.length];simp
    refine .cptr _ b off vals hR hb (fun j f hj=>?_) fun j f hj=>?_
    .have hj':j<fs.length:=by rw [<-hl];exact (List.getElem?_eq_some_iff.1 hj).1
     exact hc j _ (List.getElem?_eq_getElem hj')
    .have hj':j<fs.length:=by rw [<-hl];exact (List.getElem?_eq_some_iff.1 hj).1
     obtain ⟨u,h7,h8⟩:=h6.get hj;rw [List.getElem?_map,List.getElem?_range hj'] at h7;cases h7;exact h8
   exact ziW.2 key
  .cases h
abbrev mkL:=mkg JM
theorem zmp {κ:Kn} (l:List EC) {vs:List XV} {x:LT l} {us:List Value} (h:mkL l vs=some x) (hr:All2 (RepX κ) vs us):All2 (RepX κ) (zco l x) us:=ze2 VF l h hr
def mk:(c:EC)->List XV->Option (T c)
 | .st s,vs=>(mkL (leaves s) vs).map (stOf s)
 | c,[v]=>JM c v
 | _,_=>none
theorem znv (c:EC) (x:T c) (h:∀s,c≠.st s):cells c x=[xv1 c x]:=by cases c<;>first|rfl|exact absurd rfl (h _)
theorem zbS {κ:Kn} {c:EC} {vs:List XV} {x:T c} {us:List Value} (h:mk c vs=some x) (hr:All2 (RepX κ) vs us):All2 (RepX κ) (cells c x) us:=by
 have one:(∀s,c≠.st s)->(∃v,vs=[v]/\JM c v=some x)->All2 (RepX κ) (cells c x) us:=fun hc ⟨v,e,h'⟩=>by
  subst e;rw [znv _ _ hc];cases hr with|cons a t=>cases t;exact .cons (VF (by first|exact h'|exact h) a) .nil
 cases c with
 | st s =>
  obtain ⟨y,hy,rfl⟩:=Option.map_eq_some_iff.1 (show (mkL (leaves s) vs).map (stOf s)=some x from h);show All2 (RepX κ) (zco (leaves s) (stTo s (stOf s y))) us;rw [zge];exact zmp _ hy hr
 | _ =>
  refine one nofun ?_
  match vs,h with
  | [v],h=>exact ⟨v,rfl,h⟩
def rs (H:Nat->Option XB):XV->XV
 | .own id=>match H id with
  | some (.fz x)=>x
  | _=>.own id
 | .m id=>match H id with
  | some (.fz x)=>x
  | _=>.m id
 | .p id off=>match H id with
  | some (.fz (.cp cs))=>.cp (cs.drop off)
  | some (.fz (.pt c x))=>match off with
   | 0=>.pt c x
   | off+1=>.cp ((cells c x).drop (off+1))
  | _=>.p id off
 | .vw id sz lo=>match H id with
  | some (.fz (.ls c l))=>bif Nat.beq sz (szC c) then .ls c (l.drop lo) else .vw id sz lo
  | _=>.vw id sz lo
 | x=>x
theorem slice_inj {A A':Option Addr} {n n' c c':Nat} (h:Value.slice A n c=Value.slice A' n' c'):A=A'/\n=n'/\c=c':=by
 injection h with h1 h2 h3;exact ⟨h1,h2,h3⟩
theorem zor {κ:Kn} {id lo:Nat} {c:EC} {l:List (T c)} {v:Value} (h:RepX κ (.vw id (szC c) lo) v) (hl:RepX κ (.ls c l) (κ.ρ id)):RepX κ (.ls c (l.drop lo)) v:=by
 obtain ⟨_,A,n,cap,A',c',rfl,h0,h2,h3,hA0,h4⟩:=h;have hl:RepF κ.R κ.w (.ls (cv c) l) (κ.ρ id):=hl;show RepF κ.R κ.w (.ls (cv c) (l.drop lo)) _;rw [h0] at hl;have hel:∀i,lsEl (cv c) (l.drop lo) i=lsEl (cv c) l (lo+i):=fun i=>by simp [lsEl,List.getD]
 have key:l.length=lo+n->RepF κ.R κ.w (.ls (cv c) (l.drop lo)) (.slice A n cap):=fun hlen=>by
  have hdl:(l.drop lo).length=n:=by simp;omega
  show RepF κ.R κ.w (.slc (l.drop lo).length _) _;rw [hdl];rcases Nat.eq_zero_or_pos n with rfl|hn
  .exact .empty h3 hA0
  .obtain ⟨b,rfl,rfl⟩:=h4 hn
   rcases hl.QV with ⟨h5,_⟩|⟨size,b',off,cap',vals,e,hR,hb,hc,hm,hs,hcell,hrep⟩
   .omega
   .obtain ⟨e1,e2,e3⟩:=slice_inj e
    cases e1;have hsz:size=szC c:=by rw [<-hs 0 (by omega)];exact kH c _
    subst hsz;refine .slc n _ (szC c) b (lo*szC c) cap (fun i j=>vals (lo+i) j) hR hb h2 h3 (fun i hi=>kH c _) (fun i j x hi hx=>?_) fun i j x hi hx=>?_
    .rw [hel] at hx
     have:=hcell (lo+i) j x (by omega) hx;rw [Nat.zero_add,Nat.add_mul,Nat.add_assoc] at this;exact this
    .rw [hel] at hx
     exact hrep (lo+i) j x (by omega) hx
 rcases hl.QV with ⟨h5,_,_,e,_⟩|⟨_,_,_,_,_,e,_⟩
 .obtain ⟨_,e2,_⟩:=slice_inj e;exact key (by omega)
 .obtain ⟨_,e2,_⟩:=slice_inj e;exact key e2.symm
theorem zeN {κ:Kn} {cs:List XV} {b off k:Nat} (h:RepX κ (.cp cs) (.pointer (some ⟨b,off,none⟩))):RepX κ (.cp (cs.drop k)) (.pointer (some ⟨b,off+k,none⟩)):=by
 obtain ⟨fs,h1,h2⟩:=h;obtain ⟨b',off',vals,e,hR,hb,hc,hr⟩:=h2.Uu;cases e;exact ⟨fs.drop k,zbX k h1,.cptr _ b (off+k) (fun j=>vals (k+j)) hR hb (fun j c hj=>by rw [Nat.add_assoc];exact hc _ c (by simpa using hj)) fun j c hj=>hr _ c (by simpa using hj)⟩
theorem zed {κ:Kn} {H:Nat->Option XB} (hH:HOk κ H) {x:XV} {v:Value} (hr:RepX κ x v):RepX κ (rs H x) v:=by
 unfold rs;split
 .split
  .rename_i id y hy;rw [hr.2.1];exact (hH.blk hy).2
  .exact hr
 .split
  .rename_i id y hy;rw [hr.2.1];exact (hH.blk hy).2
  .exact hr
 .rename_i id off
  obtain ⟨hN,b,h1,h2⟩:=hr;subst h2;split
  .rename_i cs hy
   have h3:RepX κ (.cp cs) (κ.ρ id):=(hH.blk hy).2;rw [h1] at h3;simpa using zeN (k:=off) h3
  .rename_i c x hy
   have h3:RepX κ (.pt c x) (κ.ρ id):=(hH.blk hy).2;rw [h1] at h3;cases off with
   | zero=>exact h3
   | succ off=>simpa using zeN (k:=off+1) (ziW.1 h3)
  .exact ⟨hN,b,h1,rfl⟩
 .rename_i id sz lo
  split
  .rename_i c l hy
   cases hc:Nat.beq sz (szC c)
   .exact hr
   .rw [cond_true]
    have e:=Nat.eq_of_beq_eq_true hc;subst e;exact zor hr (hH.blk hy).2
  .exact hr
 .exact hr
def rs1 (H:Nat->Option XB):X1->X1
 | .one x=>.one (rs H x)
 | .ag cs=>.ag (cs.map (rs H))
def rsA (H:Nat->Option XB):XA->XA
 | .one x=>.one (rs H x)
 | .ag cs=>.ag (cs.map (rs H))
 | .tu l=>.tu (l.map (rs1 H))
theorem zb1 {κ:Kn} {H:Nat->Option XB} (hH:HOk κ H):∀{cs:List XV} {vs:List Value},All2 (RepX κ) cs vs->All2 (RepX κ) (cs.map (rs H)) vs
 | _,_,.nil=>.nil
 | _,_,.cons a t=>.cons (zed hH a) (zb1 hH t)
theorem zde {κ:Kn} {H:Nat->Option XB} (hH:HOk κ H) {x:XA} {v:Value} (hr:RepA κ x v):RepA κ (rsA H x) v:=by
 cases x with
 | one x=>exact zed hH hr
 | ag cs=>obtain ⟨vs,e,h⟩:=hr;exact ⟨vs,e,zb1 hH h⟩
 | tu l =>
  obtain ⟨vs,e,h⟩:=hr;refine ⟨vs,e,?_⟩;clear e
  induction h with
  | nil=>exact .nil
  | @cons a v l vs ha _ ih =>
   refine .cons ?_ ih;cases a with
   | one x=>exact zed hH ha
   | ag cs=>obtain ⟨us,e,h⟩:=ha;exact ⟨us,e,zb1 hH h⟩
def XA.known:XA->Bool
 | .one .any=>false
 | _=>true
def kn (a:XA):Option XA:=bif a.known then some a else none
theorem kn_s {a r:XA} (h:kn a=some r):r=a:=by
 unfold kn at h;cases hk:a.known<;>rw [hk] at h<;>cases h;rfl
def asCp:XV->Option (List XV)
 | .cp cs=>some cs
 | .pt c x=>some (cells c x)
 | _=>none
theorem zcN {κ:Kn} {x:XV} {cs:List XV} {v:Value} (h:asCp x=some cs) (hr:RepX κ x v):RepX κ (.cp cs) v:=by
 unfold asCp at h;split at h<;>first|(cases h;done)|cases h
 .exact hr
 .exact ziW.1 hr
section
variable {P:Program} {E:Operand->XA} {H:Nat->Option XB} {x y:Operand} {r:XA} {t xT yT:TypeId}
theorem hE1 {κ:Kn} {a:Act} {E:Operand->XA} (hE:∀x,RepA κ (E x) (a.eval x)) {x:Operand} {p:XV} (h:E x=.one p):RepX κ p (a.eval x):=by have:=hE x;rw [h] at this;exact this
theorem hEa {κ:Kn} {a:Act} {E:Operand->XA} (hE:∀x,RepA κ (E x) (a.eval x)) {x:Operand} {cs:List XV} (h:E x=.ag cs):∃vs:List Value,a.eval x=.agg vs.toArray/\All2 (RepX κ) cs vs:=by have:=hE x;rw [h] at this;exact this
def zmA (E:Operand->XA) (x:Operand):Option XA:=kn (E x)
theorem zf2 {o:Op} (ho:o=.move x\/o=.assign x) (h:zmA E x=some r):Says P E H o r.x:=by
 cases kn_s h;refine yS fun {κ a o'} ho' hE hH=>⟨a.eval x,?_,hE x⟩;rcases ho with rfl|rfl<;>simp [execOp,ho']
def zmD (E:Operand->XA) (c x y:Operand):Option XA :=
 match E c with
 | .one (.bl true)=>kn (E x)
 | .one (.bl false)=>kn (E y)
 | _=>none
theorem zkz {c:Operand} (h:zmD E c x y=some r):Says P E H (.pick c x y) r.x:=by
 unfold zmD at h;split at h
 .rename_i hc
  cases kn_s h;exact yS fun {κ a o'} ho hE hH=>⟨a.eval x,by simp [execOp,ho,asBool,uh hE hc rfl],hE x⟩
 .rename_i hc
  cases kn_s h;exact yS fun {κ a o'} ho hE hH=>⟨a.eval y,by simp [execOp,ho,asBool,uh hE hc rfl],hE y⟩
 .cases h
def pUn (E:Operand->XA) (op:UnOp) (x:Operand):Option XA :=
 match op,E x with
 | .not,.one (.b b)=>some (.one (.b (!b)))
 | .not,.one (.bl b)=>some (.one (.bl (!b)))
 | .neg,.one p=>(int64 p).map fun n=>.one (bif isZ p then .z .i64 (Md.W (-n)) else .i .i64 (Md.W (-n)))
 | _,_=>none
theorem zn1 {op:UnOp} (h:pUn E op x=some r):Says P E H (.unOp op xT x) r.x:=by
 unfold pUn at h;split at h
 .rename_i b hx;cases h
  exact xM rfl rfl fun ho hE=>by simp [execOp,ho,Op.unary,uh hE hx rfl]
 .rename_i b hx;cases h
  exact xM rfl rfl fun ho hE=>by simp [execOp,ho,Op.unary,uh hE hx rfl]
 .rename_i p hx
  obtain ⟨n,hn,rfl⟩:=Option.map_eq_some_iff.1 h;refine xM (u:=.int .i64 (Md.W (-n))) (by cases isZ p<;>rfl) rfl fun ho hE=>?_;have h0:(0:Int) - n=-n:=by omega
  simp [execOp,ho,Op.unary,uh hE hx (YW hn),Op.intArith,h0,Md.JX]
 .cases h
def zmw (P:Program) (E:Operand->XA) (xT yT:TypeId) (x:Operand):Option XA :=
 match P.underlying yT,P.underlying xT,E x with
 | some (.int .u64),some _,.one p=>match p with
  | .w64 a=>some (.one (.w64 a))
  | .w8 a=>some (.one (.w64 a.toUInt64))
  | .n a=>some (.one (.w64 (.ofNat a)))
  | .i .i64 a=>some (.one (.w64 (.ofInt a)))
  | .z .i64 a=>some (.one (.w64 (.ofInt a)))
  | _=>none
 | some (.int .u8),some _,.one p=>match p with
  | .w64 a=>some (.one (.w8 a.toUInt8))
  | .w8 a=>some (.one (.w8 a))
  | .n a=>some (.one (.w8 (.ofNat a)))
  | .i .i64 a=>some (.one (.w8 (.ofInt a)))
  | .z .i64 a=>some (.one (.w8 (.ofInt a)))
  | _=>none
 | some (.int .i64),some _,.one p=>match p with
  | .w64 a=>some (.one (.i .i64 (Md.W (a.toNat:Int))))
  | .w8 a=>some (.one (.n a.toNat))
  | .i .i64 a=>some (.one (.i .i64 (Md.W a)))
  | _=>none
 | _,_,_=>none
theorem zkv (h:zmw P E xT yT x=some r):Says P E H (.convert xT yT x) r.x:=by
 have key:∀{k k':IntKind} {dd:TypeDesc} {p q:XV} {n m:Int},P.underlying yT=some (.int k')->P.underlying xT=some dd->E x=.one p->plain p=some (.val (.int k n))->plain q=some (.val (.int k' m))->k'.wrap n=m->Says P E H (.convert xT yT x) q.x:=by
  intro k k' dd p q n m hT hS hx hp hq hw;exact xM hq rfl fun ho hE=>by simp [execOp,ho,convert,run_underlying hS,run_underlying hT,uh hE hx hp,Conv.intToInt,hw]
 unfold zmw at h;split at h
 .rename_i dd p hT hS hx
  split at h<;>first|(cases h;done)|cases h
  .exact key hT hS hx rfl rfl (Md.zkE _)
  .exact key hT hS hx rfl rfl (Md.zeM _)
  .exact key hT hS hx rfl rfl (Md.ziI _)
  .exact key hT hS hx rfl rfl (Md.ofInt_u64 _)
  .exact key hT hS hx rfl rfl (Md.ofInt_u64 _)
 .rename_i dd p hT hS hx
  split at h<;>first|(cases h;done)|cases h
  .exact key hT hS hx rfl rfl (Md.zeK _)
  .exact key hT hS hx rfl rfl (Md.zmQ _)
  .exact key hT hS hx rfl rfl (Md.zkt _)
  .exact key hT hS hx rfl rfl (Md.ofInt_u8 _)
  .exact key hT hS hx rfl rfl (Md.ofInt_u8 _)
 .rename_i dd p hT hS hx
  split at h<;>first|(cases h;done)|cases h
  .exact key hT hS hx rfl rfl (Md.JX _)
  .exact key hT hS hx rfl rfl (Md.zeL _)
  .exact key hT hS hx rfl rfl (Md.JX _)
 .cases h
def ziM (P:Program) (E:Operand->XA) (t:TypeId) (x:Operand) (f:Nat):Option XA :=
 match zih P t f with
 | some (o,n,agg)=>bif Nat.blt 0 n then
   (match E x with
   | .one (.p id off)=>some (.one (.p id (off+o)))
   | .one (.rp id sz j q)=>some (.one (.rp id sz j (q+o)))
   | .one p=>(asCp p).map fun cs=>.one (.cp (cs.drop o))
   | _=>none) else none
 | none=>none
theorem ziN {f:Nat} (h:ziM P E t x f=some r):Says P E H (.fieldAddr t x f) r.x:=by
 unfold ziM at h;split at h
 .rename_i o n agg hf
  cases h0:Nat.blt 0 n
  .rw [h0] at h;cases h
  .rw [h0,cond_true] at h
   split at h
   .rename_i id off hx
    cases h;refine yS fun {κ a o'} ho hE hH=>?_;obtain ⟨h1,b,h2,h3⟩:=hE1 hE hx;exact ⟨.pointer (some ⟨b,off+o,none⟩),by simp [execOp,ho,zb3 hf h0 κ.w h3],h1,b,h2,rfl⟩
   .rename_i id sz j q hx
    cases h;refine yS fun {κ a o'} ho hE hH=>?_;obtain ⟨h1,b,h2,h3⟩:=hE1 hE hx;exact ⟨.pointer (some ⟨b,j*sz+q+o,none⟩),by simp [execOp,ho,zb3 hf h0 κ.w h3],h1,b,h2,by rw [Nat.add_assoc]⟩
   .rename_i p _ _ hx
    obtain ⟨cs,hcs,rfl⟩:=Option.map_eq_some_iff.1 h;refine yS fun {κ a o'} ho hE hH=>?_;have h1:=zcN hcs (hE1 hE hx);have h1':=h1;obtain ⟨fs,h2,h3⟩:=h1';obtain ⟨b,off,vals,e,_⟩:=h3.Uu;rw [e] at h1;exact ⟨_,by simp [execOp,ho,zb3 hf h0 κ.w e],zeN (k:=o) h1⟩
   .cases h
 .cases h
theorem zc3 {κ:Kn} {a:Act} {o':Oper} {agg:Bool} {n:Nat} (ho:o'.op=.load t x) (hT:varOf P t=some (agg,n)) {cs:List XV} {us:List Value} (hc:Qz κ.w (a.eval x) us) (hr:All2 (RepX κ) cs us)
  (hr':(agg=true/\n<=cs.length/\r=.ag (cs.take n))\/(agg=false/\∃c,cs[0]?=some c/\r=.one c)):∃u,(execOp a.eval o').run P κ.w=.ok (.value u) κ.w/\RepA κ r u:=by
 have hlen:=hr.length;rcases hr' with ⟨rfl,hn,rfl⟩|⟨rfl,c,hc0,rfl⟩
 .have:TVar P t true n:=⟨hT⟩
  obtain ⟨u,h4,h5,_⟩:=KF (P:=P) (t:=t) (agg:=true) (n:=n) (hc.take n) (by simp;omega) nofun;exact ⟨u,by simp only [execOp,ho,Sem.run_bind,h4,Result.andThen_ok,Sem.run_pure],us.take n,h5 rfl,hr.take n⟩
 .have:TVar P t false n:=⟨hT⟩
  obtain ⟨u,hu,h1⟩:=hr.get hc0;obtain ⟨b,off,e,hcell⟩:=hc;have h0:=hcell 0 u hu;simp only [Nat.add_zero] at h0;exact ⟨u,by simp [execOp,ho,e,Instr.loadAt,Instr.sureAddr,loadVar,XP (P:=P) (t:=t) (agg:=false) (n:=n),h0],h1⟩
def ze8 (agg:Bool) (n:Nat) (cs:List XV):Option XA :=
 bif agg then (bif Nat.ble n cs.length then some (.ag (cs.take n)) else none) else (cs[0]?).bind fun c=>kn (.one c)
theorem zbY {agg:Bool} {n:Nat} {cs:List XV} (h:ze8 agg n cs=some r):(agg=true/\n<=cs.length/\r=.ag (cs.take n))\/(agg=false/\∃c,cs[0]?=some c/\r=.one c):=by
 unfold ze8 at h;cases agg with
 | true =>
  rw [cond_true] at h;cases hl:Nat.ble n cs.length<;>rw [hl] at h<;>cases h;exact .inl ⟨rfl,Nat.le_of_ble_eq_true hl,rfl⟩
 | false =>
  rw [cond_false] at h;obtain ⟨c,hc,h⟩:=Option.bind_eq_some_iff.1 h;cases kn_s h;exact .inr ⟨rfl,c,hc,rfl⟩
def zmy (P:Program) (E:Operand->XA) (H:Nat->Option XB) (t:TypeId) (x:Operand):Option XA :=
 match varOf P t,E x with
 | some (agg,n),.one (.p id off)=>match H id with
  | some (.box cs)=>ze8 agg n (cs.drop off)
  | _=>none
 | some (agg,n),.one p=>(asCp p).bind (ze8 agg n)
 | _,_=>none
theorem zfz {κ:Kn} {cs:List XV} {v:Value} (h:RepX κ (.cp cs) v):∃us,Qz κ.w v us/\All2 (RepX κ) cs us:=by
 obtain ⟨fs,h1,h2⟩:=h;obtain ⟨b,off,vals,e,_,_,hc,hr⟩:=h2.Uu;obtain ⟨h3,h4⟩:=zfx hc hr;exact ⟨_,by rw [e];exact h3,(uo h1).2 h4⟩
theorem zdG {κ:Kn} (hH:HOk κ H) {id off:Nat} {cs:List XV} {v:Value} (hr:RepX κ (.p id off) v) (hb:H id=some (.box cs)) :
  ∃vs:List Value,Qz κ.w v (vs.drop off)/\All2 (RepX κ) cs vs:=by
 obtain ⟨_,b,h1,h2⟩:=hr;obtain ⟨_,b',vs,ty,h3,h4,h5⟩:=hH.blk hb;rw [h1] at h3;simp only [Value.pointer.injEq,Option.some.injEq,Addr.mk.injEq,and_true] at h3;subst h3;refine ⟨vs.toList,⟨b,off,h2,fun j u hu=>?_⟩,h5⟩;rw [cell_of_row _ b (off+j) vs ty (0,0) h4];simpa using hu
theorem zkw (h:zmy P E H t x=some r):Says P E H (.load t x) r.x:=by
 unfold zmy at h;split at h
 .rename_i agg n id off hT hx
  split at h
  .rename_i cs hb
   refine yS fun {κ a o'} ho hE hH=>?_;obtain ⟨vs,h1,h2⟩:=zdG hH (hE1 hE hx) hb;exact zc3 ho hT h1 (h2.drop off) (zbY h)
  .cases h
 .rename_i agg n p _ hT hx
  obtain ⟨cs,hcs,h⟩:=Option.bind_eq_some_iff.1 h;refine yS fun {κ a o'} ho hE hH=>?_;obtain ⟨us,h1,h2⟩:=zfz (zcN hcs (hE1 hE hx));exact zc3 ho hT h1 h2 (zbY h)
 .cases h
def zdc (E:Operand->XA) (x:Operand) (n:Nat):Option XA :=
 match E x with
 | .tu l=>(l[n]?).bind fun a=>kn a.xa
 | _=>none
theorem ze5 {n:Nat} (h:zdc E x n=some r):Says P E H (.extract x n) r.x:=by
 unfold zdc at h;split at h
 .rename_i l hx
  obtain ⟨c,ha,h⟩:=Option.bind_eq_some_iff.1 h;cases kn_s h;refine yS fun {κ a o'} ho hE hH=>?_;have h1:=hE x;rw [hx] at h1;obtain ⟨us,h1,h2⟩:=h1;obtain ⟨u,h3,h4⟩:=h2.get ha;exact ⟨u,by simp [execOp,ho,Instr.extract,h1,h3],UY.2 h4⟩
 .cases h
def ze6 (P:Program) (E:Operand->XA) (t:TypeId) (x:Operand) (f:Nat):Option XA :=
 match zih P t f,E x with
 | some (o,n,agg),.ag cs=>ze8 agg n (cs.drop o)
 | _,_=>none
def pLen (P:Program) (E:Operand->XA) (H:Nat->Option XB) (x:Operand) (t:TypeId):Option XA :=
 match E x with
 | .one (.s l)=>match P.underlying t with
  | some .string=>some (.one (.n l.length))
  | _=>none
 | .one (.ls c l)=>(slOf P t).map fun _=>.one (.n l.length)
 | .one (.fl c l)=>(slOf P t).map fun _=>.one (.n l.length)
 | .one .nil=>(slOf P t).map fun _=>.one (.z .i64 0)
 | .one (.vw id sz lo)=>match H id with
  | some (.row e c l)=>(slOf P t).map fun _=>.one (.n (l.length - lo))
  | _=>none
 | .one (.own id)=>match H id with
  | some (.row e c l)=>(slOf P t).map fun _=>.one (.n l.length)
  | _=>none
 | _=>none
theorem zfX {κ:Kn} {n:Nat} {el:Nat->List FV} {v:Value} (h:RepF κ.R κ.w (.slc n el) v):∃A c,v=.slice A n c:=by
 rcases h.QV with ⟨rfl,A,c,h1,_⟩|⟨_,_,_,c,_,h1,_⟩
 .exact ⟨A,c,h1⟩
 .exact ⟨_,c,h1⟩
theorem zmu {κ:Kn} (hH:HOk κ H) {id:Nat} {e:TypeId} {c:EC} {l:List (T c)} {v:Value} (hr:RepX κ (.own id) v) (hb:H id=some (.row e c l)):∃A cap,v=.slice A l.length cap/\κ.ρ id=.slice A l.length cap:=by
 obtain ⟨_,vs,h1,_⟩:=hH.blk hb;obtain ⟨A,cap,h2,_⟩:=h1.slice;exact ⟨A,cap,hr.2.1.trans h2,h2⟩
theorem zmx (h:pLen P E H x t=some r):Says P E H (.call { callee:=.builtin .len,args:=#[x],argTypes:=#[t] }) r.x:=by
 have key:∀{n:Nat} {q:XV},plain q=some (.val (.int .i64 (n:Int)))->(∃e,P.underlying t=some (.slice e))->(∀{κ:Kn} {a:Act},(∀x,RepA κ (E x) (a.eval x))->HOk κ H->∃A c,a.eval x=.slice A n c)->Says P E H (.call { callee:=.builtin .len,args:=#[x],argTypes:=#[t] }) q.x:=by
  intro n q hq ⟨e,hT⟩ hv;refine yS fun {κ a o'} ho hE hH=>?_;obtain ⟨A,c,h1⟩:=hv hE hH;exact ⟨.int .i64 (n:Int),by simp [execOp,ho,resolve,invoke,builtin,Builtin.len_,h1,run_underlying hT,goInt],(vU hq).2 (.val _ rfl)⟩
 have hsl:∀{q:TypeId×Nat×Nat},slOf P t=some q->∃e,P.underlying t=some (.slice e):=fun {q} hq=>by
  have:TSl P t q.1 q.2.1 q.2.2:=⟨hq⟩;exact ⟨_,(TSl.elem (P:=P) (t:=t) (e:=q.1) (sz:=q.2.1) (bytes:=q.2.2)).slice⟩
 unfold pLen at h;split at h
 .rename_i l hx
  split at h
  .rename_i hT
   cases h;refine xM (u:=.int .i64 (l.length:Int)) rfl rfl fun ho hE=>?_;simp [execOp,ho,resolve,invoke,builtin,Builtin.len_,uh hE hx rfl,run_underlying hT,goInt];rfl
  .cases h
 .rename_i c l hx
  obtain ⟨q,hq,rfl⟩:=Option.map_eq_some_iff.1 h;exact key rfl (hsl hq) fun hE hH=>zfX (hE1 hE hx)
 .rename_i c l hx
  obtain ⟨q,hq,rfl⟩:=Option.map_eq_some_iff.1 h;exact key rfl (hsl hq) fun hE hH=>zfX ((FLe.full _ _).rep (hE1 hE hx))
 .rename_i hx
  obtain ⟨q,hq,rfl⟩:=Option.map_eq_some_iff.1 h;exact key (n:=0) rfl (hsl hq) fun hE hH=>⟨none,0,uh hE hx rfl⟩
 .rename_i id sz lo hx
  split at h
  .rename_i e c l hb
   obtain ⟨q,hq,rfl⟩:=Option.map_eq_some_iff.1 h;exact key rfl (hsl hq) fun hE hH=>by
    obtain ⟨_,A,n,c,A',c',h1,h2,_⟩:=hE1 hE hx;obtain ⟨_,vs,g1,_⟩:=hH.blk hb;obtain ⟨Ad,cap,g2,_⟩:=g1.slice;rw [h2] at g2;obtain ⟨_,e2,_⟩:=slice_inj g2;rw [h1];exact ⟨A,c,by congr 1;omega⟩
  .cases h
 .rename_i id hx
  split at h
  .rename_i e c l hb
   obtain ⟨q,hq,rfl⟩:=Option.map_eq_some_iff.1 h;exact key rfl (hsl hq) fun hE hH=>by obtain ⟨A,cap,h1,_⟩:=zmu hH (hE1 hE hx) hb;exact ⟨A,cap,h1⟩
  .cases h
 .cases h
def pMin (E:Operand->XA) (mx:Bool) (x y:Operand):Option XA :=
 match E x,E y with
 | .one p,.one q=>match int64 p,int64 q with
  | some m,some n=>some (.one (.i .i64 (bif mx then max m n else min m n)))
  | _,_=>none
 | _,_=>none
theorem ziO {mx:Bool} {ts:Array TypeId} (h:pMin E mx x y=some r):Says P E H (.call { callee:=.builtin (bif mx then .max else .min),args:=#[x,y],argTypes:=ts }) r.x:=by
 unfold pMin at h;split at h
 .rename_i p q hx hy
  split at h
  .rename_i m n h1 h2
   cases h;refine xM rfl rfl fun ho hE=>?_;have e1:=uh hE hx (YW h1);have e2:=uh hE hy (YW h2);cases mx with
   | false =>
    have:(if n<m then n else m)=min m n:=by split<;>omega
    simp [execOp,ho,resolve,invoke,builtin,Builtin.min_,Builtin.min2,e1,e2,this]
   | true =>
    have:(if n>m then n else m)=max m n:=by split<;>omega
    simp [execOp,ho,resolve,invoke,builtin,Builtin.max_,Builtin.max2,e1,e2];split<;>omega
  .cases h
 .cases h
end
end G
end Go.Proofs.YtbijabmjbgplbaaGreatDoor
namespace Go.Proofs.YtbijabmjbgplbaaGreatDoor
open Go.ChangeShapes Go.WideShapes Go.RowKit
namespace G
section
variable {P:Program} {E:Operand->XA} {H:Nat->Option XB} {R:Type} {K:Upd->Option R} {r:R} {m:Option R} {x y:Operand} {t xT yT:TypeId}
def aBin (E:Operand->XA) (op:BinOp) (x y:Operand) (K:Upd->Option R):Option (Option R) :=
 match E x,E y with
 | .one (.s a),.one (.s b)=>match op with
  | .add=>some (Md.ifp (a.length+b.length<=4000000) (K (XV.s (a++b)).x))
  | _=>none
 | .one p,.one q =>
  match op with
  | .add=>match zbf p,zbf q with
   | some a,some b=>bif isZ p&&isZ q then none else some (Md.ifp (a+b<=9223372036854775807) (K (XV.n (a+b)).x))
   | _,_=>none
  | .mul=>match zbf p,zbf q with
   | some a,some b=>bif isZ p&&isZ q then none else some (Md.ifp (a*b<=9223372036854775807) (K (XV.n (a*b)).x))
   | _,_=>none
  | .quo=>match int64 p,int64 q with
   | some a,some b=>some (Md.ifp (b≠0) (K (XV.i .i64 (Md.W (a.tdiv b))).x))
   | _,_=>none
  | .rem=>match int64 p,int64 q with
   | some a,some b=>some (Md.ifp (b≠0) (K (XV.i .i64 (a.tmod b)).x))
   | _,_=>none
  | .shl=>match int64 q with
   | some n=>match shX .shl p n.toNat with
    | some v=>some (Md.ifp (0<=n) (K v.x))
    | none=>none
   | none=>none
  | .shr=>match int64 q with
   | some n=>match shX .shr p n.toNat with
    | some v=>some (Md.ifp (0<=n) (K v.x))
    | none=>none
   | none=>none
  | _=>none
 | _,_=>none
theorem zlC {op:BinOp} (h:aBin E op x y K=some m) (hm:m=some r):∃u,K u=some r/\Says P E H (.binOp op xT x y yT) u:=by
 unfold aBin at h;split at h
 .rename_i a b hx hy
  split at h
  .cases h
   obtain ⟨hg,hK⟩:=Md.Xb hm;refine ⟨_,hK,xM rfl rfl fun {κ a' o'} ho hE=>?_⟩;have e1:=uh hE hx rfl;have e2:=uh hE hy rfl;have h:=run_string_add_sum (P:=P) κ.w ⟨a.toArray⟩ ⟨b.toArray⟩ (by show a.toArray.size+b.toArray.size<=_;simp;omega);rw [Md.zhs] at h;simp [execOp,ho,eqGuard,binOp,e1,e2,h]
  .cases h
 .rename_i p q _ hx hy
  split at h
  .split at h
   .rename_i a b h1 h2
    cases hz:isZ p&&isZ q
    .rw [hz,cond_false] at h
     cases h;obtain ⟨hg,hK⟩:=Md.Xb hm;refine ⟨_,hK,xM rfl rfl fun ho hE=>?_⟩;simp [execOp,ho,eqGuard,binOp,uh hE hx (KR h1),uh hE hy (KR h2),Op.intArith,Md.zmr hg]
    .rw [hz] at h;cases h
   .cases h
  .split at h
   .rename_i a b h1 h2
    cases hz:isZ p&&isZ q
    .rw [hz,cond_false] at h
     cases h;obtain ⟨hg,hK⟩:=Md.Xb hm;refine ⟨_,hK,xM rfl rfl fun ho hE=>?_⟩;simp [execOp,ho,eqGuard,binOp,uh hE hx (KR h1),uh hE hy (KR h2),Op.intArith,Md.zms hg]
    .rw [hz] at h;cases h
   .cases h
  .split at h
   .rename_i a b h1 h2
    cases h;obtain ⟨hg,hK⟩:=Md.Xb hm;refine ⟨_,hK,xM rfl rfl fun ho hE=>?_⟩;simp [execOp,ho,eqGuard,binOp,uh hE hx (YW h1),uh hE hy (YW h2),Op.intDiv,hg,Md.JX]
   .cases h
  .split at h
   .rename_i a b h1 h2
    cases h;obtain ⟨hg,hK⟩:=Md.Xb hm;refine ⟨_,hK,xM rfl rfl fun ho hE=>?_⟩;simp [execOp,ho,eqGuard,binOp,uh hE hx (YW h1),uh hE hy (YW h2),Op.intDiv,hg]
   .cases h
  .split at h
   .rename_i n h1
    split at h
    .rename_i v hv
     cases h;obtain ⟨hg,hK⟩:=Md.Xb hm;exact ⟨_,hK,zgb hx hy ⟨_,by rw [YW h1,<-Int.toNat_of_nonneg hg];rfl⟩ hv⟩
    .cases h
   .cases h
  .split at h
   .rename_i n h1
    split at h
    .rename_i v hv
     cases h;obtain ⟨hg,hK⟩:=Md.Xb hm;exact ⟨_,hK,zgb hx hy ⟨_,by rw [YW h1,<-Int.toNat_of_nonneg hg];rfl⟩ hv⟩
    .cases h
   .cases h
  .cases h
 .cases h
theorem zh2 {κ:Kn} {b:Bool} {v:Value} (h:RepX κ (.e b) v):(b=true/\∃t p,v=.iface t p)\/(b=false/\v=.nilIface):=by
 have h:RepF κ.R κ.w (.err b) v:=h;cases h with
 | errn=>exact .inr ⟨rfl,rfl⟩
 | err t p=>exact .inl ⟨rfl,t,p,rfl⟩
def pNil (P:Program) (E:Operand->XA) (op:BinOp) (xT:TypeId) (x:Operand) (n:Value):Option XV :=
 match E x,n,op,P.underlying xT with
 | .one (.e b),.nilIface,.neq,some (.interface _)=>some (.b b)
 | .one (.e b),.nilIface,.eql,some (.interface _)=>some (.b (!b))
 | .one (.pt _ _),.pointer none,.eql,some (.pointer _)=>some (.bl false)
 | .one (.pt _ _),.pointer none,.neq,some (.pointer _)=>some (.bl true)
 | .one (.nl _ _),.slice none 0 0,.eql,some (.slice _)=>some (.bl false)
 | .one .nil,.slice none 0 0,.eql,some (.slice _)=>some (.bl true)
 | _,_,_,_=>none
theorem zb2 {d:Nat} {a:Addr} {w:World} {tt:TypeId} (hT:P.underlying xT=some (.pointer tt)):(Op.equalIn (d+1) xT (.pointer (some a)) (.pointer none)).run P w=.ok false w:=by
 simp [Op.equalIn,run_underlying hT]
theorem zaz {a:Addr} {w:World} {tt:TypeId} (hT:P.underlying xT=some (.pointer tt)):(Op.equal xT (.pointer (some a)) (.pointer none)).run P w=.ok false w:=zb2 (d:=9999) hT
theorem zcf {d:Nat} {a:Addr} {n c:Nat} {w:World} {tt:TypeId} (hT:P.underlying xT=some (.slice tt)):(Op.equalIn (d+1) xT (.slice (some a) n c) (.slice none 0 0)).run P w=.ok false w:=by
 simp [Op.equalIn,run_underlying hT]
theorem zcg {d:Nat} {w:World} {tt:TypeId} (hT:P.underlying xT=some (.slice tt)):(Op.equalIn (d+1) xT (.slice none 0 0) (.slice none 0 0)).run P w=.ok true w:=by
 simp [Op.equalIn,run_underlying hT]
theorem zef {a:Addr} {n c:Nat} {w:World} {tt:TypeId} (hT:P.underlying xT=some (.slice tt)):(Op.equal xT (.slice (some a) n c) (.slice none 0 0)).run P w=.ok false w:=zcf (d:=9999) hT
theorem zeg {w:World} {tt:TypeId} (hT:P.underlying xT=some (.slice tt)):(Op.equal xT (.slice none 0 0) (.slice none 0 0)).run P w=.ok true w:=zcg (d:=9999) hT
theorem zmB {op:BinOp} {n:Value} {v:XV} (h:pNil P E op xT x n=some v):Says P E H (.binOp op xT x (.const n) yT) v.x:=by
 unfold pNil at h;have hif:∀{ms:Array (String×TypeId)},P.underlying xT=some (.interface ms)->P.underlying xT=some (.interface (P.methodsAt xT)):=fun {ms} hT=>by rw [hT];simp [Program.methodsAt,hT]
 have hc:∀(a:Act) (v:Value),a.eval (.const v)=v:=fun _ _=>rfl;split at h<;>first|(cases h;done)|cases h
 .rename_i b ms hx hT
  refine xM rfl rfl fun {κ a o'} ho hE=>?_;rcases zh2 (hE1 hE hx) with ⟨rfl,t,p,e⟩|⟨rfl,e⟩
  .simp [execOp,ho,eqGuard,e,hc,run_neq_held_nil κ.w xT t p (hif hT)]
  .simp [execOp,ho,eqGuard,e,hc,run_neq_nil_nil κ.w xT (hif hT)]
 .rename_i b ms hx hT
  refine xM rfl rfl fun {κ a o'} ho hE=>?_;rcases zh2 (hE1 hE hx) with ⟨rfl,t,p,e⟩|⟨rfl,e⟩
  .simp [execOp,ho,eqGuard,e,hc,run_eql_held_nil κ.w xT t p (hif hT)]
  .simp [execOp,ho,eqGuard,e,hc,run_eql_nil_nil κ.w xT (hif hT)]
 .rename_i c z tt hx hT
  refine xM rfl rfl fun {κ a o'} ho hE=>?_;obtain ⟨b,off,vals,e,_⟩:=RepF.Uu (hE1 hE hx);simp [execOp,ho,eqGuard,e,hc,binOp,zaz hT]
 .rename_i c z tt hx hT
  refine xM rfl rfl fun {κ a o'} ho hE=>?_;obtain ⟨b,off,vals,e,_⟩:=RepF.Uu (hE1 hE hx);simp [execOp,ho,eqGuard,e,hc,binOp,zaz hT]
 .rename_i c l tt hx hT
  refine xM rfl rfl fun {κ a o'} ho hE=>?_;obtain ⟨h1,h2⟩:=hE1 hE hx;obtain ⟨A,n,cap,e⟩:∃A n cap,a.eval x=.slice (some A) n cap:=by
   rcases h1.QV with ⟨_,Ad,cap,e,_,hn⟩|⟨_,b,off,cap,_,e,_⟩
   .cases Ad with
    | none=>rw [hn rfl] at e;exact absurd e h2
    | some A=>exact ⟨A,_,_,e⟩
   .exact ⟨_,_,_,e⟩
  simp [execOp,ho,eqGuard,e,hc,binOp,zef hT]
 .rename_i tt hx hT
  refine xM rfl rfl fun {κ a o'} ho hE=>?_;have e:a.eval x=.slice none 0 0:=uh hE hx rfl;simp [execOp,ho,eqGuard,e,hc,binOp,zeg hT]
def pBin (P:Program) (E:Operand->XA) (op:BinOp) (xT:TypeId) (x y:Operand):Option XV :=
 match E x,E y with
 | .one (.s a),.one (.s b)=>zhv op a b
 | .one p,.one q =>
  match Qe p,Qe q with
  | some a,some b=>match P.underlying xT with
   | some .bool=>(zeH op a b).map .b
   | _=>none
  | _,_=>match zht op p q with
   | some v=>some v
   | none=>match (match op with|.add=>zbf p|.mul=>zbf p|_=>none),zbf q with
    | some _,some _=>bif isZ p&&isZ q then numI op p q else none
    | _,_=>match numI op p q with
     | some v=>some v
     | none=>match numW op p q with
      | some v=>some v
      | none=>match op with
       | .shl=>(amount q).bind (shX .shl p)
       | .shr=>(amount q).bind (shX .shr p)
       | _=>none
 | _,_=>none
theorem zmv {op:BinOp} {v:XV} (h:pBin P E op xT x y=some v):Says P E H (.binOp op xT x y yT) v.x:=by
 unfold pBin at h;split at h
 .rename_i a b hx hy;exact zhw hx hy h
 .rename_i p q _ hx hy
  split at h
  .rename_i a b h1 h2
   split at h
   .rename_i hT
    obtain ⟨c,hc,rfl⟩:=Option.map_eq_some_iff.1 h;exact zgy hx hy h1 h2 hT hc
   .cases h
  .split at h
   .rename_i v' hv;cases h;exact zhu hx hy hv
   .split at h
    .cases hz:isZ p&&isZ q<;>rw [hz] at h
     .cases h
     .exact ziG hx hy h
    .split at h
     .rename_i v' hv;cases h;exact ziG hx hy hv
     .split at h
      .rename_i v' hv;cases h;exact zmt hx hy hv
      .split at h
       .obtain ⟨n,hn,h⟩:=Option.bind_eq_some_iff.1 h
        exact zgb hx hy (zfu hn) h
       .obtain ⟨n,hn,h⟩:=Option.bind_eq_some_iff.1 h
        exact zgb hx hy (zfu hn) h
       .cases h
 .cases h
def idx (v:XV) (n:Nat) (K:Nat->Option R):Option (Option R) :=
 match zbf v with
 | some j=>some (Md.ifp (j<n) (K j))
 | none =>
  match intOf v with
  | some (_,i)=>some (Md.ifp (0<=i/\i<(n:Int)) (K i.toNat))
  | none=>none
theorem zdZ {v:XV} {n:Nat} {K:Nat->Option R} {m:Option R} (h:idx v n K=some m) (hm:m=some r):∃(j:Nat) (k:IntKind) (i:Int),K j=some r/\plain v=some (.val (.int k i))/\i=(j:Int)/\j<n:=by
 unfold idx at h;split at h
 .rename_i j hj
  cases h;obtain ⟨hg,hK⟩:=Md.Xb hm;exact ⟨j,.i64,j,hK,KR hj,rfl,hg⟩
 .split at h
  .rename_i k i hi
   cases h;obtain ⟨hg,hK⟩:=Md.Xb hm;exact ⟨i.toNat,k,i,hK,zaQ hi,Md.idx_eq hg,Md.znM hg⟩
  .cases h
def aIdx (P:Program) (E:Operand->XA) (H:Nat->Option XB) (t:TypeId) (x y:Operand) (K:Upd->Option R):Option (Option R) :=
 match slOf P t,E x,E y with
 | some (e,sz,by_),.one (.ls c l),.one v=>bif Nat.beq (szC c) sz then idx v l.length fun j=>K (XV.pt c (l.getD j default)).x else none
 | some (e,sz,by_),.one (.own id),.one v =>
  match H id with
  | some (.row e' c l)=>bif Nat.beq (szC c) sz&&Nat.beq e e' then idx v l.length fun j=>K (XV.rp id sz j 0).x else none
  | _=>none
 | _,_,_=>none
theorem zlG (h:aIdx P E H t x y K=some m) (hm:m=some r):∃u,K u=some r/\Says P E H (.indexAddr t x y) u:=by
 unfold aIdx at h;split at h
 .rename_i e sz by_ c l v hT hx hy
  cases hz:Nat.beq (szC c) sz
  .rw [hz] at h;cases h
  .rw [hz,cond_true] at h
   have hz:=Nat.eq_of_beq_eq_true hz;subst hz;obtain ⟨j,k,i,hK,hv,hi,hj⟩:=zdZ h hm;refine ⟨_,hK,yS fun {κ a o'} ho hE hH=>?_⟩;have hTS:TSl P t e (szC c) by_:=⟨hT⟩;have hEl:=TSl.elem (P:=P) (t:=t) (e:=e) (sz:=szC c) (bytes:=by_);have e2:=uh hE hy hv;rcases RepF.QV (hE1 hE hx) with ⟨h0,_⟩|⟨size,b,off,cap,vals,e1,hR,hb,hc,hmx,hs,hcell,hrep⟩
   .omega
   .have hsz:size=szC c:=by rw [<-hs j hj];exact kH c _
    subst hsz;have h1:(0:Int)<=i/\i<(l.length:Int):=by omega
    have h2:i.toNat=j:=by omega
    refine ⟨.pointer (some ⟨b,off+j*szC c,none⟩),?_,?_⟩
    .simp [execOp,ho,Instr.indexAt,e1,e2,asIntOf,run_underlying hEl.slice,h1.1,h1.2,h2,TSl.jl (P:=P) (t:=t) (e:=e) (sz:=szC c) (bytes:=by_),zah]
    .exact RepF.cptr _ b _ (fun q=>vals j q) hR hb (fun q f hq=>by rw [Nat.add_assoc];exact hcell j q f hj hq) fun q f hq=>hrep j q f hj hq
 .rename_i e sz by_ id v hT hx hy
  split at h
  .rename_i e' c l hb
   cases hz:(Nat.beq (szC c) sz&&Nat.beq e e')
   .rw [hz] at h;cases h
   .rw [hz,cond_true] at h
    rw [Bool.and_eq_true] at hz;have hz1:=Nat.eq_of_beq_eq_true hz.1;have hz2:=Nat.eq_of_beq_eq_true hz.2;subst hz1 hz2;obtain ⟨j,k,i,hK,hv,hi,hj⟩:=zdZ h hm;refine ⟨_,hK,yS fun {κ a o'} ho hE hH=>?_⟩;have hTS:TSl P t e (szC c) by_:=⟨hT⟩;have hEl:=TSl.elem (P:=P) (t:=t) (e:=e) (sz:=szC c) (bytes:=by_);have e2:=uh hE hy hv;obtain ⟨hN,vs,h3,_⟩:=hH.blk hb;have hr:=hE1 hE hx;rcases h3.2 with ⟨h0,_⟩|⟨q,cap,cur,h4,h5,_⟩
    .omega
    .have h6:(0:Int)<=i/\i<(l.length:Int):=by omega
     have h7:i.toNat=j:=by omega
     refine ⟨.pointer (some ⟨q,j*szC c,none⟩),?_,hN,q,.inr ⟨l.length,cap+1,h4⟩,by simp⟩;simp [execOp,ho,Instr.indexAt,hr.2.1,h4,e2,asIntOf,run_underlying hEl.slice,h6.1,h6.2,h7,TSl.jl (P:=P) (t:=t) (e:=e) (sz:=szC c) (bytes:=by_),zah]
  .cases h
 .cases h
def zeE (P:Program) (E:Operand->XA) (t:TypeId) (x y:Operand) (K:Upd->Option R):Option (Option R) :=
 match E x,E y,P.underlying t with
 | .one (.s l),.one v,some .string=>idx v l.length fun j=>K (XV.w8 (l.getD j 0)).x
 | _,_,_=>none
theorem zgv (h:zeE P E t x y K=some m) (hm:m=some r):∃u,K u=some r/\Says P E H (.index t x y) u:=by
 unfold zeE at h;split at h
 .rename_i l v hx hy hT
  obtain ⟨j,k,i,hK,hv,hi,hj⟩:=zdZ h hm;refine ⟨_,hK,xM rfl rfl fun ho hE=>?_⟩;have h1:(0:Int)<=i:=by omega
  have h2:i.toNat=j:=by omega
  have h3:j<(⟨l.toArray⟩:ByteArray).size:=by show j<l.toArray.size;simpa using hj
  have h4:((⟨l.toArray⟩:ByteArray)[j]'h3)=l.getD j 0:=by
   show l.toArray[j]'(by simpa using hj)=_;simp [List.getD,hj]
  simp [execOp,ho,Instr.index,uh hE hx rfl,uh hE hy hv,asIntOf,run_underlying hT,h1,h2,h3,h4]
 .cases h
def strs:List XV->Option (List (List UInt8))
 | []=>some []
 | .s l::r=>(strs r).map (l::·)
 | .v (.string b)::r=>(strs r).map (b.data.toList::·)
 | _=>none
theorem strs_get {κ:Kn}:∀{cs:List XV} {ls:List (List UInt8)} {vs:List Value},strs cs=some ls->All2 (RepX κ) cs vs->ls.length=cs.length/\∀j,j<ls.length->vs[j]?=some (Sv (ls.getD j []))
 | [],ls,vs,h,hr=>by cases h;exact ⟨rfl,fun j hj=>by simp at hj⟩
 | c::cs,ls,vs,h,hr=>by
  cases hr with
  | @cons _ v _ vs' a t =>
   have key:∀{l:List UInt8} {rs:List (List UInt8)},v=Sv l->strs cs=some rs->ls=l::rs->ls.length=(c::cs).length/\∀j,j<ls.length->(v::vs')[j]?=some (Sv (ls.getD j [])):=by
    intro l rs hv h1 h2;subst h2 hv;obtain ⟨h3,h4⟩:=strs_get h1 t;refine ⟨by simp [h3],fun j hj=>?_⟩;cases j with
    | zero=>rfl
    | succ j=>simpa using h4 j (by simpa using hj)
   unfold strs at h;split at h<;>first|(cases h;done)|skip
   .rename_i e;cases e
   .rename_i l r e
    cases e;obtain ⟨rs,h1,rfl⟩:=Option.map_eq_some_iff.1 h;exact key (WU rfl a) h1 rfl
   .rename_i b r e
    cases e;obtain ⟨rs,h1,rfl⟩:=Option.map_eq_some_iff.1 h;exact key (l:=b.data.toList) (by rw [WU (u:=.string b) rfl a]) h1 rfl
def zex (P:Program) (E:Operand->XA) (t:TypeId) (x y:Operand) (K:Upd->Option R):Option (Option R) :=
 match E x,E y,zhp P t with
 | .ag cs,.one v,some (len,e,1,false)=>match strs cs with
  | some ls=>bif Nat.beq len ls.length then idx v ls.length fun j=>K (XV.s (ls.getD j [])).x else none
  | none=>none
 | _,_,_=>none
theorem zgs (h:zex P E t x y K=some m) (hm:m=some r):∃u,K u=some r/\Says P E H (.index t x y) u:=by
 unfold zex at h;split at h
 .rename_i cs v len e hx hy hT
  split at h
  .rename_i ls hls
   cases hl:Nat.beq len ls.length
   .rw [hl] at h;cases h
   .rw [hl,cond_true] at h
    have hl:=Nat.eq_of_beq_eq_true hl;subst hl;obtain ⟨j,k,i,hK,hv,hi,hj⟩:=zdZ h hm;refine ⟨_,hK,xM rfl rfl fun {κ a o'} ho hE=>?_⟩;obtain ⟨vs,e1,h2⟩:=hEa hE hx;obtain ⟨h3,h4⟩:=strs_get hls h2;have hvl:=h2.length;have hTA:TArr P t ls.length e 1 false:=⟨hT⟩;obtain ⟨hu,hV⟩:=TArr.parts (P:=P) (t:=t) (len:=ls.length) (e:=e) (sz:=1) (agg:=false);have h5:(0:Int)<=i/\i<(ls.length:Int):=by omega
    have h6:i.toNat=j:=by omega
    have h7:vs.toArray[j]?=some (Sv (ls.getD j [])):=by simpa using h4 j hj
    have hpart:(part e vs.toArray (j*1)).run P κ.w=.ok (Sv (ls.getD j [])) κ.w:=by
     simp [part,XP (P:=P) (t:=e) (agg:=false) (n:=1)];simp at h7;rw [h7];rfl
    simp only [Nat.mul_one] at hpart;simp [execOp,ho,Instr.index,e1,uh hE hy hv,asIntOf,run_underlying hu,h5.1,h5.2,h6,jl (P:=P) (t:=e) (agg:=false) (n:=1),hpart]
  .cases h
 .cases h
end
end G
end Go.Proofs.YtbijabmjbgplbaaGreatDoor
namespace Go.Proofs.YtbijabmjbgplbaaGreatDoor
open Go.ChangeShapes Go.WideShapes Go.RowKit
namespace G
theorem Ux (c:EC):∀l:List (T c),(flat c l).length=l.length*szC c
 | []=>by simp [flat]
 | x::l=>by
  have:=Ux c l;unfold flat at this ⊢;rw [List.flatMap_cons,List.length_append,this,kH,List.length_cons,Nat.succ_mul,Nat.add_comm]
theorem JZ (c:EC) (a b:List (T c)):flat c (a++b)=flat c a++flat c b:=List.flatMap_append
theorem VL (c:EC):∀(l:List (T c)) (k:Nat),flat c (l.take k)=(flat c l).take (k*szC c)
 | l,0=>by simp [flat]
 | [],k+1=>by simp [flat]
 | x::l,k+1=>by
  have:=VL c l k;unfold flat at this ⊢;rw [List.take_succ_cons,List.flatMap_cons,List.flatMap_cons,this,List.take_append,kH,Nat.succ_mul,Nat.add_sub_cancel,List.take_of_length_le (l:=cv c x) (by rw [kH];omega)]
theorem Xa (c:EC):∀(l:List (T c)) (k:Nat),flat c (l.drop k)=(flat c l).drop (k*szC c)
 | l,0=>by simp [flat]
 | [],k+1=>by simp [flat]
 | x::l,k+1=>by
  have:=Xa c l k;unfold flat at this ⊢;rw [List.drop_succ_cons,List.flatMap_cons,this,List.drop_append,kH,Nat.succ_mul,Nat.add_sub_cancel,List.drop_of_length_le (l:=cv c x) (by rw [kH];omega),List.nil_append]
theorem zaO (c:EC):∀(l:List (T c)) (i j:Nat),i<l.length->j<szC c->(flat c l)[i*szC c+j]?=(cv c (l.getD i default))[j]?
 | [],i,j,h,_=>by simp at h
 | x::l,0,j,h,hj=>by
  show (List.flatMap (cv c) (x::l))[0*szC c+j]?=(cv c x)[j]?;rw [List.flatMap_cons,Nat.zero_mul,Nat.zero_add,List.getElem?_append_left (by rw [kH];exact hj)]
 | x::l,i+1,j,h,hj=>by
  have:=zaO c l i j (by simpa using h) hj;unfold flat at this ⊢;rw [List.flatMap_cons,List.getElem?_append_right (by rw [kH,Nat.succ_mul];omega),kH];rw [show (i+1)*szC c+j - szC c=i*szC c+j by rw [Nat.succ_mul];omega,this];rfl
def Src (R:Nat->Prop) (w:World) (c:EC) (l:List (T c)) (v:Value):Prop :=
 ∃Ad cap news,v=.slice Ad l.length cap/\l.length<=cap/\cap<=maxLen/\(Ad=none->cap=0)/\Kit.Flat w w.heap.size Ad news/\Xq R w c l news
theorem Xq.len {R:Nat->Prop} {w:World} {c:EC} {l:List (T c)} {vs:List Value} (h:Xq R w c l vs):vs.length=l.length*szC c:=by rw [<-Ux,All2.length h]
theorem Xq.one {R:Nat->Prop} {w:World} {c:EC} {l:List (T c)} {vs:List Value} (h:Xq R w c l vs):∀u,u∈vs->u.oneCell'=true:=fun u hu=>by
 obtain ⟨q,hq⟩:=List.mem_iff_getElem?.1 hu;obtain ⟨f,_,h2⟩:=All2.getR h hq;exact h2.one
theorem zgd {R:Nat->Prop} {w:World} {c:EC} {l:List (T c)} {v:Value} (h0:0<szC c) (h:RepF R w (.ls (cv c) l) v):Src R w c l v:=by
 rcases h.QV with ⟨hl,Ad,cap,rfl,hm,hn⟩|⟨size,b,off,cap,vals,rfl,hR,hb,hc,hm,hs,hcell,hrep⟩
 .have:l=[]:=List.eq_nil_of_length_eq_zero hl
  subst this;exact ⟨Ad,cap,[],rfl,Nat.zero_le _,hm,hn,Kit.Flat.nil _ _ _,.nil⟩
 .have hsz:0<l.length->size=szC c:=fun hp=>by rw [<-hs 0 hp];exact kH c _
  have hback:∀q,q<l.length*szC c->q/szC c<l.length/\q%szC c<szC c/\q=q/szC c*szC c+q%szC c:=fun q hq =>
   ⟨Nat.div_lt_of_lt_mul (by rw [Nat.mul_comm];exact hq),Nat.mod_lt _ h0,by rw [Nat.mul_comm];exact (Nat.div_add_mod q _).symm⟩
  refine ⟨some ⟨b,off,none⟩,cap,(List.range (l.length*szC c)).map fun q=>vals (q/szC c) (q%szC c),rfl,hc,hm,nofun,fun _=>⟨b,off,rfl,hb,fun q u hq=>?_⟩,All2.of (by rw [Ux];simp) fun q f u hf hq=>?_⟩
  .have hlt:q<l.length*szC c:=by
    obtain ⟨h,_⟩:=List.getElem?_eq_some_iff.1 hq;simpa using h
   rw [List.getElem?_map,List.getElem?_range hlt] at hq;cases hq;obtain ⟨h1,h2,h3⟩:=hback q hlt;have h4:=hcell (q/szC c) (q%szC c) _ h1 (List.getElem?_eq_getElem (by show _<(cv c _).length;rw [kH];exact h2));rw [hsz (Nat.lt_of_le_of_lt (Nat.zero_le _) h1),<-h3] at h4;exact h4
  .have hlt:q<l.length*szC c:=by rw [<-Ux];exact (List.getElem?_eq_some_iff.1 hf).1
   rw [List.getElem?_map,List.getElem?_range hlt] at hq;cases hq;obtain ⟨h1,h2,h3⟩:=hback q hlt;rw [h3,zaO c l _ _ h1 h2] at hf;exact hrep _ _ f h1 hf
theorem zff {κ:Kn} {H:Nat->Option XB} (hH:HOk κ H) {id:Nat} {e:TypeId} {c:EC} {l:List (T c)} (hb:H id=some (.row e c l)):Src κ.R κ.w c l (κ.ρ id):=by
 obtain ⟨_,vs,h1,h2⟩:=hH.blk hb;rcases h1.2 with ⟨hl,A,h3⟩|⟨g,cap,cur,h3,h4,h5,h6,h7,h8⟩
 .have:l=[]:=List.eq_nil_of_length_eq_zero hl
  subst this;exact ⟨A,0,[],h3,Nat.zero_le _,by unfold maxLen;decide,fun _=>rfl,Kit.Flat.nil _ _ _,.nil⟩
 .obtain ⟨A,cap',h9,h10,h11,h12⟩:=h1.slice
  rw [h3] at h9;cases h9;exact ⟨_,_,vs,h3,h10,h11,nofun,h12,h2⟩
theorem znV {R:Nat->Prop} {w:World} {c:EC} {l:List (T c)} {Ad:Option Addr} {cap:Nat} {vs:List Value} (hc:l.length<=cap) (hm:cap<=maxLen) (hn:Ad=none->cap=0) (hf:Kit.Flat w w.heap.size Ad vs) (he:Xq R w c l vs) (h0:0<szC c) (hR:∀b o,Ad=some ⟨b,o,none⟩->0<l.length->R b) :
  RepF R w (.ls (cv c) l) (.slice Ad l.length cap):=by
 by_cases hl:l=[]
 .subst hl;exact RepF.empty hm hn
 .have hp:0<l.length:=List.length_pos_iff.2 hl
  have hvs:vs≠[]:=fun e=>by
   have:=he.len;rw [e] at this;have:=Nat.mul_pos hp h0;simp at *;omega
  obtain ⟨b,off,rfl,hb,hcell⟩:=hf hvs;have hat:∀i j f,i<l.length->(cv c (l.getD i default))[j]?=some f->∃u,vs[i*szC c+j]?=some u/\RepF R w f u:=fun i j f hi hj=>by
   have hj':j<szC c:=by rw [<-kH c (l.getD i default)];exact (List.getElem?_eq_some_iff.1 hj).1
   rw [<-zaO c l i j hi hj'] at hj;exact All2.get he hj
  refine RepF.slc l.length _ (szC c) b off cap (fun i j=>vs.getD (i*szC c+j) undef) (hR b off rfl hp) hb hc hm (fun i _=>kH c _) (fun i j f hi hj=>?_) fun i j f hi hj=>?_
  .obtain ⟨u,h1,_⟩:=hat i j f hi hj
   rw [hcell _ u h1];simp [List.getD,h1]
  .obtain ⟨u,h1,h2⟩:=hat i j f hi hj
   simpa [List.getD,h1] using h2
def zkh (H:Nat->Option XB) (x:XA):Option ((c:EC)×List (T c)) :=
 match x with
 | .one (.ls c l)=>some ⟨c,l⟩
 | .one (.fl c l)=>some ⟨c,l⟩
 | .one (.nl c l)=>some ⟨c,l⟩
 | .one (.own id)=>match H id with
  | some (.row _ c l)=>some ⟨c,l⟩
  | _=>none
 | .one (.vw id sz lo)=>match H id with
  | some (.row _ c l)=>bif Nat.beq sz (szC c) then some ⟨c,l.drop lo⟩ else none
  | _=>none
 | _=>none
theorem zd4 {κ:Kn} {H:Nat->Option XB} (hH:HOk κ H) {x:XA} {v:Value} {c:EC} {l:List (T c)} (h0:0<szC c) (h:zkh H x=some ⟨c,l⟩) (hr:RepA κ x v):Src κ.R κ.w c l v:=by
 unfold zkh at h;split at h
 .rename_i c' l';cases h;exact zgd h0 hr
 .rename_i c' l';cases h;exact zgd h0 ((FLe.full _ _).rep hr)
 .rename_i c' l';cases h;exact zgd h0 hr.1
 .rename_i id
  split at h
  .rename_i e c' l' hb
   cases h;rw [hr.2.1];exact zff hH hb
  .cases h
 .rename_i id sz lo
  split at h
  .rename_i e c' l' hb
   cases hc:Nat.beq sz (szC c')
   .rw [hc] at h;cases h
   .rw [hc,cond_true] at h
    cases h;have e1:=Nat.eq_of_beq_eq_true hc;subst e1;obtain ⟨_,A,n,cap,A',c',h1,h0,h2,h3,hA0,h4⟩:=hr;obtain ⟨Ad,cap',news,g1,g2,g3,g4,g5,g6⟩:=zff hH hb;rw [h0] at g1;obtain ⟨e1,e2,e3⟩:=slice_inj g1;subst e1 e3;have hln:(l'.drop lo).length=n:=by simp;omega
    have hel:Xq κ.R κ.w c (l'.drop lo) (news.drop (lo*szC c)):=by
     unfold Xq;rw [Xa];exact All2.drop g6 _
    rcases Nat.eq_zero_or_pos n with h5|h5
    .have hnil:l'.drop lo=[]:=List.eq_nil_of_length_eq_zero (by omega)
     rw [hnil] at hel hln ⊢;have:news.drop (lo*szC c)=[]:=List.eq_nil_of_length_eq_zero (by rw [hel.len];simp);subst h5;rcases A with _|ad
     .exact ⟨none,cap,[],h1,h2,h3,hA0,Kit.Flat.nil _ _ _,.nil⟩
     .exact ⟨some ad,cap,[],h1,h2,h3,nofun,Kit.Flat.nil _ _ _,.nil⟩
    .obtain ⟨b,rfl,rfl⟩:=h4 h5
     refine ⟨some ⟨b,lo*szC c,none⟩,cap,news.drop (lo*szC c),by rw [h1,hln],by omega,h3,nofun,?_,hel⟩;simpa using g5.drop (lo*szC c)
  .cases h
 .cases h
def listOf (E:Operand->XA) (H:Nat->Option XB) (y:Operand):Option ((c:EC)×List (T c)):=zkh H (E y)
theorem Qo {κ:Kn} {E:Operand->XA} {H:Nat->Option XB} {a:Act} (hE:∀x,RepA κ (E x) (a.eval x)) (hH:HOk κ H) {y:Operand} {c:EC} {l:List (T c)} (h0:0<szC c) (h:listOf E H y=some ⟨c,l⟩):Src κ.R κ.w c l (a.eval y):=zd4 hH h0 h (hE y)
end G
end Go.Proofs.YtbijabmjbgplbaaGreatDoor
namespace Go.Proofs.YtbijabmjbgplbaaGreatDoor
open Go.ChangeShapes Go.WideShapes Go.RowKit
namespace G
def Kn.bind (κ:Kn) (q:Nat) (u:Value) (w':World):Kn:=⟨fun i=>if i=q then u else κ.ρ i,fun i=>κ.N i\/i=q,κ.R,w'⟩
section
variable {κ:Kn} {H:Nat->Option XB} {q id:Nat} {u:Value} {x:XB} {v:XA} {val:Value} {w':World} {wr:List Nat}
theorem jH:(κ.bind q u w').ρ q=u:=if_pos rfl
theorem zk1 {i:Nat} (h:κ.N i) (hq:¬κ.N q):(κ.bind q u w').ρ i=κ.ρ i:=if_neg fun (e:i=q)=>hq (e▸h)
theorem QF (hH:HOk κ H) (hq:¬κ.N q) (hfr:Fr (Touch κ H wr) κ.w w'):κ.Le (κ.bind q u w') :=
 ⟨fun i h=>⟨.inl h,zk1 h hq⟩,fun _ h=>h,fun b hb hl=>hfr.block b hl fun ht=>ht.notR hH hb,hfr.size⟩
theorem zcx:∀(wr:List Nat) (i:Nat),look (wr.map fun i=>(i,none)) i=none
 | [],i=>rfl
 | j::wr,i=>by
  rw [List.map_cons,kJ];split
  .rfl
  .exact zcx wr i
theorem XJ (hH:HOk κ H) (hW:WOk κ) (hq:¬κ.N q) (hfr:Fr (Touch κ H wr) κ.w w') (hblk:uO (κ.bind q u w') q x) (hval:RepA (κ.bind q u w') v val)
  (hold:x.live=true->∀b,yV u=some b->Touch κ H wr b\/κ.w.heap.size<=b):Eff κ (κ.bind q u w') H ⟨v,(q,some x)::wr.map (fun i=>(i,none)),[q],wr⟩ val:=by
 have hl:∀i,look ((q,some x)::wr.map (fun i=>(i,none))) i=if q=i then some x else none:=fun i=>by rw [kJ,zcx]
 refine ⟨fun i h=>⟨.inl h,zk1 h hq⟩,fun i h=>h.imp (fun h=>h) fun e=>by rw [e];exact List.mem_singleton.2 rfl,fun _ h=>h,fun b hb=>.inl hb,hfr,hval,⟨fun {i y} hi=>?_,fun {i j y z b} hi hj _ _ _ _=>?_,fun {i y b} hi ho hb hR=>?_⟩,fun i y b hi ho hb=>?_,fun i hi=>?_⟩
 .rw [hl] at hi
  split at hi
  .rename_i e;subst e;cases hi;exact ⟨.inr rfl,hblk⟩
  .cases hi
 .rw [hl] at hi hj
  split at hi<;>first|(cases hi;done)|skip
  split at hj<;>first|(cases hj;done)|skip
  rename_i e1 e2;exact e1.symm.trans e2
 .rw [hl] at hi
  split at hi<;>first|(cases hi;done)|skip
  rename_i e;subst e;cases hi;rw [jH] at hb;rcases hold ho b hb with h|h
  .exact h.notR hH hR
  .have:=hW.ult b hR;omega
 .rw [hl] at hi
  split at hi<;>first|(cases hi;done)|skip
  rename_i e;subst e;cases hi;rw [jH] at hb;exact hold ho b hb
 .unfold keys
  simp [hi]
def Kn.to (κ:Kn) (w':World):Kn:=⟨κ.ρ,κ.N,κ.R,w'⟩
theorem zkJ (hH:HOk κ H) (hfr:Fr (Touch κ H wr) κ.w w'):κ.Le (κ.to w') :=
 ⟨fun i h=>⟨h,rfl⟩,fun _ h=>h,fun b hb hl=>hfr.block b hl fun ht=>ht.notR hH hb,hfr.size⟩
theorem zaM {x0:XB} (hH:HOk κ H) (hb:H id=some x0) (ho0:x0.own=true) (hfr:Fr (fun b=>yV (κ.ρ id)=some b) κ.w w') (hblk:uO (κ.to w') id x) (ho:x.own=true) (hval:RepA (κ.to w') v val) :
  Eff κ (κ.to w') H ⟨v,[(id,some x)],[],[id]⟩ val:=by
 have hT:∀b,yV (κ.ρ id)=some b->Touch κ H [id] b:=fun b h=>⟨id,x0,List.mem_singleton.2 rfl,hb,ho0,h⟩;have hl:∀i,look [(id,some x)] i=if id=i then some x else none:=fun i=>by rw [kJ];rfl
 refine ⟨fun i h=>⟨h,rfl⟩,fun i h=>.inl h,fun _ h=>h,fun b hb=>.inl hb,hfr.mono fun b _ h=>hT b h,hval,⟨fun {i y} hi=>?_,fun {i j y z b} hi hj _ _ _ _=>?_,fun {i y b} hi _ hb' hR=>?_⟩,fun i y b hi _ hb'=>?_,fun i hi=>?_⟩
 .rw [hl] at hi
  split at hi<;>first|(cases hi;done)|skip
  rename_i e;subst e;cases hi;exact ⟨(hH.blk hb).1,hblk⟩
 .rw [hl] at hi hj
  split at hi<;>first|(cases hi;done)|skip
  split at hj<;>first|(cases hj;done)|skip
  rename_i e1 e2;exact e1.symm.trans e2
 .rw [hl] at hi
  split at hi<;>first|(cases hi;done)|skip
  rename_i e;subst e;exact hH.notR hb (Xl ho0) hb' hR
 .rw [hl] at hi
  split at hi<;>first|(cases hi;done)|skip
  rename_i e;subst e;exact .inl (hT b hb')
 .rw [List.mem_singleton.1 hi];exact List.mem_singleton.2 rfl
end
def frzB:XB->Option XV
 | .row _ c l=>bif Nat.blt 0 (szC c) then some (.ls c l) else none
 | .box cs=>(KE cs).map fun _=>.cp cs
 | .mp k v l=>some (.mp k v l)
 | _=>none
def rsB (H:Nat->Option XB):XB->XB
 | .box cs=>.box (cs.map (rs H))
 | x=>x
theorem zdf {κ:Kn} {H:Nat->Option XB} (hH:HOk κ H) {id:Nat} {x:XB} (h:uO κ id x):uO κ id (rsB H x):=by
 cases x with
 | box cs=>obtain ⟨b,vs,t,h1,h2,h3⟩:=h;exact ⟨b,vs,t,h1,h2,zb1 hH h3⟩
 | _=>exact h
def Kn.frz (κ:Kn) (q:Nat):Kn:=⟨κ.ρ,κ.N,fun b=>κ.R b\/yV (κ.ρ q)=some b,κ.w⟩
theorem zdX (κ:Kn) (q:Nat):κ.Le (κ.frz q):=⟨fun _ h=>⟨h,rfl⟩,fun _ h=>.inl h,fun _ _ _=>rfl,Nat.le_refl _⟩
theorem zbj {κ:Kn} {q:Nat} {x:XB} {y:XV} (h:frzB x=some y) (hr:uO κ q x):RepX (κ.frz q) y (κ.ρ q):=by
 unfold frzB at h;split at h
 .rename_i e c l
  cases h0:Nat.blt 0 (szC c)
  .rw [h0] at h;cases h
  .rw [h0,cond_true] at h
   cases h;have h0:0<szC c:=by rwa [Nat.blt_eq] at h0
   obtain ⟨vs,h1,h2⟩:=hr;have h2':Xq (κ.frz q).R (κ.frz q).w c l vs:=h2.mono (zdX κ q);have hsl:=h1.slice;obtain ⟨A,cap,e1,h3,h4,h5⟩:=hsl;show RepF _ _ (.ls (cv c) l) _;rw [e1];rcases h1.2 with ⟨hl,A',e2⟩|⟨g,cap',cur,e2,h6,_⟩
   .rw [e1] at e2
    have:l=[]:=List.eq_nil_of_length_eq_zero hl;subst this;injection e2 with _ _ e5
    exact RepF.empty h4 fun _=>e5
   .rw [e1] at e2
    injection e2 with e3 e4 e5
    subst e3 e5;exact znV h3 h4 nofun h5 h2' h0 fun b o e _=>.inr (by rw [e1];cases e;rfl)
 .rename_i cs
  obtain ⟨fs,hfs,rfl⟩:=Option.map_eq_some_iff.1 h;obtain ⟨b,vs,t,h1,h2,h3⟩:=hr;refine ⟨fs,hfs,?_⟩;rw [h1];have h4:=(uo hfs).1 (h3.imp fun _ _ k=>k.mono (zdX κ q));refine .cptr fs b 0 (fun j=>vs.getD j undef) (.inr (by rw [h1];rfl)) (Array.getElem?_eq_some_iff.1 h2).1 (fun j f hj=>?_) fun j f hj=>?_
  .obtain ⟨u,h5,_⟩:=h4.get hj
   show κ.w.cell? _=_;rw [cell_of_row _ b (0+j) vs t (0,0) h2];simp at h5;simp [h5]
  .obtain ⟨u,h5,h6⟩:=h4.get hj
   simp at h5;simpa [h5] using h6
 .rename_i k v l
  cases h;obtain ⟨b,es,cl,h1,h2,h3⟩:=hr;show RepF _ _ _ _;rw [h1];exact .mp _ b cl es (.inr (by rw [h1];rfl)) h2 h3
 .cases h
theorem zl4 {κ:Kn} {H:Nat->Option XB} {q:Nat} {x:XB} {y:XV} (hH:HOk κ H) (hb:H q=some x) (ho:x.own=true) (hy:frzB (rsB H x)=some y) {v:Value}:Eff κ (κ.frz q) H ⟨.one .any,[(q,some (.fz y))],[],[q]⟩ v:=by
 have hl:∀i,look [(q,some (XB.fz y))] i=if q=i then some (.fz y) else none:=fun i=>by rw [kJ];rfl
 have hT:∀b,yV (κ.ρ q)=some b->Touch κ H [q] b:=fun b h=>⟨q,x,List.mem_singleton.2 rfl,hb,ho,h⟩;refine ⟨fun _ h=>⟨h,rfl⟩,fun _ h=>.inl h,fun _ h=>.inl h,fun b hb=>hb.imp (fun h=>h) fun h=>.inl (hT b h),Fr.refl _ _,trivial,⟨fun {i z} hi=>?_,fun {i j z z' b} hi hj h1 _ _ _=>?_,fun {i z b} hi h1 _ _=>?_⟩,fun i z b hi h1 _=>?_,fun i hi=>by rw [List.mem_singleton.1 hi];exact List.mem_singleton.2 rfl⟩
 .rw [hl] at hi
  split at hi<;>first|(cases hi;done)|skip
  rename_i e;subst e;cases hi;obtain ⟨h1,h2⟩:=hH.blk hb;exact ⟨h1,zbj hy (zdf hH h2)⟩
 all_goals
  rw [hl] at hi;split at hi<;>first|(cases hi;done)|skip
  cases hi;cases h1
theorem Eff.then {κ κ1 κ2:Kn} {H:Nat->Option XB} {u:Upd} {v v2:Value} {bl:Uf} {wr:List Nat} (hH:HOk κ H) (e:Eff κ κ1 H u v) (f:Eff κ1 κ2 (look u.bl) ⟨.one .any,bl,[],wr⟩ v2):Eff κ κ2 H ⟨u.v,bl++u.bl,u.ids,u.wr⟩ v:=by
 have hle:=f.le e.hok;have hT:∀b,Touch κ1 (look u.bl) wr b->Touch κ H u.wr b\/κ.w.heap.size<=b:=fun b ⟨i,x,_,h1,h2,h3⟩=>e.old i x b h1 (Xl h2) h3;have hTl:∀b,Touch κ1 (look u.bl) wr b->b<κ1.w.heap.size:=fun b ⟨i,x,_,h1,h2,h3⟩=>(e.hok.blk h1).2.lt (Xl h2) h3;refine ⟨fun i h=>?_,fun i h=>(f.new i h).elim (fun h=>e.new i h) fun h=>(by cases h),fun b h=>f.R b (e.R b h),fun b h=>?_,?_,e.val.mono hle,f.heap e.hok,fun i x b hi ho hb=>?_,fun i hi=>?_⟩
 .obtain ⟨h1,h2⟩:=e.ext i h
  exact ⟨(f.ext i h1).1,(f.ext i h1).2.trans h2⟩
 .rcases f.Rn b h with h|h|h
  .exact (e.Rn b h).imp (fun h=>h) (Or.imp (fun h=>h) fun h=>⟨h.1,Nat.lt_of_lt_of_le h.2 hle.size⟩)
  .rcases hT b h with h1|h1
   .exact .inr (.inl h1)
   .exact .inr (.inr ⟨h1,Nat.lt_of_lt_of_le (hTl b h) hle.size⟩)
  .exact .inr (.inr ⟨Nat.le_trans e.fr.size h.1,h.2⟩)
 .refine e.fr.trans f.fr fun b hb h=>?_
  rcases hT b h with h1|h1
  .exact h1
  .omega
 .by_cases hk:i∈keys bl
  .rw [jI hk] at hi
   rcases f.old i x b hi ho hb with h|h
   .exact hT b h
   .exact .inr (Nat.le_trans e.fr.size h)
  .rw [uJ hk] at hi
   rw [(f.ext i (e.hok.blk hi).1).2] at hb;exact e.old i x b hi ho hb
 .unfold keys
  rw [List.map_append,List.mem_append];exact .inr (e.wr i hi)
section
variable {P:Program} {E:Operand->XA} {H:Nat->Option XB} {R:Type} {K:Upd->Option R} {r:R} {m:Option R} {x y:Operand} {t xT yT:TypeId} {q:Nat}
def cst (v:Value):XV :=
 match v with
 | .bool b=>.bl b
 | .int k n=>.z k n
 | .string s=>.s s.data.toList
 | .slice none 0 0=>.nil
 | v=>.v v
theorem zcQ {κ:Kn} {v:Value} (h:v.oneCell'=true):RepX κ (cst v) v:=by
 unfold cst;split
 .exact RepF.val _ rfl
 .exact RepF.val _ rfl
 .exact RepF.val _ rfl
 .exact RepF.val _ rfl
 .exact RepF.val _ h
def zci (P:Program) (t:TypeId):Option (List XV) :=
 match (P.info? t).bind (·.zero) with
 | some z=>bif z.cells.toList.all (·.oneCell') then some (z.cells.toList.map cst) else none
 | none=>none
theorem J9 {cs:List XV} (h:zci P t=some cs):∃z,zaH P t z/\z.cells.toList.all (·.oneCell')=true/\cs=z.cells.toList.map cst:=by
 unfold zci at h;split at h
 .rename_i z hz
  cases hone:z.cells.toList.all (·.oneCell')
  .rw [hone] at h;cases h
  .rw [hone] at h;cases h;exact ⟨z,⟨hz⟩,hone,rfl⟩
 .cases h
theorem QL {κ:Kn}:∀{vs:List Value},vs.all (·.oneCell')=true->All2 (RepX κ) (vs.map cst) vs
 | [],_=>.nil
 | v::vs,h=>by
  rw [List.all_cons,Bool.and_eq_true] at h;exact .cons (zcQ h.1) (QL h.2)
theorem zga {o:Op} {cs:List XV} (h:∀{κ:Kn} {a:Act} {o':Oper},o'.op=o->(∀x,RepA κ (E x) (a.eval x))->∃(vs:Array Value) (ty:TypeId),(execOp a.eval o').run P κ.w=.ok (.value (.pointer (some ⟨κ.w.heap.size,0,none⟩))) (κ.w.alloc (.cells vs ty))/\All2 (RepX κ) cs vs.toList) :
  Says P E H o ⟨.one (.p q 0),[(q,some (.box cs))],[q],[]⟩:=⟨fun {κ a o'} ho hE hH hW hf K Q hK=>by
 obtain ⟨vs,ty,hrun,hr⟩:=h ho hE;unfold Oper.wp;rw [hrun];have hq:¬κ.N q:=hf q (List.mem_singleton.2 rfl);have hfr:Fr (Touch κ H []) κ.w (κ.w.alloc (.cells vs ty)):=Fr.alloc _ _ _;have hle:=QF (u:=.pointer (some ⟨κ.w.heap.size,0,none⟩)) hH hq hfr;refine hK _ _ (XJ (wr:=[]) hH hW hq hfr ⟨κ.w.heap.size,vs,ty,jH,heap_alloc_new _ _,hr.imp fun _ _ k=>k.mono hle⟩ ⟨.inr rfl,κ.w.heap.size,jH,rfl⟩ fun _ b hb=>.inr ?_);cases hb;exact Nat.le_refl _⟩
def zkY (P:Program) (t:TypeId) (q:Nat):Option Upd:=(zci P t).map fun cs=>⟨.one (.p q 0),[(q,some (.box cs))],[q],[]⟩
theorem ziX (w:World) (t:TypeId) {z:Value} (h:zaH P t z) (ty:Value):(Instr.alloc t true ty).run P w=.ok (.pointer (some ⟨w.heap.size,0,none⟩)) (w.alloc (.cells z.cells t)):=by
 simp [Instr.alloc,zaH.run (P:=P) (t:=t) (z:=z),newVar,newRow,newObj];rfl
theorem zg5 {u:Upd} (h:zkY P t q=some u):Says P E H (.alloc t) u:=by
 obtain ⟨cs,hz,rfl⟩:=Option.map_eq_some_iff.1 h;obtain ⟨z,hZ,hone,rfl⟩:=J9 hz;refine zga fun {κ a o'} ho hE=>⟨z.cells,t,?_,QL hone⟩;simp only [execOp,ho,Sem.run_bind,ziX κ.w t hZ,Result.andThen_ok,Sem.run_pure]
def zdH:XA->Option (List XV)
 | .one .any=>none
 | .one x=>some [x]
 | .ag cs=>some cs
 | .tu _=>none
theorem JY {κ:Kn} {a:XA} {cs:List XV} {v:Value} (h:zdH a=some cs) (hr:RepA κ a v):∃us:List Value,v.cells=us.toArray/\All2 (RepX κ) cs us:=by
 unfold zdH at h;split at h<;>first|(cases h;done)|skip
 .rename_i x hx
  cases h;have ho:(∀cs,v≠.agg cs)->v.cells=[v].toArray:=fun hn=>by cases v<;>first|rfl|exact absurd rfl (hn _)
  refine ⟨[v],ho fun vs e=>?_,.cons hr .nil⟩;subst e;have h1:∀{f:FV},RepF κ.R κ.w f (.agg vs)->False:=fun h=>by have:=h.one;cases this
  cases x<;>first|exact hx rfl|exact h1 hr|skip
  .exact h1 hr.1
  .obtain ⟨_,_,hr⟩:=hr;exact h1 hr
  .cases hr.2.2
  .cases hr.2.2
  .obtain ⟨_,_,_,e⟩:=hr;cases e
  .obtain ⟨_,_,_,e⟩:=hr;cases e
  .obtain ⟨_,_,_,_,_,_,e,_⟩:=hr;cases e
  .obtain ⟨_,e,_⟩:=hr;unfold fnV at e;cases ‹Bool› <;> cases e
 .cases h
  obtain ⟨us,rfl,h2⟩:=hr;exact ⟨us,rfl,h2⟩
def aBox (E:Operand->XA) (x:Operand) (q:Nat):Option Upd:=(zdH (E x)).map fun cs=>⟨.one (.p q 0),[(q,some (.box cs))],[q],[]⟩
theorem zlD {u:Upd} (h:aBox E x q=some u):Says P E H (.box t x) u:=by
 obtain ⟨cs,hc,rfl⟩:=Option.map_eq_some_iff.1 h;refine zga fun {κ a o'} ho hE=>?_;obtain ⟨us,h1,h2⟩:=JY hc (hE x);exact ⟨us.toArray,t,by simp [execOp,ho,Instr.box,newVar,newRow,h1,newObj];rfl,by simpa using h2⟩
end
end G
end Go.Proofs.YtbijabmjbgplbaaGreatDoor
namespace Go.Proofs.YtbijabmjbgplbaaGreatDoor
open Go.ChangeShapes Go.WideShapes Go.RowKit
namespace G
def BndV (o:Option Value) (dflt v:Nat):Prop :=
 match o with
 | none=>v=dflt
 | some x=>∃(k:IntKind),x=.int k (v:Int)
theorem zcD {P:Program} {isS:Bool} {w:World} {lo hi:Option Value} {len cap l h:Nat} (hl:BndV lo 0 l) (hh:BndV hi len h) (h1:l<=h) (h2:h<=cap):(Instr.sliceBounds isS len cap lo hi none).run P w=.ok (l,h,cap) w:=by
 unfold Instr.sliceBounds;cases lo with
 | none =>
  cases hi with
  | none=>simp only [BndV] at hl hh;subst hl hh;simp
  | some y=>obtain ⟨k,rfl⟩:=hh;simp only [BndV] at hl;subst hl;simp [Instr.sliceBound,asIntOf,h2]
 | some x =>
  obtain ⟨k,rfl⟩:=hl;cases hi with
  | none=>simp only [BndV] at hh;subst hh;simp [Instr.sliceBound,asIntOf,h1]
  | some y=>obtain ⟨k',rfl⟩:=hh;simp [Instr.sliceBound,asIntOf,h1,h2]
theorem zfa {P:Program} {t e:TypeId} {sz bytes n:Nat} {w:World} {lo hi:Option Value} {l h cap:Nat} {A:Option Addr} (hT:slOf P t=some (e,sz,bytes)) (hl:BndV lo 0 l) (hh:BndV hi n h) (h1:l<=h) (h2:h<=cap) :
  (Instr.sliceAt t (.slice A n cap) lo hi none).run P w=.ok (.slice (if cap=l then A else A.map (·.add (l*sz))) (h - l) (cap - l)) w:=by
 have:TSl P t e sz bytes:=⟨hT⟩;have E:=TSl.elem (P:=P) (t:=t) (e:=e) (sz:=sz) (bytes:=bytes);have hb:=zcD (P:=P) (isS:=true) (w:=w) hl hh h1 h2;simp only [Instr.sliceAt,Sem.run_bind,run_underlying E.slice,Result.andThen_ok,Instr.slice,hb,TSl.jl (P:=P) (t:=t) (e:=e) (sz:=sz) (bytes:=bytes),Sem.run_pure]
theorem zj3 {α:Type} [Inhabited α] (l:List α) (a b i:Nat) (h:i<b - a):((l.drop a).take (b - a)).getD i default=l.getD (a+i) default:=by
 simp [List.getD,List.getElem?_take,h,List.getElem?_drop]
theorem RepF.cut {R:Nat->Prop} {w:World} {c:EC} {l:List (T c)} {A:Option Addr} {n cap a b:Nat} (h:RepF R w (.ls (cv c) l) (.slice A n cap)) (h1:a<=b) (h2:b<=l.length) :
  n=l.length/\l.length<=cap/\RepF R w (.ls (cv c) ((l.drop a).take (b - a))) (.slice (if cap=a then A else A.map (·.add (a*szC c))) (b - a) (cap - a)):=by
 have hlen:((l.drop a).take (b - a)).length=b - a:=by simp;omega
 rcases h.QV with ⟨hl,Ad,c0,e,hm,hn⟩|⟨size,bb,off,cap',vals,e,hR,hb,hc,hm,hs,hcell,hrep⟩
 .cases e
  have:l=[]:=List.eq_nil_of_length_eq_zero hl;subst this;have ha:a=0:=by simp at h2;omega
  have hbb:b=0:=by simp at h2;omega
  subst ha hbb;refine ⟨rfl,Nat.zero_le _,?_⟩;show RepF R w (.slc 0 _) (.slice _ 0 _);refine RepF.empty (by omega) fun e=>?_;split at e
  .rw [hn e]
  .cases A with
   | none=>rw [hn rfl]
   | some _=>cases e
 .cases e
  refine ⟨rfl,hc,?_⟩;show RepF R w (.slc ((l.drop a).take (b - a)).length _) _;rw [hlen]
  by_cases hcl:cap=a
  .rw [if_pos hcl]
   exact RepF.slc _ _ (szC c) bb off _ vals hR hb (by omega) (by omega) (fun i hi=>by omega) (fun i j f hi=>by omega) (fun i j f hi=>by omega)
  .rw [if_neg hcl]
   simp only [Option.map_some,zah];have hel:∀i,i<b - a->lsEl (cv c) ((l.drop a).take (b - a)) i=lsEl (cv c) l (a+i):=fun i hi=>congrArg (cv c) (zj3 l a b i hi);have hsz:0<l.length->size=szC c:=fun hp=>by rw [<-hs 0 hp];exact kH c _
   refine RepF.slc _ _ (szC c) bb (off+a*szC c) _ (fun i j=>vals (a+i) j) hR hb (by omega) (by omega) (fun i hi=>kH c _) (fun i j f hi hj=>?_) (fun i j f hi hj=>?_)
   .rw [hel i hi] at hj
    have h5:=hcell (a+i) j f (by omega) hj;rw [hsz (by omega)] at h5;rw [<-h5]
    congr 2
    rw [Nat.add_mul];omega
   .rw [hel i hi] at hj
    exact hrep (a+i) j f (by omega) hj
section
variable {P:Program} {E:Operand->XA} {H:Nat->Option XB} {R:Type} {K:Upd->Option R} {r:R} {m:Option R} {x y:Operand} {t xT yT:TypeId} {q:Nat}
def bnd (E:Operand->XA) (x:Operand) (K:Nat->Option R):Option (Option R) :=
 match E x with
 | .one v=>match zbf v with
  | some n=>some (K n)
  | none=>match intOf v with
   | some (_,i)=>some (Md.ifp (0<=i) (K i.toNat))
   | none=>none
 | _=>none
theorem zak {x:Operand} {K:Nat->Option R} (h:bnd E x K=some m) (hm:m=some r):∃n,K n=some r/\∀{κ:Kn} {a:Act} (d:Nat),(∀x,RepA κ (E x) (a.eval x))->BndV (some (a.eval x)) d n:=by
 unfold bnd at h;split at h
 .rename_i v hx
  split at h
  .rename_i n hn
   cases h;exact ⟨n,hm,fun d hE=>⟨_,uh hE hx (KR hn)⟩⟩
  .split at h
   .rename_i k i hi
    cases h;obtain ⟨hg,hK⟩:=Md.Xb hm;exact ⟨_,hK,fun d hE=>⟨k,by rw [uh hE hx (zaQ hi),Int.toNat_of_nonneg hg]⟩⟩
   .cases h
 .cases h
inductive Cuts where
 | s (l:List UInt8)
 | ls (c:EC) (l:List (T c))
def Cuts.len:Cuts->Nat
 | .s l=>l.length
 | .ls _ l=>l.length
def Cuts.take:Cuts->Nat->XV
 | .s l,b=>.s (l.take b)
 | .ls c l,b=>.ls c (l.take b)
def Cuts.drop:Cuts->Nat->XV
 | .s l,a=>.s (l.drop a)
 | .ls c l,a=>.ls c (l.drop a)
def Cuts.mid:Cuts->Nat->Nat->XV
 | .s l,a,b=>.s ((l.drop a).take (b - a))
 | .ls c l,a,b=>.ls c ((l.drop a).take (b - a))
def zlY (P:Program) (t:TypeId):XA->Option Cuts
 | .one (.s l)=>match P.underlying t with
  | some .string=>some (.s l)
  | _=>none
 | .one (.ls c l)=>match slOf P t with
  | some (e,sz,_)=>bif Nat.beq (szC c) sz then some (.ls c l) else none
  | none=>none
 | _=>none
theorem zcR {qc:Cuts} {lo hi:Option Operand} (hq:zlY P t (E x)=some qc) {a b:Nat} (h1:a<=b) (h2:b<=qc.len) (hlo:∀{κ:Kn} {ac:Act},(∀x,RepA κ (E x) (ac.eval x))->BndV (lo.map ac.eval) 0 a) (hhi:∀{κ:Kn} {ac:Act},(∀x,RepA κ (E x) (ac.eval x))->BndV (hi.map ac.eval) qc.len b) :
  Says P E H (.slice t x lo hi none) (qc.mid a b).x:=by
 unfold zlY at hq;split at hq
 .rename_i l hx
  split at hq
  .rename_i hT
   cases hq;refine xM (u:=Sv ((l.drop a).take (b - a))) rfl rfl fun {κ ac o'} ho hE=>?_;have hb:=zcD (P:=P) (isS:=false) (w:=κ.w) (len:=l.length) (cap:=l.length) (hlo hE) (hhi hE) h1 h2;have hsz:(⟨l.toArray⟩:ByteArray).size=l.length:=by show l.toArray.size=_;simp
   have hex:(⟨l.toArray⟩:ByteArray).extract a b=⟨((l.drop a).take (b - a)).toArray⟩:=by
    apply ByteArray.ext;simp [ByteArray.data_extract]
   simp only [execOp,ho,uh hE hx rfl,Sem.run_bind,Sem.run_pure,Option.map_none,Instr.sliceAt,run_underlying hT,Result.andThen_ok,Instr.slice,hsz,hb,Option.isSome_none,Bool.false_eq_true,if_false,hex]
  .cases hq
 .rename_i c l hx
  split at hq
  .rename_i e sz by_ hT
   cases hz:Nat.beq (szC c) sz
   .rw [hz] at hq;cases hq
   .rw [hz,cond_true] at hq
    cases hq;have hz:=Nat.eq_of_beq_eq_true hz;subst hz;refine yS fun {κ ac o'} ho hE hH=>?_;have hr:=hE1 hE hx;obtain ⟨A,cap,hv⟩:=zfX hr;rw [hv] at hr;obtain ⟨_,h3,h4⟩:=RepF.cut hr h1 h2;have hrun:=zfa (P:=P) (w:=κ.w) (A:=A) (n:=l.length) hT (hlo hE) (hhi hE) h1 (Nat.le_trans h2 h3);refine ⟨_,?_,h4⟩;simp only [execOp,ho,hv,Sem.run_bind,Sem.run_pure,Option.map_none];rw [hrun];rfl
  .cases hq
 .cases hq
theorem znW (qc:Cuts) (b:Nat):qc.mid 0 b=qc.take b:=by cases qc<;>simp [Cuts.mid,Cuts.take]
theorem znX (qc:Cuts) (a:Nat):qc.mid a qc.len=qc.drop a:=by cases qc<;>simp [Cuts.mid,Cuts.drop,Cuts.len,<-List.length_drop]
def aCut (P:Program) (E:Operand->XA) (t:TypeId) (x:Operand) (lo hi:Option Operand) (K:Upd->Option R):Option (Option R) :=
 match zlY P t (E x),lo,hi with
 | some q,none,some h=>bnd E h fun b=>Md.ifp (b<=q.len) (K (q.take b).x)
 | some q,some l,none=>bnd E l fun a=>Md.ifp (a<=q.len) (K (q.drop a).x)
 | some q,some l,some h =>
  match bnd E h (fun _=>(none:Option R)) with
  | some _=>bnd E l fun a=>(bnd E h fun b=>Md.ifp (a<=b/\b<=q.len) (K (q.mid a b).x)).getD none
  | none=>none
 | _,_,_=>none
theorem zey {lo hi:Option Operand} (h:aCut P E t x lo hi K=some m) (hm:m=some r):∃u,K u=some r/\Says P E H (.slice t x lo hi none) u:=by
 unfold aCut at h;split at h
 .rename_i qc h1 hq
  obtain ⟨b,hb1,hb2⟩:=zak h hm;obtain ⟨hg,hK⟩:=Md.Xb hb1;refine ⟨_,hK,?_⟩;rw [<-znW];exact zcR hq (Nat.zero_le _) hg (fun _=>rfl) fun hE=>hb2 _ hE
 .rename_i qc l1 hq
  obtain ⟨a,hb1,hb2⟩:=zak h hm;obtain ⟨hg,hK⟩:=Md.Xb hb1;refine ⟨_,hK,?_⟩;rw [<-znX];exact zcR hq hg (Nat.le_refl _) (fun hE=>hb2 _ hE) fun _=>rfl
 .rename_i qc l1 h1 hq
  split at h
  .obtain ⟨a,ha1,ha2⟩:=zak h hm
   cases hbb:bnd E h1 (fun b=>Md.ifp (a<=b/\b<=qc.len) (K (qc.mid a b).x)) with
   | none=>rw [hbb] at ha1;cases ha1
   | some mm =>
    rw [hbb] at ha1;obtain ⟨b,hb1,hb2⟩:=zak hbb ha1;obtain ⟨hg,hK⟩:=Md.Xb hb1;exact ⟨_,hK,zcR hq hg.1 hg.2 (fun hE=>ha2 _ hE) fun hE=>hb2 _ hE⟩
  .cases h
 .cases h
def zeD (P:Program) (E:Operand->XA) (H:Nat->Option XB) (t:TypeId) (x hi:Operand) (q:Nat) (K:Upd->Option R):Option (Option R) :=
 match E x,slOf P t with
 | .one (.own id),some (e,sz,_)=>match H id with
  | some (.row e' c l)=>bif Nat.beq (szC c) sz&&Nat.beq e e' then bnd E hi fun b=>Md.ifp (b<=l.length) (K ⟨.one (.own q),[(q,some (.row e' c (l.take b))),(id,none)],[q],[id]⟩) else none
  | _=>none
 | _,_=>none
theorem add_zero' (A:Option Addr) (c sz:Nat):(if c=0 then A else A.map (·.add (0*sz)))=A:=by
 split
 .rfl
 .cases A with
  | none=>rfl
  | some a=>simp [Addr.add]
theorem zgu {hi:Operand} (h:zeD P E H t x hi q K=some m) (hm:m=some r):∃u,K u=some r/\Says P E H (.slice t x none (some hi) none) u:=by
 unfold zeD at h;split at h
 .rename_i id e sz by_ hx hT
  split at h
  .rename_i e' c l hb
   cases hz:(Nat.beq (szC c) sz&&Nat.beq e e')
   .rw [hz] at h;cases h
   .rw [hz,cond_true] at h
    rw [Bool.and_eq_true] at hz;have hz1:=Nat.eq_of_beq_eq_true hz.1;have hz2:=Nat.eq_of_beq_eq_true hz.2;subst hz1 hz2;obtain ⟨b,hb1,hb2⟩:=zak h hm;obtain ⟨hg,hK⟩:=Md.Xb hb1;refine ⟨_,hK,⟨fun {κ a o'} ho hE hH hW hf K Q hKK=>?_⟩⟩;have hr:=hE1 hE hx;obtain ⟨hN,vs,h1,h2⟩:=hH.blk hb;obtain ⟨A,cap,h3,h4,h5,h6⟩:=h1.slice;have hrun:=zfa (P:=P) (w:=κ.w) (A:=A) (n:=l.length) (cap:=cap) (lo:=none) (l:=0) hT rfl (hb2 _ hE) (Nat.zero_le _) (Nat.le_trans hg h4);rw [add_zero',Nat.sub_zero,Nat.sub_zero] at hrun;have hop:(execOp a.eval o').run P κ.w=.ok (.value (.slice A b cap)) κ.w:=by
     simp only [execOp,ho,hr.2.1,h3,Sem.run_bind,Sem.run_pure,Option.map_none];rw [show (some hi:Option Operand).map a.eval=some (a.eval hi) from rfl,hrun];rfl
    unfold Oper.wp;rw [hop];have hq:¬κ.N q:=hf q (List.mem_singleton.2 rfl);refine hKK _ (κ.bind q (.slice A b cap) κ.w) (XJ (x:=.row e c (l.take b)) (v:=.one (.own q)) (wr:=[id]) (u:=.slice A b cap) (w':=κ.w) hH hW hq (Fr.refl _ _) ⟨vs.take (b*szC c),?_,?_⟩ ⟨.inr rfl,jH.symm,rfl⟩ fun _ g hg2=>.inl ⟨id,_,List.mem_singleton.2 rfl,hb,rfl,?_⟩)
    .rw [jH,List.length_take,Nat.min_eq_left hg]
     have hmul:b*szC c<=l.length*szC c:=Nat.mul_le_mul_right _ hg;refine ⟨by rw [List.length_take,h1.1];omega,?_⟩;rcases h1.2 with ⟨g1,A',g2⟩|⟨g,cap',cur,g2,g3,g4,g5,g6,g7⟩
     .rw [h3] at g2
      injection g2 with _ _ g5
      exact .inl ⟨by omega,A,by rw [g5];congr 1;omega⟩
     .rw [h3] at g2
      cases g2;refine .inr ⟨g,cap',cur,rfl,g3,by omega,g5,g6,?_⟩;rw [<-g7,List.take_take,Nat.min_eq_left hmul]
    .show All2 _ _ _
     rw [VL];exact All2.take (h2.mono (QF (wr:=[]) hH hq (Fr.refl _ _))) _
    .rw [h3]
     cases A with
     | none=>cases cap<;>cases hg2
     | some a=>cases cap<;>first|(cases hg2;rfl)|cases hg2
  .cases h
 .cases h
def zlI (P:Program) (E:Operand->XA) (H:Nat->Option XB) (t:TypeId) (x lo:Operand) (K:Upd->Option R):Option (Option R) :=
 match E x,slOf P t with
 | .one (.own id),some (e,sz,_)=>match H id with
  | some (.row e' c l)=>bif Nat.beq (szC c) sz then bnd E lo fun b=>Md.ifp (b<=l.length) (K (XV.vw id sz b).x) else none
  | _=>none
 | _,_=>none
theorem zjz {lo:Operand} (h:zlI P E H t x lo K=some m) (hm:m=some r):∃u,K u=some r/\Says P E H (.slice t x (some lo) none none) u:=by
 unfold zlI at h;split at h
 .rename_i id e sz by_ hx hT
  split at h
  .rename_i e' c l hb
   cases hz:Nat.beq (szC c) sz
   .rw [hz] at h;cases h
   .rw [hz,cond_true] at h
    have hz:=Nat.eq_of_beq_eq_true hz;subst hz;obtain ⟨b,hb1,hb2⟩:=zak h hm;obtain ⟨hg,hK⟩:=Md.Xb hb1;refine ⟨_,hK,yS fun {κ a o'} ho hE hH=>?_⟩;have hr:=hE1 hE hx;obtain ⟨A,cap,news,h3,h4,h5,h6,h7,h8⟩:=zff hH hb;have hrun:=zfa (P:=P) (w:=κ.w) (A:=A) (n:=l.length) (cap:=cap) (hi:=none) (h:=l.length) hT (hb2 0 hE) rfl hg h4;refine ⟨_,?_,hr.1,(if cap=b then A else A.map (·.add (b*szC c))),l.length - b,cap - b,A,cap,rfl,by rw [h3];congr 1;omega,by omega,by omega,fun e=>?_,fun h0=>?_⟩
    .simp only [execOp,ho,hr.2.1,h3,Sem.run_bind,Sem.run_pure,Option.map_none]
     rw [show (some lo:Option Operand).map a.eval=some (a.eval lo) from rfl,hrun];rfl
    .split at e
     .omega
     .cases A with
      | none=>rw [h6 rfl];omega
      | some a=>cases e
    .obtain ⟨_,vs,g1,_⟩:=hH.blk hb
     rcases g1.2 with ⟨g2,_⟩|⟨g,cap',cur,g2,_⟩
     .omega
     .rw [h3] at g2
      cases g2;refine ⟨g,rfl,?_⟩;rw [if_neg (by omega)];simp [zah]
  .cases h
 .cases h
def zlF (P:Program) (E:Operand->XA) (t:TypeId) (x hi mx:Operand) (K:Upd->Option R):Option (Option R) :=
 match E x,slOf P t,E hi,E mx with
 | .one (.ls c l),some (e,sz,_),.one p,.one p'=>match int64 p,int64 p' with
  | some i,some j=>bif Nat.beq (szC c) sz then some (Md.ifp (i=j) (Md.ifp (0<=i/\i<=(l.length:Int)) (K (XV.fl c (l.take i.toNat)).x))) else none
  | _,_=>none
 | _,_,_,_=>none
theorem zjx {hi mx:Operand} (h:zlF P E t x hi mx K=some m) (hm:m=some r):∃u,K u=some r/\Says P E H (.slice t x none (some hi) (some mx)) u:=by
 unfold zlF at h;split at h
 .rename_i c l e sz by_ p p' hx hT hp hp'
  split at h
  .rename_i i j h1 h2
   cases hz:Nat.beq (szC c) sz
   .rw [hz] at h;cases h
   .rw [hz,cond_true] at h
    have hz:=Nat.eq_of_beq_eq_true hz;subst hz;cases h;obtain ⟨hij,hm2⟩:=Md.Xb hm;subst hij;obtain ⟨⟨h3,h4⟩,hK⟩:=Md.Xb hm2;obtain ⟨b,rfl⟩:=Int.eq_ofNat_of_zero_le h3;refine ⟨_,hK,yS fun {κ a o'} ho hE hH=>?_⟩;have hr:=hE1 hE hx;obtain ⟨A,cap,hv⟩:=zfX hr;rw [hv] at hr;obtain ⟨_,h5,h6⟩:=RepF.cut hr (Nat.zero_le b) (by omega);have e1:=uh hE hp (YW h1);have e2:=uh hE hp' (YW h2);have:TSl P t e (szC c) by_:=⟨hT⟩;have El:=TSl.elem (P:=P) (t:=t) (e:=e) (sz:=szC c) (bytes:=by_);have hb:(Instr.sliceBounds true l.length cap none (some (.int .i64 (b:Int))) (some (.int .i64 (b:Int)))).run P κ.w=.ok (0,b,b) κ.w:=by
     have:b<=cap:=by omega
     simp [Instr.sliceBounds,Instr.sliceBound,asIntOf,this]
    have hlb:(l.take b).length=b:=by simp;omega
    refine ⟨.slice (if b=0 then A else A.map (·.add (0*szC c))) b b,?_,?_⟩
    .simp only [execOp,ho,hv,e1,e2,Option.map_none,Option.map_some,Sem.run_bind,Instr.sliceAt,run_underlying El.slice,Result.andThen_ok,Instr.slice,hb,TSl.jl (P:=P) (t:=t) (e:=e) (sz:=szC c) (bytes:=by_),Sem.run_pure,Nat.sub_zero]
    .show RepF _ _ (.full (l.take b).length _) _
     rw [hlb,add_zero'];rw [add_zero',Nat.sub_zero,Nat.sub_zero,List.drop_zero] at h6;refine RepF.full b _ _ ?_;have h6:RepF κ.R κ.w (.slc (l.take b).length (lsEl (cv c) (l.take b))) _:=h6;rw [hlb] at h6;rcases h6.QV with ⟨rfl,Ad,c0,e0,_,hn⟩|⟨size,bb,off,cap',vals,e0,hR,hbb,hc,hmx,hs,hcell,hrep⟩
     .exact RepF.empty (by unfold maxLen;decide) fun _=>rfl
     .cases e0
      exact RepF.slc b _ size bb off b vals hR hbb (Nat.le_refl _) (by omega) hs hcell hrep
  .cases h
 .cases h
def zhe (P:Program) (E:Operand->XA) (H:Nat->Option XB) (xT yT:TypeId) (x:Operand):Option XV :=
 match P.underlying yT,P.underlying xT with
 | some .string,some (.slice e)=>match P.underlying e,listOf E H x with
  | some (.int .u8),some ⟨.u8,l⟩=>some (.s l)
  | _,_=>none
 | _,_=>none
theorem zcM {R:Nat->Prop} {w:World}:∀{vs us:List Value},All2 (RepF R w) (vs.map FV.val) us->us=vs
 | [],_,h=>by cases h;rfl
 | v::vs,_,h=>by cases h with|cons a t=>cases a;rw [zcM t]
theorem zeT:∀l:List UInt8,flat .u8 l=(l.map fun (b:UInt8)=>Value.int .u8 (b.toNat:Int)).map FV.val
 | []=>rfl
 | b::l=>by
  have:=zeT l;unfold flat at this ⊢;rw [List.flatMap_cons,this];rfl
theorem zhf {v:XV} (h:zhe P E H xT yT x=some v):Says P E H (.convert xT yT x) v.x:=by
 unfold zhe at h;split at h
 .rename_i e hds hsr
  split at h
  .rename_i l he hl
   cases h;refine yS fun {κ a o'} ho hE hH=>⟨Sv l,?_,RepF.val _ rfl⟩;obtain ⟨Ad,cap,news,h1,_,_,_,h2,h3⟩:=Qo hE hH (show 0<szC .u8 by decide) hl;have hnews:news=l.map fun b=>Value.int .u8 (b.toNat:Int):=by
    have h3:All2 (RepF κ.R κ.w) (flat .u8 l) news:=h3;rw [zeT] at h3;exact zcM h3
   subst hnews;have hrun:(convert xT yT (a.eval x)).run P κ.w=.ok (.string ⟨l.toArray⟩) κ.w:=by
    rw [h1];cases Ad with
    | none =>
     have hl:l=[]:=by
      cases l with
      | nil=>rfl
      | cons b r=>obtain ⟨_,_,e,_⟩:=h2 (by simp);cases e
     subst hl;exact run_convert_bytes_nil (P:=P) κ.w xT e hsr he _ _ yT hds
    | some ad =>
     have hcells:(loadCells ad l.length).run P κ.w=.ok ((l.map fun b=>(b.toNat:Int)).map (Value.int .u8)).toArray κ.w:=by
      have h3:=run_loadCells_list (P:=P) κ.w ad (l.map fun b=>Value.int .u8 (b.toNat:Int)) (fun j v hj=>by
       obtain ⟨b,off,e,_,hc⟩:=h2 (by intro e;rw [e] at hj;simp at hj);injection e with e
       subst e;rw [zah];exact hc j v hj)
      rw [List.length_map] at h3;rw [h3,List.map_map];rfl
     rw [run_convert_bytes_string κ.w xT yT e _ l.length cap hsr he hds,run_bytesToString κ.w ad l.length cap _ hcells,foldl_push_bytes];have hmm:(l.map fun b=>(b.toNat:Int)).map (fun n=>UInt8.ofNat n.toNat)=l:=by
      rw [List.map_map]
      conv=>rhs;rw [<-List.map_id l]
      exact List.map_congr_left fun b _=>by simp
     rw [hmm];simp [ByteArray.empty,ByteArray.emptyWithCapacity];rfl
   simp only [execOp,ho,Sem.run_bind,hrun,Result.andThen_ok,Sem.run_pure]
  .cases h
 .cases h
end
end G
end Go.Proofs.YtbijabmjbgplbaaGreatDoor
namespace Go.Proofs.YtbijabmjbgplbaaGreatDoor
open Go.ChangeShapes Go.WideShapes Go.RowKit
namespace G
def splice {α:Type} (l:List α) (off:Nat) (new:List α):List α:=l.take off++new++l.drop (off+new.length)
theorem QW {α:Type} (l:List α) (off:Nat) (new:List α) (h:off+new.length<=l.length):(splice l off new).length=l.length:=by
 unfold splice;simp;omega
theorem All2.splice {α β:Type} {R:α->β->Prop} {xs:List α} {ys:List β} (h:All2 R xs ys) (off:Nat) {ns:List α} {ms:List β} (h2:All2 R ns ms):All2 R (splice xs off ns) (splice ys off ms):=by
 unfold G.splice;rw [h2.length];exact ((h.take off).append h2).append (h.drop _)
theorem All2.one {κ:Kn} {cs:List XV} {us:List Value} (h:All2 (RepX κ) cs us) (hs:cs.all solid=true):∀u,u∈us->u.oneCell'=true:=fun u hu=>by
 obtain ⟨j,hj⟩:=List.mem_iff_getElem?.1 hu;obtain ⟨c,h1,h2⟩:=h.getR hj;exact h2.one (List.all_eq_true.1 hs c (List.mem_of_getElem? h1))
theorem Fr.setRow {T:Nat->Prop} (w:World) (b:Nat) (vs:Array Value) (h:T b):Fr T w (w.setRow b vs):=⟨rfl,rfl,rfl,by simp,fun g _ hn=>setRow_other w b g vs fun e=>hn (e▸h)⟩
section
variable {P:Program} {E:Operand->XA} {H:Nat->Option XB} {R:Type} {K:Upd->Option R} {r:R} {m:Option R} {x y:Operand} {t xT yT:TypeId} {q:Nat}
def zhc (P:Program) (E:Operand->XA) (H:Nat->Option XB) (t:TypeId) (x y:Operand) (K:Upd->Option R):Option (Option R) :=
 match E x,zdH (E y),varOf P t with
 | .one (.p id off),some new,some (agg,n) =>
  match H id with
  | some (.box cs)=>bif Nat.beq new.length n&&(Nat.ble (off+n) cs.length&&new.all solid) then some (K ⟨.one .any,[(id,some (.box (splice cs off new)))],[],[id]⟩) else none
  | _=>none
 | .one (.rp id sz j o),some new,some (agg,n) =>
  match H id with
  | some (.row e c l)=>bif Nat.beq sz (szC c)&&(Nat.beq new.length n&&(Nat.ble (o+n) sz&&new.all solid)) then
    (match mk c (splice (cells c (l.getD j default)) o new) with
    | some z=>some (Md.ifp (j<l.length) (K ⟨.one .any,[(id,some (.row e c (l.set j z)))],[],[id]⟩))
    | none=>none) else none
  | _=>none
 | _,_,_=>none
theorem zj0 (c:EC) (l:List (T c)) (j:Nat) (z:T c) (h:j<l.length):flat c (l.set j z)=splice (flat c l) (j*szC c) (cv c z):=by
 have h1:l.set j z=l.take j++[z]++l.drop (j+1):=by
  apply List.ext_getElem?;intro i;rw [List.getElem?_set];simp only [List.getElem?_append,List.length_append,List.length_take,List.getElem?_take,List.getElem?_drop,List.length_singleton];have hmin:min j l.length=j:=by omega
  rw [hmin]
  by_cases hij:j=i
  .subst hij
   rw [if_pos rfl,if_pos h,if_pos (by omega),if_neg (by omega)];simp
  .rw [if_neg hij]
   by_cases hlt:i<j
   .rw [if_pos (by omega),if_pos hlt,if_pos hlt]
   .rw [if_neg (by omega)]
    congr 1
    omega
 rw [h1,JZ,JZ,VL,Xa];unfold splice;rw [kH,show j*szC c+szC c=(j+1)*szC c by rw [Nat.succ_mul]]
 congr 2
 simp [flat]
theorem zdk {β:Type} (L:List β) (A o:Nat) (S new:List β) (hS:S=(L.drop A).take S.length) (hA:A+S.length<=L.length) (ho:o+new.length<=S.length):splice L A (splice S o new)=splice L (A+o) new:=by
 have hs:(splice S o new).length=S.length:=QW S o new ho;apply List.ext_getElem?;intro i;have e1:∀k,k<S.length->S[k]?=L[A+k]?:=fun k hk=>by
  have h1:S[k]?=((L.drop A).take S.length)[k]?:=by rw [<-hS]
  rw [h1,List.getElem?_take,if_pos hk,List.getElem?_drop]
 unfold splice at hs ⊢;simp only [List.getElem?_append,List.length_append,List.length_take,List.length_drop,List.getElem?_take,List.getElem?_drop] at hs ⊢;have m1:min A L.length=A:=by omega
 have m2:min o S.length=o:=by omega
 have m3:min (A+o) L.length=A+o:=by omega
 rw [m1,m2,m3]
 by_cases h1:i<A
 .rw [if_pos (by omega),if_pos h1,if_pos h1,if_pos (by omega),if_pos (by omega),if_pos (by omega)]
 .by_cases h2:i<A+o
  .rw [if_pos (by omega),if_neg h1,if_pos (by omega),if_pos (by omega),if_pos (by omega),if_pos (by omega),if_pos h2,if_pos h2,e1 _ (by omega)]
   congr 1
   omega
  .by_cases h3:i<A+o+new.length
   .rw [if_pos (by omega),if_neg h1,if_pos (by omega),if_neg (by omega),if_pos h3,if_neg h2]
    congr 1
    omega
   .rw [if_neg h3]
    by_cases h4:i<A+S.length
    .rw [if_pos (by omega),if_neg h1,if_neg (by omega),e1 _ (by omega)]
     congr 1
     omega
    .rw [if_neg (by omega)]
     congr 1
     omega
theorem zhd (h:zhc P E H t x y K=some m) (hm:m=some r):∃u,K u=some r/\Says P E H (.store t x y) u:=by
 unfold zhc at h;split at h
 .rename_i id off new agg n hx hy hT
  split at h
  .rename_i cs hb
   cases hc:(Nat.beq new.length n&&(Nat.ble (off+n) cs.length&&new.all solid))
   .rw [hc] at h;cases h
   .rw [hc,cond_true] at h
    cases h;simp only [Bool.and_eq_true] at hc;obtain ⟨h1,h2,h3⟩:=hc;have h1:=Nat.eq_of_beq_eq_true h1;have h2:=Nat.le_of_ble_eq_true h2;refine ⟨_,hm,⟨fun {κ a o'} ho hE hH hW hf K Q hK=>?_⟩⟩;obtain ⟨us,hus,g2⟩:=JY hy (hE y);obtain ⟨hN,b,g3,g4⟩:=hE1 hE hx;obtain ⟨_,b',vs,ty',g5,g6,g7⟩:=hH.blk hb;rw [g3] at g5;simp only [Value.pointer.injEq,Option.some.injEq,Addr.mk.injEq,and_true] at g5;subst g5;have hlen:=g7.length;have hlu:=g2.length;simp only [Array.length_toList] at hlen;have hst:=run_storeCells_at (P:=P) b off ty' us 0 vs κ.w g6 (by omega) (g2.one h3);simp only [Nat.add_zero] at hst;have hTV:TVar P t agg n:=⟨hT⟩;have hrun:(execOp a.eval o').run P κ.w=.ok .skip (κ.w.setRow b (splice vs.toList off us).toArray):=by
     have hsz:us.length=n:=by omega
     have hst:(storeCells ⟨b,off,none⟩ us 0).run P κ.w=.ok () (κ.w.setRow b (splice vs.toList off us).toArray):=hst;simp [execOp,ho,Instr.storeAt,g4,Instr.sureAddr,storeVar,hus,jl (P:=P) (t:=t) (agg:=agg) (n:=n),hsz,hst]
    unfold Oper.wp;rw [hrun];have hfr:Fr (fun g=>yV (κ.ρ id)=some g) κ.w (κ.w.setRow b (splice vs.toList off us).toArray):=Fr.setRow _ _ _ (by rw [g3];rfl);have hle:κ.Le (κ.to (κ.w.setRow b (splice vs.toList off us).toArray)):=zkJ (wr:=[id]) hH (hfr.mono fun g _ hg=>⟨id,_,List.mem_singleton.2 rfl,hb,rfl,hg⟩);exact hK _ (κ.to _) (zaM hH hb rfl hfr ⟨b,_,ty',g3,setRow_heap κ.w b vs _ ty' (0,0) g6,(g7.splice off g2).imp fun _ _ k=>k.mono hle⟩ rfl trivial)
  .cases h
 .rename_i id sz j o new agg n hx hy hT
  split at h
  .rename_i e c l hb
   cases hc:(Nat.beq sz (szC c)&&(Nat.beq new.length n&&(Nat.ble (o+n) sz&&new.all solid)))
   .rw [hc] at h;cases h
   .rw [hc,cond_true] at h
    simp only [Bool.and_eq_true] at hc;obtain ⟨h0,h1,h2,h3⟩:=hc;have h0:=Nat.eq_of_beq_eq_true h0;have h1:=Nat.eq_of_beq_eq_true h1;have h2:=Nat.le_of_ble_eq_true h2;subst h0;split at h
    .rename_i z hz
     cases h;obtain ⟨hj,hK⟩:=Md.Xb hm;refine ⟨_,hK,⟨fun {κ a o'} ho hE hH hW hf K Q hK=>?_⟩⟩;obtain ⟨us,hus,g2⟩:=JY hy (hE y);obtain ⟨hN,b,g30,g4⟩:=hE1 hE hx;obtain ⟨_,vs,g5,g6⟩:=hH.blk hb;have hvl:=g5.1;rcases g5.2 with ⟨g7,_⟩|⟨g,cap,cur,g8,g9,g10,g11,g12,g13⟩
     .omega
     obtain ⟨n',c',g3⟩:∃n' c',κ.ρ id=.slice (some ⟨b,0,none⟩) n' c':=g30.resolve_left fun e=>by rw [g8] at e;cases e
     rw [g3] at g8;simp only [Value.slice.injEq,Option.some.injEq,Addr.mk.injEq,and_true] at g8;obtain ⟨rfl,rfl,rfl⟩:=g8;have hlu:=g2.length;have hlsz:j*szC c+szC c<=l.length*szC c:=by
      have:=Nat.mul_le_mul_right (szC c) (Nat.succ_le_of_lt hj);rwa [Nat.succ_mul] at this
     have hcap:l.length*szC c<=(cap+1)*szC c:=Nat.mul_le_mul_right _ g10;have hst:=run_storeCells_at (P:=P) b (j*szC c+o) e us 0 cur κ.w g9 (by omega) (g2.one h3);simp only [Nat.add_zero] at hst;have hTV:TVar P t agg n:=⟨hT⟩;have hrun:(execOp a.eval o').run P κ.w=.ok .skip (κ.w.setRow b (splice cur.toList (j*szC c+o) us).toArray):=by
      have hsz:us.length=n:=by omega
      have hst:(storeCells ⟨b,j*szC c+o,none⟩ us 0).run P κ.w=.ok () (κ.w.setRow b (splice cur.toList (j*szC c+o) us).toArray):=hst;simp [execOp,ho,Instr.storeAt,g4,Instr.sureAddr,storeVar,hus,jl (P:=P) (t:=t) (agg:=agg) (n:=n),hsz,hst]
     unfold Oper.wp;rw [hrun];have hfr:Fr (fun g=>yV (κ.ρ id)=some g) κ.w (κ.w.setRow b (splice cur.toList (j*szC c+o) us).toArray):=Fr.setRow _ _ _ (by rw [g3];rfl);have hle:κ.Le (κ.to (κ.w.setRow b (splice cur.toList (j*szC c+o) us).toArray)):=zkJ (wr:=[id]) hH (hfr.mono fun g _ hg=>⟨id,_,List.mem_singleton.2 rfl,hb,rfl,hg⟩);have hcl:cur.toList.length=(cap+1)*szC c:=by simpa using g12
     have hsl:(splice cur.toList (j*szC c+o) us).length=cur.toList.length:=QW _ _ _ (by omega);refine hK _ (κ.to _) (zaM hH hb rfl hfr ⟨splice vs (j*szC c+o) us,?_,?_⟩ rfl trivial)
     .rw [List.length_set]
      refine ⟨by rw [QW _ _ _ (by omega)];exact hvl,.inr ⟨b,cap,_,g3,setRow_heap κ.w b cur _ e _ g9,g10,g11,by simpa [hsl] using hcl,?_⟩⟩;rw [<-g13];unfold splice;rw [List.take_append,List.take_append,List.take_take,List.take_take,List.drop_take,List.length_append,List.length_take];have e1:min (l.length*szC c) (j*szC c+o)=j*szC c+o:=by omega
      have e2:min (j*szC c+o) cur.toList.length=j*szC c+o:=by omega
      have e3:min (j*szC c+o) (l.length*szC c)=j*szC c+o:=by omega
      rw [e1,e3,List.take_of_length_le (l:=us) (by rw [e2];omega),e2]
     .show All2 _ _ _
      rw [zj0 c l j z hj];have hS:cv c (l.getD j default)=((flat c l).drop (j*szC c)).take (cv c (l.getD j default)).length:=by
       apply List.ext_getElem?;intro i;rw [kH,List.getElem?_take]
       by_cases hi:i<szC c
       .rw [if_pos hi,List.getElem?_drop,zaO c l j i hj hi]
       .rw [if_neg hi,List.getElem?_eq_none (by rw [kH];omega)]
      have hcell:All2 (RepX κ) (cells c (l.getD j default)) ((vs.drop (j*szC c)).take (szC c)):=by
       refine (uo (qY c _)).2 ?_;rw [hS,kH];exact All2.take (All2.drop g6 _) _
      have hnew:=zbS hz (hcell.splice o g2);have hnewF:=(uo (qY c z)).1 hnew;have hvdrop:((vs.drop (j*szC c)).take (szC c)).length=szC c:=by rw [List.length_take,List.length_drop];omega
      have hsp:=zdk vs (j*szC c) o ((vs.drop (j*szC c)).take (szC c)) us (by rw [hvdrop]) (by rw [hvdrop];omega) (by rw [hvdrop];omega);rw [<-hsp];exact (All2.splice g6 _ hnewF).imp fun _ _ k=>RepF.mono hle k
    .cases h
  .cases h
 .cases h
def zcJ (P:Program) (E:Operand->XA) (H:Nat->Option XB) (t:TypeId) (x:Operand) (K:Upd->Option R):Option (Option R) :=
 match E x,varOf P t with
 | .one (.rp id sz j o),some (agg,n) =>
  match H id with
  | some (.row e c l)=>bif Nat.beq sz (szC c) then
    (match ze8 agg n ((cells c (l.getD j default)).drop o) with
    | some v=>some (Md.ifp (j<l.length) (K v.x))
    | none=>none) else none
  | _=>none
 | _,_=>none
theorem zeB (h:zcJ P E H t x K=some m) (hm:m=some r):∃u,K u=some r/\Says P E H (.load t x) u:=by
 unfold zcJ at h;split at h
 .rename_i id sz j o agg n hx hT
  split at h
  .rename_i e c l hb
   cases hz:Nat.beq sz (szC c)
   .rw [hz] at h;cases h
   .rw [hz,cond_true] at h
    have hz:=Nat.eq_of_beq_eq_true hz;subst hz;split at h
    .rename_i v hv
     cases h;obtain ⟨hj,hK⟩:=Md.Xb hm;refine ⟨_,hK,yS fun {κ a o'} ho hE hH=>?_⟩;obtain ⟨hN,b,g30,g4⟩:=hE1 hE hx;obtain ⟨_,vs,g5,g6⟩:=hH.blk hb;rcases g5.2 with ⟨g7,_⟩|⟨g,cap,cur,g8,g9,g10,g11,g12,g13⟩
     .omega
     obtain ⟨n',c',g3⟩:∃n' c',κ.ρ id=.slice (some ⟨b,0,none⟩) n' c':=g30.resolve_left fun e=>by rw [g8] at e;cases e
     rw [g3] at g8;simp only [Value.slice.injEq,Option.some.injEq,Addr.mk.injEq,and_true] at g8;obtain ⟨rfl,rfl,rfl⟩:=g8;have hS:cv c (l.getD j default)=((flat c l).drop (j*szC c)).take (szC c):=by
      apply List.ext_getElem?;intro i;rw [List.getElem?_take]
      by_cases hi:i<szC c
      .rw [if_pos hi,List.getElem?_drop,zaO c l j i hj hi]
      .rw [if_neg hi,List.getElem?_eq_none (by rw [kH];omega)]
     have hcell:All2 (RepX κ) (cells c (l.getD j default)) ((vs.drop (j*szC c)).take (szC c)):=by
      refine (uo (qY c _)).2 ?_;rw [hS];exact All2.take (All2.drop g6 _) _
     refine zc3 ho hT (us:=((vs.drop (j*szC c)).take (szC c)).drop o) ⟨b,j*szC c+o,g4,fun k u hu=>?_⟩ (hcell.drop o) (zbY hv);rw [cell_of_row _ b _ cur e (0,0) g9];rw [List.getElem?_drop,List.getElem?_take] at hu;split at hu
     .rw [List.getElem?_drop,<-g13,List.getElem?_take] at hu
      split at hu
      .rw [<-Array.getElem?_toList,<-hu]
       congr 1
       omega
      .cases hu
     .cases hu
    .cases h
  .cases h
 .cases h
def zez (P:Program) (E:Operand->XA) (t:TypeId) (x y:Operand) (K:Upd->Option R):Option (Option R) :=
 match zhp P t,E x,E y with
 | some (len,e,1,false),.one (.p id 0),.one v=>idx v len fun j=>K (XV.rp id 1 j 0).x
 | _,_,_=>none
theorem zgt (h:zez P E t x y K=some m) (hm:m=some r):∃u,K u=some r/\Says P E H (.indexAddr t x y) u:=by
 unfold zez at h;split at h
 .rename_i len e id v hT hx hy
  obtain ⟨j,k,i,hK,hv,hi,hj⟩:=zdZ h hm;refine ⟨_,hK,yS fun {κ a o'} ho hE hH=>?_⟩;have hTA:TArr P t len e 1 false:=⟨hT⟩;obtain ⟨hu,hV⟩:=TArr.parts (P:=P) (t:=t) (len:=len) (e:=e) (sz:=1) (agg:=false);have e2:=uh hE hy hv;obtain ⟨hN,b,g3,g4⟩:=hE1 hE hx;have h1:(0:Int)<=i/\i<(len:Int):=by omega
  have h2:i.toNat=j:=by omega
  have hs:(Instr.sureAddr (.pointer (some ⟨b,0,none⟩))).run P κ.w=.ok ⟨b,0,none⟩ κ.w:=by simp [Instr.sureAddr,asAddr]
  refine ⟨.pointer (some ⟨b,j*1+0,none⟩),?_,hN,b,.inl g3,rfl⟩;simp [execOp,ho,Instr.indexAt,e2,asIntOf,run_underlying hu,g4,hs,h1.1,h1.2,h2,jl (P:=P) (t:=e) (agg:=false) (n:=1),zah]
 .cases h
def bools:List XV->Option (List Bool)
 | []=>some []
 | c::r=>match Qe c,bools r with
  | some b,some l=>some (b::l)
  | _,_=>none
theorem zdF {κ:Kn}:∀{cs:List XV} {ls:List Bool} {vs:List Value},bools cs=some ls->All2 (RepX κ) cs vs->∀j,j<ls.length->vs[j]?=some (.bool (ls.getD j false))
 | [],ls,vs,h,hr,j,hj=>by cases h;simp at hj
 | c::cs,ls,vs,h,hr,j,hj=>by
  unfold bools at h;split at h
  .rename_i b l h1 h2
   cases h;cases hr with
   | cons a t =>
    cases j with
    | zero=>simpa using WU (Ut h1) a
    | succ j=>simpa using zdF h2 t j (by simpa using hj)
  .cases h
def zcI (P:Program) (E:Operand->XA) (H:Nat->Option XB) (t:TypeId) (x:Operand) (K:Upd->Option R):Option (Option R) :=
 match E x,varOf P t with
 | .one (.rp id 1 j 0),some (false,1) =>
  match H id with
  | some (.box cs)=>match bools cs with
   | some l=>some (Md.ifp (j<l.length) (K (XV.b (l.getD j false)).x))
   | none=>none
  | _=>none
 | _,_=>none
theorem zeA (h:zcI P E H t x K=some m) (hm:m=some r):∃u,K u=some r/\Says P E H (.load t x) u:=by
 unfold zcI at h;split at h
 .rename_i id j hx hT
  split at h
  .rename_i cs hb
   split at h
   .rename_i l hl
    cases h;obtain ⟨hj,hK⟩:=Md.Xb hm;refine ⟨_,hK,yS fun {κ a o'} ho hE hH=>?_⟩;obtain ⟨hN,b,g3,g4⟩:=hE1 hE hx;obtain ⟨_,b',vs,ty,g5,g6,g7⟩:=hH.blk hb;have g8:b'=b:=by
     rcases g3 with g3|⟨n,c,g3⟩
     .rw [g3] at g5;cases g5;rfl
     .rw [g3] at g5;cases g5
    subst g8;have hv:=zdF hl g7 j hj;refine zc3 (r:=.one (.b (l.getD j false))) ho hT (cs:=[.b (l.getD j false)]) (us:=[.bool (l.getD j false)]) ⟨b',j*1+0,g4,fun k u hu=>?_⟩ (.cons (RepF.val _ rfl) .nil) (.inr ⟨rfl,_,rfl,rfl⟩);rw [cell_of_row _ b' _ vs ty (0,0) g6];cases k with
    | zero =>
     simp at hu;subst hu;simpa using hv
    | succ k=>simp at hu
   .cases h
  .cases h
 .cases h
end
end G
end Go.Proofs.YtbijabmjbgplbaaGreatDoor
