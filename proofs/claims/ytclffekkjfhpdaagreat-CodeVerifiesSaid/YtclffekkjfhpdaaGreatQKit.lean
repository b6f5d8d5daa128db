import Derived.Handy
import Derived.BigQuiet
import Derived.Deep.QuietTactic
import Derived.Deep.Slices
import Derived.Deep.Fields
import Derived.Deep.AppendLies
import Derived.Lib.Hide
import Derived.WalkLawsBesides
import Derived.WalkSpells
import Derived.ProofKit
import Derived.ChangeOld
import Derived.Deep.RegionHeld3
import Derived.Deep.DrawnRows
namespace Go.Proofs.YtclffekkjfhpdaaGreat
open Go.ChangeShapes Go.WideShapes Go.RowKit
namespace Kit
theorem keep_cell {W w1:World} (hb:Below W.heap.size W w1) {p:Addr} {v:Value} (h:W.cell? p=some v):w1.cell? p=some v :=
 (hb.cell (World.block_lt_of_cell? W p h)).trans h
def Kept (B:Nat) (w w':World):Prop:=∀p:Addr,p.block<B→w'.cell? p=w.cell? p
theorem Kept.refl (B:Nat) (w:World):Kept B w w:=fun _ _=>rfl
theorem Kept.trans {B:Nat} {a b c:World} (h:Kept B a b) (k:Kept B b c):Kept B a c:=fun p hp=>(k p hp).trans (h p hp)
theorem Kept.mono {B B':Nat} {a b:World} (h:Kept B a b) (hB:B'≤B):Kept B' a b:=fun p hp=>h p (Nat.lt_of_lt_of_le hp hB)
theorem zhm {B:Nat} {a b:World} (h:Below B a b):Kept B a b:=fun _ hp=>h.cell hp
theorem ziS {B:Nat} {w:World} (hB:B≤w.heap.size) (o:Obj):Kept B w (w.alloc o):=fun p hp=>World.cell?_alloc_lt w o p (by omega)
def Flat (w:World) (B:Nat) (A:Option Addr) (cells:List Value):Prop :=
 cells≠[]→∃b off,A=some ⟨b,off,none⟩∧b<B∧∀j u,cells[j]?=some u→w.cell? ⟨b,off+j,none⟩=some u
theorem Flat.nil (w:World) (B:Nat) (A:Option Addr):Flat w B A []:=fun h=>absurd rfl h
theorem Flat.keep {w w':World} {B:Nat} {A:Option Addr} {cells:List Value} (h:Flat w B A cells) (hk:Kept B w w'):Flat w' B A cells:=fun hn=>by
 obtain ⟨b,off,e,hb,hc⟩:=h hn
 exact ⟨b,off,e,hb,fun j u hu=>(hk ⟨b,off+j,none⟩ hb).trans (hc j u hu)⟩
theorem Flat.more {w:World} {B B':Nat} {A:Option Addr} {cells:List Value} (h:Flat w B A cells) (hB:B≤B'):Flat w B' A cells:=fun hn=>by
 obtain ⟨b,off,e,hb,hc⟩:=h hn
 exact ⟨b,off,e,by omega,hc⟩
theorem Flat.below {w w':World} {B:Nat} {A:Option Addr} {cells:List Value} (h:Flat w B A cells) (hb:Below B w w'):Flat w' B A cells:=h.keep (zhm hb)
theorem Flat.at_ {w:World} {B:Nat} {A:Option Addr} {cells:List Value} (h:Flat w B A cells) (hn:0<cells.length) :
  ∃b off,A=some ⟨b,off,none⟩∧b<B∧∀j u,cells[j]?=some u→w.cell? ⟨b,off+j,none⟩=some u :=
 h (by intro e;rw [e] at hn;simp at hn)
theorem Flat.drop {w:World} {B:Nat} {b off:Nat} {cells:List Value} (h:Flat w B (some ⟨b,off,none⟩) cells) (k:Nat):Flat w B (some ⟨b,off+k,none⟩) (cells.drop k):=fun hn=>by
 have hl:k<cells.length:=by
  rcases Nat.lt_or_ge k cells.length with hl|hl
  ·exact hl
  ·exact absurd (List.drop_eq_nil_of_le hl) hn
 obtain ⟨b',off',e,hb,hc⟩:=h.at_ (by omega)
 injection e with e;injection e with e1 e2;subst e1;subst e2
 exact ⟨b,off+k,rfl,hb,fun j u hu=>by rw [Nat.add_assoc];exact hc _ _ (by simpa [List.getElem?_drop] using hu)⟩
theorem Flat.take {w:World} {B:Nat} {A:Option Addr} {cells:List Value} (h:Flat w B A cells) (k:Nat):Flat w B A (cells.take k):=fun hn=>by
 obtain ⟨b,off,e,hb,hc⟩:=h (fun e=>hn (by rw [e];simp))
 exact ⟨b,off,e,hb,fun j u hu=>hc j u (by rw [List.getElem?_take] at hu;split at hu<;>simp_all)⟩
theorem Flat.of_own {w:World} {base size n:Nat} {e:TypeId} {A:Option Addr} {c:Nat} {xs:List Value} (h:w.ownsRow base e size (.slice A n c) n xs):Flat w w.heap.size A xs:=fun hn=>by
 rcases h.2 with ⟨hv,h0⟩|⟨g,cap,cur,hv,_,hg,_⟩
 ·have:xs=[]:=List.eq_nil_of_length_eq_zero (by rw [h.1,h0,Nat.zero_mul])
  exact absurd this hn
 ·injection hv with hA
  subst hA
  refine ⟨g,0,rfl,(Array.getElem?_eq_some_iff.1 hg).1,fun j u hu=>?_⟩
  have hc:=h.cells (g:=g) rfl j u hu
  have hadd:(⟨g,0,none⟩:Addr).add j=⟨g,0+j,none⟩:=by unfold Addr.add;split<;>simp_all
  rwa [hadd] at hc
abbrev Rel (α:Type):=World→Nat→α→List Value→Prop
class Rel.Ok {α:Type} (r:Rel α):Prop where
 keep:∀{w w':World} {B:Nat} {a:α} {cs:List Value},r w B a cs→Kept B w w'→r w' B a cs
 more:∀{w:World} {B B':Nat} {a:α} {cs:List Value},r w B a cs→B≤B'→r w B' a cs
def rInt (k:IntKind):Rel Int:=fun _ _ n cs=>cs=[.int k n]∧(Lit.int k n).wf=true
def rByte:Rel UInt8:=fun _ _ b cs=>cs=[.int .u8 (b.toNat:Int)]
def rBool:Rel Bool:=fun _ _ b cs=>cs=[.bool b]
def rStr:Rel ByteArray:=fun _ _ s cs=>cs=[.string s]∧s.size≤maxLen
instance (k:IntKind):Rel.Ok (rInt k):=⟨fun h _=>h,fun h _=>h⟩
instance:Rel.Ok rByte:=⟨fun h _=>h,fun h _=>h⟩
instance:Rel.Ok rBool:=⟨fun h _=>h,fun h _=>h⟩
instance:Rel.Ok rStr:=⟨fun h _=>h,fun h _=>h⟩
def Chunks {α:Type} (size:Nat) (r:Rel α) (w:World) (B:Nat):List α→List Value→Prop
 | [],cells=>cells=[]
 | x::xs,cells=>∃vs rest,cells=vs++rest∧vs.length=size∧r w B x vs∧Chunks size r w B xs rest
section
variable {α:Type} {size:Nat} {r:Rel α} {w w':World} {B B':Nat}
theorem Chunks.keep [Rel.Ok r]:∀{xs:List α} {cells:List Value},Chunks size r w B xs cells→Kept B w w'→Chunks size r w' B xs cells
 | [],_,h,_=>h
 | _::_,_,⟨vs,rest,e,hl,hr,h⟩,hk=>⟨vs,rest,e,hl,Rel.Ok.keep hr hk,Chunks.keep h hk⟩
theorem Chunks.more [Rel.Ok r]:∀{xs:List α} {cells:List Value},Chunks size r w B xs cells→B≤B'→Chunks size r w B' xs cells
 | [],_,h,_=>h
 | _::_,_,⟨vs,rest,e,hl,hr,h⟩,hk=>⟨vs,rest,e,hl,Rel.Ok.more hr hk,Chunks.more h hk⟩
theorem Chunks.length:∀{xs:List α} {cells:List Value},Chunks size r w B xs cells→cells.length=xs.length*size
 | [],_,h=>by cases h;simp
 | _::xs,_,⟨vs,rest,e,hl,_,h⟩=>by
  have:=Chunks.length h
  rw [e,List.length_append,hl,this,List.length_cons,Nat.add_mul,Nat.one_mul,Nat.add_comm]
theorem Chunks.append:∀{xs ys:List α} {cells more:List Value},Chunks size r w B xs cells→Chunks size r w B ys more→Chunks size r w B (xs++ys) (cells++more)
 | [],_,_,_,h,k=>by cases h;exact k
 | _::_,_,_,_,⟨vs,rest,e,hl,hr,h⟩,k=>⟨vs,_,by rw [e,List.append_assoc],hl,hr,Chunks.append h k⟩
theorem Chunks.one {x:α} {vs:List Value} (hl:vs.length=size) (hr:r w B x vs):Chunks size r w B [x] vs:=⟨vs,[],by simp,hl,hr,rfl⟩
theorem Chunks.get:∀{xs:List α} {cells:List Value},Chunks size r w B xs cells→∀(k:Nat) (x:α),xs[k]?=some x→∃vs,vs.length=size∧r w B x vs∧∀j,j<size→cells[k*size+j]?=vs[j]?
 | [],_,_,k,x,hx=>by simp at hx
 | y::ys,_,⟨vs,rest,e,hl,hr,h⟩,0,x,hx=>by
  simp at hx
  subst hx
  exact ⟨vs,hl,hr,fun j hj=>by rw [e,List.getElem?_append_left (by omega)];simp⟩
 | y::ys,_,⟨vs,rest,e,hl,hr,h⟩,k+1,x,hx=>by
  obtain ⟨us,h1,h2,h3⟩:=Chunks.get h k x (by simpa using hx)
  refine ⟨us,h1,h2,fun j hj=>?_⟩
  rw [e,List.getElem?_append_right (by rw [Nat.add_mul];omega),←h3 j hj]
  congr 1
  rw [hl,Nat.add_mul];omega
theorem Chunks.drop:∀{xs:List α} {cells:List Value} (k:Nat),Chunks size r w B xs cells→Chunks size r w B (xs.drop k) (cells.drop (k*size))
 | xs,cells,0,h=>by simpa using h
 | [],_,k+1,h=>by cases h;simp [Chunks]
 | _::xs,_,k+1,⟨vs,rest,e,hl,hr,h⟩=>by
  have:=Chunks.drop k h
  rw [e,List.drop_succ_cons,show (k+1)*size=vs.length+k*size by rw [hl,Nat.add_mul];omega,List.drop_append,show vs.drop (vs.length+k*size)=[] from List.drop_eq_nil_of_le (by omega),show vs.length+k*size - vs.length=k*size by omega]
  exact this
theorem Chunks.take:∀{xs:List α} {cells:List Value} (k:Nat),Chunks size r w B xs cells→Chunks size r w B (xs.take k) (cells.take (k*size))
 | xs,cells,0,h=>by simp [Chunks]
 | [],_,k+1,h=>by cases h;simp [Chunks]
 | _::xs,_,k+1,⟨vs,rest,e,hl,hr,h⟩=>by
  have:=Chunks.take k h
  rw [e,List.take_succ_cons,show (k+1)*size=vs.length+k*size by rw [hl,Nat.add_mul];omega,List.take_append,show vs.take (vs.length+k*size)=vs from List.take_of_length_le (by omega),show vs.length+k*size - vs.length=k*size by omega]
  exact ⟨vs,rest.take (k*size),rfl,hl,hr,this⟩
end
theorem Chunks.pure {α:Type} {size:Nat} {r:Rel α} {w:World} {B:Nat} (f:α→List Value) (hf:∀x vs,r w B x vs→vs=f x) :
  ∀{xs:List α} {cells:List Value},Chunks size r w B xs cells→cells=xs.flatMap f
 | [],_,h=>by cases h;rfl
 | x::xs,_,⟨vs,rest,e,_,hr,h⟩=>by rw [e,List.flatMap_cons,←hf x vs hr,←Chunks.pure f hf h]
def rSlice {α:Type} (size:Nat) (r:Rel α):Rel (List α):=fun w B xs cs =>
 ∃A c cells,cs=[.slice A xs.length c]∧xs.length≤c∧c≤maxLen∧Flat w B A cells∧Chunks size r w B xs cells
theorem rSlice.flat {α:Type} {size:Nat} {r:Rel α} {w:World} {B:Nat} {xs:List α} {A:Option Addr} {n c:Nat} (f:α→List Value) (hf:∀x vs,r w B x vs→vs=f x) (h:rSlice size r w B xs [.slice A n c]) :
  n=xs.length∧n≤c∧c≤maxLen∧Flat w B A (xs.flatMap f):=by
 obtain ⟨A',c',cells,e,h1,h2,h3,h4⟩:=h
 simp only [List.cons.injEq,Value.slice.injEq,and_true] at e
 obtain ⟨rfl,rfl,rfl⟩:=e
 exact ⟨rfl,h1,h2,by rw [←Chunks.pure f hf h4];exact h3⟩
theorem Chunks.all {α:Type} {size:Nat} {r:Rel α} {w:World} {B:Nat} {p:α→Prop} (hp:∀x vs,r w B x vs→p x):∀{xs:List α} {cells:List Value},Chunks size r w B xs cells→∀x∈xs,p x
 | [],_,_,x,hx=>by cases hx
 | y::ys,_,⟨vs,rest,_,_,hr,h⟩,x,hx=>by
  rcases List.mem_cons.1 hx with rfl|hx
  ·exact hp _ _ hr
  ·exact Chunks.all hp h x hx
theorem rSlice.all {α:Type} {size:Nat} {r:Rel α} {w:World} {B:Nat} {xs:List α} {cs:List Value} {p:α→Prop} (hp:∀x vs,r w B x vs→p x) (h:rSlice size r w B xs cs):∀x∈xs,p x:=by
 obtain ⟨_,_,_,_,_,_,_,h4⟩:=h
 exact h4.all hp
instance {α:Type} {size:Nat} {r:Rel α} [Rel.Ok r]:Rel.Ok (rSlice size r) :=
 ⟨fun ⟨A,c,cells,e,h1,h2,hf,hc⟩ hk=>⟨A,c,cells,e,h1,h2,hf.keep hk,hc.keep hk⟩,fun ⟨A,c,cells,e,h1,h2,hf,hc⟩ hB=>⟨A,c,cells,e,h1,h2,hf.more hB,hc.more hB⟩⟩
def Opens {α:Type} (P:Program) (t:TypeId) (size:Nat) (r:Rel α):Prop :=
 P.cellsOf t=size∧∀(H:Type) (enc:TypeId×Value→H) (w:World) (base:Nat) (spare:Nat→Bool) (held:Bool) (fuel:Nat) (cs:List Value) (x:DataW H×List MemPlace),
  DataW.trod enc P w base spare held fuel t cs=some x→∃a,r w w.heap.size a cs
theorem open_arg {α:Type} {P:Program} {t:TypeId} {size:Nat} {r:Rel α} (ho:Opens P t size r) {H:Type} {enc:TypeId×Value→H} {w:World} {base:Nat} {spare:Nat→Bool} {held:Bool} {v:Value} {d:DataW H} {ps:List MemPlace}
  (h:DataW.Trod enc P w base spare held t v d ps):∃a,r w w.heap.size a v.cells.toList:=by
 obtain ⟨fuel,hf⟩:=h
 exact ho.2 _ _ _ _ _ _ _ _ _ hf
end Kit
end Go.Proofs.YtclffekkjfhpdaaGreat
namespace Go.Proofs.YtclffekkjfhpdaaGreat
open Go.ChangeShapes Go.WideShapes Go.RowKit
namespace Kit
structure Elem (P:Program) (t e:TypeId) (size bytes:Nat):Prop where
 slice:P.underlying t=some (.slice e)
 info:∃i z,P.info? e=some i∧i.zero=some z∧i.size=size∧i.bytes=bytes∧z.cells.size=size
 pos:0<size
section
variable {P:Program} {t e:TypeId} {size bytes:Nat}
theorem run_app (E:Elem P t e size bytes) (w:World) (ty:TypeId) (base:Nat) (v:Value) (n:Nat) (xs:List Value) (hown:w.ownsRow base e size v n xs) (A:Option Addr) (m c B:Nat) (news:List Value)
  (hf:Flat w B A news) (hl:news.length=m*size) (h1:∀u∈news,u.oneCell'=true) (h63:n+m≤maxLen) (hbytes:(n+m)*bytes≤140737488355328) (hbase:base≤w.heap.size) :
  ∃v' w',(Builtin.append_ #[t,t] ty #[v,.slice A m c]).run P w=.ok v' w'∧w'.ownsRow base e size v' (n+m) (xs++news)∧w.grownBy w' v.ownBlock∧(v'.ownBlock=v.ownBlock∨v'.ownBlock=some w.heap.size):=by
 obtain ⟨i,z,hi,hz,hsize,hby,hzs⟩:=E.info
 cases A with
 | none =>
  have hn:news=[]:=by
   rcases news with _|⟨x,r⟩
   ·rfl
   ·obtain ⟨b,off,e,_⟩:=hf (by simp)
    cases e
  subst hn
  obtain rfl:m=0:=by
   have:=E.pos
   rcases Nat.eq_zero_or_pos m with h|h
   ·exact h
   ·have:0<m*size:=Nat.mul_pos h this
    simp at hl
    omega
  refine ⟨v,w,?_,by simpa using hown,⟨rfl,rfl,rfl,Nat.le_refl _,fun _ _ _=>rfl⟩,.inl rfl⟩
  rcases hown.2 with ⟨rfl,rfl⟩|⟨g,cap,cur,rfl,_,_,hnc,_⟩
  ·simp [Builtin.append_,run_underlying E.slice,sizeOf,typeInfo,hi,Builtin.lenOf,Builtin.firstCells]
  ·simp [Builtin.append_,run_underlying E.slice,sizeOf,typeInfo,hi,Builtin.lenOf,Builtin.firstCells,hnc,storeCells]
 | some a =>
  have hnews:∀j u,news[j]?=some u→w.cell? (a.add j)=some u:=fun j u hu=>by
   obtain ⟨b,off,e,_,hc⟩:=hf (by intro e;rw [e] at hu;simp at hu)
   injection e with e
   subst e
   have hadd:(⟨b,off,none⟩:Addr).add j=⟨b,off+j,none⟩:=by unfold Addr.add;split<;>simp_all
   rw [hadd]
   exact hc j u hu
  obtain ⟨v',w',hr,h2,h3,_,h5⟩:=run_append_own_at (P:=P) w base t ty e i z size bytes E.slice hi hz hsize hby hzs E.pos v n xs hown a m c news hl hnews h1 h63 hbytes hbase
  exact ⟨v',w',hr,h2,h3,h5⟩
theorem zgM (E:Elem P t e size bytes) (w:World) (ty:TypeId) (base:Nat) (A0:Option Addr) (n B0:Nat) (xs:List Value) (hf0:Flat w B0 A0 xs) (hl0:xs.length=n*size) (A:Option Addr) (m c B:Nat) (news:List Value)
  (hf:Flat w B A news) (hl:news.length=m*size) (hm:0<m) (h63:n+m≤maxLen) (hbytes:(n+m)*bytes≤140737488355328) (hbase:base≤w.heap.size) (hA0:A0.isSome=true) :
  ∃v' w',(Builtin.append_ #[t,t] ty #[.slice A0 n n,.slice A m c]).run P w=.ok v' w'∧w'.ownsRow base e size v' (n+m) (xs++news)∧w.grownBy w' none:=by
 obtain ⟨i,z,hi,hz,hsize,hby,hzs⟩:=E.info
 subst hsize
 subst hby
 have cells:∀{A:Option Addr} {B:Nat} {xs:List Value} {a:Addr},Flat w B A xs→A=some a→∀j u,xs[j]?=some u→w.cell? (a.add j)=some u:=by
  intro A B xs a hf hA j u hu
  obtain ⟨b,off,e,_,hc⟩:=hf (by intro e;rw [e] at hu;simp at hu)
  rw [hA] at e
  injection e with e
  subst e
  have hadd:(⟨b,off,none⟩:Addr).add j=⟨b,off+j,none⟩:=by unfold Addr.add;split<;>simp_all
  rw [hadd]
  exact hc j u hu
 obtain ⟨a0,rfl⟩:=Option.isSome_iff_exists.1 hA0
 have hnn:news≠[]:=by
  intro h
  rw [h] at hl
  have:=Nat.mul_pos hm E.pos
  simp at hl
  omega
 obtain ⟨b,off,rfl,_,_⟩:=hf hnn
 have hlen:(xs++news).length=(n+m)*i.size:=by rw [List.length_append,hl0,hl,Nat.add_mul]
 have hr:=run_append_grow (P:=P) w t ty e i z E.slice hi hz a0 n n xs hl0 (cells hf0 rfl) ⟨b,off,none⟩ m c news hl (cells hf rfl) (by omega) (by unfold maxLen at h63;omega) (growslice_fits (by omega) hbytes)
 have hge:=grownCap_ge w (n+m) n e
 have hcm:grownCap w (n+m) n e≤maxLen:=grownCap_le_maxLen w (n+m) n e h63
 refine ⟨_,_,hr,⟨hlen,.inr ⟨w.heap.size,_,_,rfl,hbase,heap_alloc_new w.drew _,hge,hcm,?_,?_⟩⟩,⟨rfl,rfl,rfl,by simp,fun k hk _=>Below.heap_alloc w.drew _ k hk⟩⟩
 ·simp only [Array.size_append,List.size_toArray,size_zeroCells,hzs,hl0,hl,←Nat.add_mul]
  congr 1
  omega
 ·simp only [Array.toList_append,List.append_assoc]
  rw [←List.append_assoc,←hlen]
  exact List.take_left
theorem zgH (E:Elem P t e size bytes) (w:World) (ty:TypeId) (A0:Option Addr) (n c0:Nat) (hn:n≤c0) (A:Option Addr) (c:Nat) :
  (Builtin.append_ #[t,t] ty #[.slice A0 n c0,.slice A 0 c]).run P w=.ok (.slice A0 n c0) w:=by
 obtain ⟨i,z,hi,hz,hsize,hby,hzs⟩:=E.info
 cases A0<;>cases A<;>simp [Builtin.append_,run_underlying E.slice,sizeOf,typeInfo,hi,Builtin.lenOf,Builtin.firstCells,hn,storeCells,loadCells,loadCellsFrom]
end
theorem own_base {w:World} {base base':Nat} {e:TypeId} {size n:Nat} {v:Value} {xs:List Value} (h:w.ownsRow base e size v n xs) (hb:base'≤base):w.ownsRow base' e size v n xs:=by
 refine ⟨h.1,?_⟩
 rcases h.2 with hn|⟨g,cap,cur,hv,hbg,r⟩
 ·exact .inl hn
 ·exact .inr ⟨g,cap,cur,hv,Nat.le_trans hb hbg,r⟩
theorem own_slice {w:World} {base:Nat} {e:TypeId} {size n:Nat} {v:Value} {xs:List Value} (h:w.ownsRow base e size v n xs):∃A c,v=.slice A n c∧n≤c∧c≤maxLen∧Flat w w.heap.size A xs:=by
 rcases h.2 with ⟨rfl,rfl⟩|⟨g,cap,cur,rfl,hbg,hg,h1,h2,_⟩
 ·exact ⟨none,0,rfl,Nat.le_refl _,by unfold maxLen;decide,Flat.of_own h⟩
 ·exact ⟨_,cap,rfl,h1,h2,Flat.of_own h⟩
end Kit
end Go.Proofs.YtclffekkjfhpdaaGreat
namespace Go.Proofs.YtclffekkjfhpdaaGreat
open Go.ChangeShapes Go.WideShapes Go.RowKit
set_option linter.unusedVariables false
namespace Kit
def FlatF (lo:Nat) (w:World) (A:Option Addr) (cells:List Value):Prop :=
 cells≠[]→∃b off,A=some ⟨b,off,none⟩∧lo≤b∧b<w.heap.size∧∀j u,cells[j]?=some u→w.cell? ⟨b,off+j,none⟩=some u
theorem FlatF.nil (lo:Nat) (w:World) (A:Option Addr):FlatF lo w A []:=fun h=>absurd rfl h
theorem FlatF.flat {lo:Nat} {w:World} {A:Option Addr} {cells:List Value} (h:FlatF lo w A cells):Flat w w.heap.size A cells:=fun hn=>by
 obtain ⟨b,off,e,_,hb,hc⟩:=h hn
 exact ⟨b,off,e,hb,hc⟩
theorem FlatF.of_own {w:World} {base size n:Nat} {e:TypeId} {A:Option Addr} {c:Nat} {xs:List Value} (h:w.ownsRow base e size (.slice A n c) n xs):FlatF base w A xs:=fun hn=>by
 rcases h.2 with ⟨hv,h0⟩|⟨g,cap,cur,hv,hbg,hg,_⟩
 ·have:xs=[]:=List.eq_nil_of_length_eq_zero (by rw [h.1,h0,Nat.zero_mul])
  exact absurd this hn
 ·obtain ⟨b,off,e,hb,hc⟩:=(Flat.of_own h) hn
  injection hv with hA
  rw [hA] at e
  injection e with e
  injection e with e1 e2
  subst e1
  exact ⟨_,off,by rw [hA,←e2],hbg,hb,hc⟩
theorem FlatF.keep {lo:Nat} {w w':World} {A:Option Addr} {cells:List Value} (h:FlatF lo w A cells) (hk:Kept w.heap.size w w') (hs:w.heap.size≤w'.heap.size):FlatF lo w' A cells:=fun hn=>by
 obtain ⟨b,off,e,hl,hb,hc⟩:=h hn
 exact ⟨b,off,e,hl,by omega,fun j u hu=>(hk ⟨b,off+j,none⟩ hb).trans (hc j u hu)⟩
theorem FlatF.below {lo:Nat} {w w':World} {A:Option Addr} {cells:List Value} (h:FlatF lo w A cells) (hb:Below w.heap.size w w'):FlatF lo w' A cells:=h.keep (zhm hb) hb.size
theorem FlatF.alloc {lo:Nat} {w:World} {A:Option Addr} {cells:List Value} (h:FlatF lo w A cells) (o:Obj):FlatF lo (w.alloc o) A cells:=h.keep (ziS (Nat.le_refl _) o) (by simp)
theorem FlatF.drew {lo:Nat} {w:World} {A:Option Addr} {cells:List Value} (h:FlatF lo w A cells):FlatF lo w.drew A cells:=h
theorem FlatF.setCell {lo:Nat} {w:World} {A:Option Addr} {cells:List Value} (h:FlatF lo w A cells) {p:Addr} (hp:p.block<lo) (u:Value):FlatF lo (w.setCell p u) A cells:=fun hn=>by
 obtain ⟨b,off,e,hl,hb,hc⟩:=h hn
 refine ⟨b,off,e,hl,by simpa using hb,fun j v hv=>?_⟩
 rw [←hc j v hv]
 exact World.cell?_setCell_other w p _ u (fun e=>by subst e;simp at hp;omega)
theorem FlatF.mono {lo lo':Nat} {w:World} {A:Option Addr} {cells:List Value} (h:FlatF lo w A cells) (hl:lo'≤lo):FlatF lo' w A cells:=fun hn=>by
 obtain ⟨b,off,e,h1,hb,hc⟩:=h hn
 exact ⟨b,off,e,by omega,hb,hc⟩
theorem Flat.up {w w':World} {A:Option Addr} {cs:List Value} (h:Flat w w.heap.size A cs) (hb:Below w.heap.size w w'):Flat w' w'.heap.size A cs:=(h.below hb).more hb.size
end Kit
end Go.Proofs.YtclffekkjfhpdaaGreat

