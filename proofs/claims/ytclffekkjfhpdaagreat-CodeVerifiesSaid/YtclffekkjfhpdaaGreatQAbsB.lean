import Derived.Test.YtclffekkjfhpdaaGreatQAbsA
import Derived.RangeFuncLeaves
import Derived.RangeFuncRecord
import Derived.RangeFuncOwn
import Derived.OrdersIn
import Derived.TacticsIn
import Derived.ControlIn
namespace Go.Proofs.YtclffekkjfhpdaaGreat
open Go.ChangeShapes Go.WideShapes Go.RowKit
set_option linter.unusedVariables false
set_option linter.unusedSimpArgs false
namespace Abs
def get:List (Nat×AV)→Nat→AV
 | [],_=>.one .any
 | (k,v)::r,t=>bif Nat.beq k t then v else get r t
theorem get_cons (k:Nat) (v:AV) (r:List (Nat×AV)) (t:Nat):get ((k,v)::r) t=if k=t then v else get r t:=by
 show (bif Nat.beq k t then v else get r t)=_
 cases h:Nat.beq k t
 ·rw [if_neg (Nat.ne_of_beq_eq_false h)];rfl
 ·rw [if_pos (Nat.eq_of_beq_eq_true h)];rfl
structure ASt where
 nt:Nat
 kp:List Nat
 env:List (Nat×AV)
 heap:Heap
def ASt.put (s:ASt) (d:Option Nat) (v:AV):ASt :=
 match d with
 | some d=>{ s with env:=(d,v)::s.env }
 | none=>s
structure HM (U:Nat→Prop) (h:Heap) (w:World) (hv:Nat→Value):Prop where
 blk:∀id b,look h id=some b→BlkRep h hv (fun b=>U b∨mine h hv b) w id b
 inj:∀id id' x y b,look h id=some x→look h id'=some y→blockOf (hv id)=some b→blockOf (hv id')=some b→id=id'
 avoid:∀b,mine h hv b→¬U b
 ult:∀b,U b→b<w.heap.size
 tab:Tabs h hv w
structure M (U:Nat→Prop) (s:ASt) (a:Act) (w:World) (hv:Nat→Value):Prop where
 nt:a.tmps.size=s.nt
 defers:a.defers=[]
 env:∀t,RepV s.heap hv (fun b=>U b∨mine s.heap hv b) w (get s.env t) (a.tmps.getD t undef)
 hm:HM U s.heap w hv
structure Base where
 w:World
 v:Nat→Value
structure Ok (U T:Nat→Prop) (w0:Base) (s:ASt) (a:Act) (w:World) (hv:Nat→Value):Prop where
 m:M U s a w hv
 fr:Fr T w0.w w
 own:∀b,mine s.heap hv b→b<w0.w.heap.size→T b
 box:∀id,id∈s.kp→(∃cs,look s.heap id=some (.box cs))∧hv id=w0.v id
def calm:Exit→Bool
 | .outgrown=>false
 | _=>true
def Post (U T:Nat→Prop) (w0:Base) (Q:Exit→ASt→Prop):Exit→Act→World→Prop:=fun e a w=>calm e=true∧∃s hv,Q e s∧Ok U T w0 s a w hv
theorem post_calm {U T:Nat→Prop} {w0:Base} {Q:Exit→ASt→Prop}:¬LetsOut (Post U T w0 Q):=fun ⟨_,_,h,_⟩=>by cases h
abbrev FR (r:Option Nat):Fence:={ fn:=fun _=>True,depth:=none,alive:=false,round:=r }
def bare (a:Act):Act:={ a with defers:=[] }
def att (ds:List Deferred) (a:Act):Act:={ a with defers:=a.defers++ds }
theorem bare_att {ds:List Deferred} {a:Act} (h:a.defers=[]):bare (att ds a)=a:=by
 cases a;simp only at h;subst h;rfl
theorem att_put (ds:List Deferred) (a:Act) (d:Option Tmp) (v:Value):(att ds a).put d v=att ds (a.put d v):=by cases d<;>rfl
def markO:Obj→Bool
 | .deferred _=>true
 | .loop _=>true
 | _=>false
theorem Thing.is.mark {s:Thing} {pos:Nat} {o:Obj} (h:s.is pos o):markO o=false:=by
 cases s with
 | str s=>obtain rfl:o=_:=h;rfl
 | set keys=>obtain ⟨es,clock,rfl,_⟩:=h;rfl
def Marks (n:Nat) (r:Option Nat) (ds:List Deferred) (w:World):Prop:=(∀d,d∈ds→∃D,d.target=.collected D∧n≤D∧w.heap[D]?=some (.deferred (some [])))∧ds.Pairwise (fun d d'=>d.target≠d'.target)∧n≤w.heap.size∧∀l,r=some l→∃rec:Loop,w.heap[l]?=some (.loop rec)
def notDefer:Op→Bool
 | .defer _=>false
 | _=>true
def noDefer (l:List Oper):Bool:=l.all fun o=>notDefer o.op
theorem ziy {o:Op} (h:notDefer o=true):∀c,o≠.defer c:=fun c e=>by subst e;cases h
theorem op_in {P:Program} {r:Option Nat} {ds:List Deferred} {o:Oper} (hd:notDefer o.op=true) {a:Act} {w:World} {K K':Act→World→Prop} {Q Q':Exit→Act→World→Prop} (h:o.wp P a w K Q)
  (hK:∀a' w',K a' w'→K' (att ds a') w') (hQ:∀e a' w',Q e a' w'→Q' e (att ds a') w') (hL:¬LetsOut Q):o.wpIn (FR r) 0 P (att ds a) w K' Q':=by
 refine ⟨fun _ _=>trivial,?_⟩
 have he:(att ds a).eval=a.eval:=by
  funext x
  cases x<;>rfl
 rw [Oper.semAt_eq _ _ _ (ziy hd),he]
 unfold Oper.wp at h
 generalize (execOp a.eval o).run P w=x at h ⊢
 cases x with
 | ok n w' =>
  cases n with
  | value v=>simp only [Oper.upon] at h;rw [Oper.uponIn_value,att_put];exact hK _ _ h
  | skip=>simp only [Oper.upon] at h;rw [Oper.uponIn_skip,att_put];exact hK _ _ h
  | defer d =>
   simp only [Oper.upon] at h
   rw [Oper.uponIn_defer]
   have:=hK _ _ h
   have e:att ds ({ a with defers:=d::a.defers }.put o.dst undef)={ att ds a with defers:=d::(att ds a).defers }.put o.dst undef:=by cases o.dst<;>rfl
   rwa [e] at this
  | enter f args =>
   simp only [Oper.upon] at h
   rw [Oper.uponIn_enter]
   refine ⟨fun e=>(by cases e),?_⟩
   refine (show CallsIn Fence.wide 0 P f args w' _ from callsIn_wide.2 (Calls.mono h fun e w'' hr=>?_))
   cases e with
   | returned v=>show K' ((att ds a).put o.dst v) w'';rw [att_put];exact hK _ _ hr
   | panicked chain=>exact hQ _ _ _ hr
   | outgrown=>exact absurd hr hL
  | row row args =>
   simp only [Oper.upon] at h
   rw [Oper.uponIn_row]
   refine ⟨fun e=>(by cases e),?_⟩
   refine (show RowsIn Fence.wide 0 P row args w' _ from fun c cs _=>?_)
   obtain ⟨v,w'',h1,h2⟩:=h c cs
   exact ⟨v,w'',by rw [att_put];exact hK _ _ h1,stepsIn_wide.2 h2⟩
  | _=>simp only [Oper.upon] at h
 | halt x w'=>cases x<;>simp only [Oper.upon,Oper.uponIn] at h ⊢ <;> first|exact hQ _ _ _ h|exact h
theorem list_in {P:Program} {r:Option Nat} {ds:List Deferred} {ops:Array Oper} {Q Q':Exit→Act→World→Prop} (hQ:∀e a' w',Q e a' w'→Q' e (att ds a') w') (hL:¬LetsOut Q):∀(l:List Oper) {a:Act} {w:World},noDefer l=true→wpList P ops Q l a w→wpListIn (FR r) 0 P ops Q' l (att ds a) w
 | [],a,w,_,h=>hQ _ _ _ h
 | o::l,a,w,hd,h=>by
  simp only [noDefer,List.all_cons,Bool.and_eq_true] at hd
  unfold wpList at h
  unfold wpListIn
  show if Region.wanted o (yielded ops a.tmps) then _ else _
  split
  ·rename_i hw
   rw [if_pos hw] at h
   rcases h with h|⟨_,h⟩
   ·exact op_in hd.1 h (fun a' w' h'=>list_in hQ hL l hd.2 h') hQ hL
   ·exact absurd h hL
  ·rename_i hw
   rw [if_neg hw] at h
   refine ⟨fun _ _=>trivial,?_⟩
   rw [att_put]
   exact list_in hQ hL l hd.2 h
theorem any_in {P:Program} {r:Option Nat} {ds:List Deferred} {ops:Array Oper} {md:Region.Mode} {Q Q':Exit→Act→World→Prop} (hQ:∀e a' w',Q e a' w'→Q' e (att ds a') w') (hL:¬LetsOut Q) (hd:∀(i:Nat) (o:Oper),ops[i]?=some o→notDefer o.op=true):∀(fuel:Nat) (listed:Array Bool) (a:Act) (w:World),wpAny P md ops Q fuel listed a w→wpAnyIn (FR r) 0 P md ops Q' fuel listed (att ds a) w
 | 0,listed,a,w,h=>⟨h.1,hQ _ _ _ h.2⟩
 | fuel+1,listed,a,w,h=>by
  refine ⟨fun e=>hQ _ _ _ (h.1 e),fun i hi=>?_⟩
  have h2:=h.2 i hi
  have ih:=fun a' w' (h':wpAny P md ops Q fuel (listed.setIfInBounds i true) a' w')=>any_in (r:=r) hQ hL hd fuel (listed.setIfInBounds i true) a' w' h'
  unfold wpOp at h2
  unfold wpOpIn
  cases ho:ops[i]? with
  | none=>rw [ho] at h2;exact ih _ _ h2
  | some o =>
   rw [ho] at h2
   simp only at h2 ⊢
   show if Region.wanted o (yielded ops a.tmps) then _ else _
   split
   ·rename_i hw
    rw [if_pos hw] at h2
    rcases h2 with h2|⟨_,h2⟩
    ·exact op_in (hd i o ho) h2 ih hQ hL
    ·exact absurd h2 hL
   ·rename_i hw
    rw [if_neg hw] at h2
    refine ⟨fun _ _=>trivial,?_⟩
    rw [att_put]
    exact ih _ _ h2
def Base.at (w0:Base) (w:World):Base:=⟨w,w0.v⟩
section
variable {U T:Nat→Prop} {w0:Base} {s s':ASt} {a a':Act} {w w':World} {hv hv':Nat→Value}
theorem Ok.base (ok:Ok U T w0 s a w hv):Ok U (mine s.heap hv) (w0.at w) s a w hv:=⟨ok.m,Fr.refl _ _,fun b hb _=>hb,fun id h=>ok.box id h⟩
theorem Ok.back (ok:Ok U T w0 s a w hv) (ok':Ok U (mine s.heap hv) (w0.at w) s' a' w' hv'):Ok U T w0 s' a' w' hv' :=
 ⟨ok'.m,ok.fr.trans ok'.fr fun x hx hm=>ok.own x hm hx,fun b hb hlt=>ok.own b (ok'.own b hb (Nat.lt_of_lt_of_le hlt ok.fr.size)) hlt,fun id h=>ok'.box id h⟩
theorem ziU {h:Heap} (hm:HM U h w hv) {b:Nat} (hb:mine h hv b):∃o,w.heap[b]?=some o∧markO o=false:=by
 obtain ⟨id,blk,h1,h2⟩:=hb
 have h3:=hm.blk id blk h1
 cases blk with
 | box cells =>
  obtain ⟨g,cs,T,e1,e2,_⟩:=h3
  rw [e1] at h2
  simp only [blockOf,Option.some.injEq] at h2
  subst h2
  exact ⟨_,e2,rfl⟩
 | row e sz n el =>
  obtain ⟨vs,⟨_,h4⟩,_⟩:=h3
  rcases h4 with ⟨e1,_⟩|⟨g,cap,cur,e1,_,e2,_⟩
  ·rw [e1] at h2;cases h2
  ·rw [e1] at h2
   simp only [blockOf,Option.some.injEq] at h2
   subst h2
   exact ⟨_,e2,rfl⟩
 | iter s pos =>
  obtain ⟨g,o,e1,e2,e3⟩:=h3
  rw [e1,Thing.block] at h2
  simp only [Option.some.injEq] at h2
  subst h2
  exact ⟨_,e2,e3.mark⟩
theorem Marks.others {n:Nat} {r:Option Nat} {ds:List Deferred} (mk:Marks n r ds w) (hs:w.heap.size≤w'.heap.size) (h:∀(k:Nat) (o:Obj),w.heap[k]?=some o→markO o=true→w'.heap[k]?=some o):Marks n r ds w' :=
 ⟨fun d hd=>by
  obtain ⟨D,h1,h2,h3⟩:=mk.1 d hd
  exact ⟨D,h1,h2,h _ _ h3 rfl⟩,mk.2.1,Nat.le_trans mk.2.2.1 hs,fun l hl=>by
  obtain ⟨rec,h1⟩:=mk.2.2.2 l hl
  exact ⟨rec,h _ _ h1 rfl⟩⟩
theorem fr_others {h:Heap} (hm:HM U h w hv) (fr:Fr (mine h hv) w w') (k:Nat) (o:Obj) (hk:w.heap[k]?=some o) (ho:markO o=true):w'.heap[k]?=some o:=by
 rw [fr.block k (Array.getElem?_eq_some_iff.1 hk).1 fun hb=>?_]
 ·exact hk
 ·obtain ⟨o',e,e'⟩:=ziU hm hb
  rw [hk] at e
  injection e with e
  subst e
  rw [ho] at e'
  cases e'
theorem Marks.keep {n:Nat} {r:Option Nat} {ds:List Deferred} (mk:Marks n r ds w) {h:Heap} (hm:HM U h w hv) (fr:Fr (mine h hv) w w'):Marks n r ds w':=mk.others fr.size (fr_others hm fr)
def Cel (w w':World):Prop:=(w'.os=w.os∧w'.tape=w.tape∧w'.output=w.output∧w.heap.size≤w'.heap.size)∧∀(b:Nat) (o:Obj),w.heap[b]?=some o→markO o=false→w'.heap[b]?=some o
theorem Cel.cell (h:Cel w w') {p:Addr} {v:Value} (hc:w.cell? p=some v):w'.cell? p=some v:=by
 obtain ⟨o,h1,h2⟩:=cells_of_cell hc
 exact (World.cell?_of_block (w:=w) ((h.2 _ _ h1 (by cases o<;>first|rfl|cases h2)).trans h1.symm)).trans hc
theorem Cel.putObj {D:Nat} {o o':Obj} (h:w.heap[D]?=some o) (hn:markO o=true):Cel w (w.putObj D o'):=by
 refine ⟨⟨rfl,rfl,rfl,by simp⟩,fun b x hb hx=>?_⟩
 rw [World.putObj_heap_other (fun e=>by subst e;rw [h] at hb;injection hb with hb;subst hb;rw [hn] at hx;cases hx)]
 exact hb
theorem Cel.alloc (w:World) (o:Obj):Cel w (w.alloc o):=⟨⟨rfl,rfl,rfl,by simp⟩,fun b x hb _=>(Below.heap_alloc w o b (Array.getElem?_eq_some_iff.1 hb).1).trans hb⟩
theorem Cel.trans {w'':World} (h:Cel w w') (k:Cel w' w''):Cel w w'':=⟨⟨k.1.1.trans h.1.1,k.1.2.1.trans h.1.2.1,k.1.2.2.1.trans h.1.2.2.1,Nat.le_trans h.1.2.2.2 k.1.2.2.2⟩,fun b o h1 h2=>k.2 b o (h.2 b o h1 h2) h2⟩
theorem RepC.turn {A:Nat→Prop} {c:CV} {v:Value} (hr:RepC A w c v) (h:Cel w w'):RepC A w' c v:=by
 induction hr with
 | val v h=>exact .val v h
 | nil elem=>exact .nil elem
 | emp elem a cap hm=>exact .emp elem a cap hm
 | emp0 Ad=>exact .emp0 Ad
 | full n el Ad h ih=>exact .full n el Ad ih
 | ifc t p=>exact .ifc t p
 | fnc f caps vs hp hl h ih=>exact .fnc f caps vs hp hl ih
 | slc n elem size b off cap vals hb hAb hc hm hs hcell hrep ih=>exact .slc n elem size b off cap vals (Nat.lt_of_lt_of_le hb h.1.2.2.2) hAb hc hm hs (fun i j c hi hj=>h.cell (hcell i j c hi hj)) ih
 | cptr cells b off vals hb hAb hcell hrep ih=>exact .cptr _ b off vals (Nat.lt_of_lt_of_le hb h.1.2.2.2) hAb (fun j c hj=>h.cell (hcell j c hj)) ih
theorem RepP.turn {hp:Heap} {A:Nat→Prop} {c:CV} {v:Value} (hr:RepP hp hv A w c v) (h:Cel w w'):RepP hp hv A w' c v:=by
 cases c<;>first|exact hr|exact RepC.turn hr h
theorem RepT.turn {hp:Heap} {A:Nat→Prop} {c:CV} {v:Value} (hr:RepT hp hv A w c v) (h:Cel w w'):RepT hp hv A w' c v:=by
 cases c with
 | fn f caps=>obtain ⟨vs,e,h2⟩:=hr;exact ⟨vs,e,h2.imp fun _ _ k=>k.turn h⟩
 | val u=>exact RepP.turn (show RepP hp hv A w (.val u) v from hr) h
 | slc n el=>exact RepP.turn (show RepP hp hv A w (.slc n el) v from hr) h
 | cptr cs=>exact RepP.turn (show RepP hp hv A w (.cptr cs) v from hr) h
 | emp0=>exact RepP.turn (show RepP hp hv A w (.emp0) v from hr) h
 | full n el=>exact RepP.turn (show RepP hp hv A w (.full n el) v from hr) h
 | ifc=>exact RepP.turn (show RepP hp hv A w (.ifc) v from hr) h
 | _=>exact hr
theorem Rep1.turn {hp:Heap} {A:Nat→Prop} {c:AV} {v:Value} (hr:Rep1 hp hv A w c v) (h:Cel w w'):Rep1 hp hv A w' c v:=by
 cases c with
 | one c=>exact RepT.turn hr h
 | agg cs=>obtain ⟨vs,e,h2⟩:=hr;exact ⟨vs,e,h2.imp fun _ _ k=>RepT.turn k h⟩
 | tup _=>exact hr.elim
theorem RepV.turn {hp:Heap} {A:Nat→Prop} {c:AV} {v:Value} (hr:RepV hp hv A w c v) (h:Cel w w'):RepV hp hv A w' c v:=by
 cases c with
 | tup xs=>obtain ⟨vs,e,h2⟩:=hr;exact ⟨vs,e,h2.imp fun _ _ k=>Rep1.turn k h⟩
 | one c=>exact Rep1.turn (show Rep1 hp hv A w (.one c) v from hr) h
 | agg cs=>exact Rep1.turn (show Rep1 hp hv A w (.agg cs) v from hr) h
theorem own_turn {e:TypeId} {sz n:Nat} {v:Value} {vs:List Value} (ho:w.ownsRow 0 e sz v n vs) (h:Cel w w'):w'.ownsRow 0 e sz v n vs:=by
 refine ⟨ho.1,?_⟩
 rcases ho.2 with h1|⟨g,cap,cur,e1,e2,e3,r⟩
 ·exact .inl h1
 ·exact .inr ⟨g,cap,cur,e1,e2,h.2 _ _ e3 rfl,r⟩
theorem BlkRep.turn {hp:Heap} {A:Nat→Prop} {id:Nat} {b:Blk} (hr:BlkRep hp hv A w id b) (h:Cel w w'):BlkRep hp hv A w' id b:=by
 cases b with
 | box cells=>obtain ⟨g,cs,ty,h1,h2,h3⟩:=hr;exact ⟨g,cs,ty,h1,h.2 _ _ h2 rfl,h3.imp fun _ _ k=>RepT.turn k h⟩
 | row e sz n el =>
  obtain ⟨vs,h1,h2,h3⟩:=hr
  refine ⟨vs,own_turn h1 h,h2,fun i j c hi hj=>?_⟩
  obtain ⟨v,h4,h5⟩:=h3 i j c hi hj
  exact ⟨v,h4,h5.turn h⟩
 | iter s pos=>obtain ⟨g,o,h1,h2,h3⟩:=hr;exact ⟨g,o,h1,h.2 _ _ h2 h3.mark,h3⟩
theorem HM.turn {hp:Heap} (hm:HM U hp w hv) (h:Cel w w'):HM U hp w' hv :=
 ⟨fun id b hb=>(hm.blk id b hb).turn h,hm.inj,hm.avoid,fun b hb=>Nat.lt_of_lt_of_le (hm.ult b hb) h.1.2.2.2,fun b p e=>by obtain ⟨⟨cs,T,x,h1,h3⟩,h2⟩:=hm.tab b p e;exact ⟨⟨cs,T,x,h.2 _ _ h1 rfl,h3⟩,h2⟩⟩
theorem M.turn (m:M U s a w hv) (h:Cel w w'):M U s a w' hv:=⟨m.nt,m.defers,fun t=>(m.env t).turn h,m.hm.turn h⟩
theorem Ok.turn (ok:Ok U T w0 s a w hv) (h:Cel w w') (hf:∀b,b<w0.w.heap.size→¬T b→w'.heap[b]?=w.heap[b]?):Ok U T w0 s a w' hv :=
 ⟨ok.m.turn h,⟨h.1.1.trans ok.fr.os,h.1.2.1.trans ok.fr.tape,h.1.2.2.1.trans ok.fr.output,Nat.le_trans ok.fr.size h.1.2.2.2,fun b h1 h2=>(hf b h1 h2).trans (ok.fr.block b h1 h2)⟩,ok.own,ok.box⟩
end
def PostD (U T:Nat→Prop) (w0:Base) (n:Nat) (r:Option Nat) (Q:Exit→ASt→Prop):Exit→Act→World→Prop:=fun e a w=>Post U T w0 Q e (bare a) w∧Marks n r a.defers w
theorem post_in {U T:Nat→Prop} {w0:Base} {n:Nat} {r:Option Nat} {Q:Exit→ASt→Prop} {s:ASt} {a:Act} {w:World} {hv:Nat→Value} (ok:Ok U T w0 s (bare a) w hv) (mk:Marks n r a.defers w) {e:Exit} {a':Act} {w':World} (h:Post U (mine s.heap hv) (w0.at w) Q e a' w'):PostD U T w0 n r Q e (att a.defers a') w':=by
 obtain ⟨h1,s',hv',h2,ok'⟩:=h
 have hd:=ok'.m.defers
 refine ⟨⟨h1,s',hv',h2,?_⟩,?_⟩
 ·rw [bare_att hd];exact ok.back ok'
 ·show Marks _ _ (a'.defers++a.defers) w'
  rw [hd]
  exact mk.keep ok.m.hm ok'.fr
def AW (P:Program) (c:Code) (s:ASt) (Q:Exit→ASt→Prop):Prop :=
 ∀(n:Nat) r U T w0 a w hv,Ok U T w0 s (bare a) w hv→Marks n r a.defers w→c.wpIn (FR r) 0 P (PostD U T w0 n r Q) a w
def AOps (P:Program) (ops:Array Oper) (l:List Oper) (s:ASt) (Q:Exit→ASt→Prop):Prop :=
 ∀U T w0 a w hv,Ok U T w0 s a w hv→wpList P ops (Post U T w0 Q) l a w
def Ev (P:Program) (X:List Nat) (s:ASt) (o:Oper) (S:ASt→Prop):Prop :=
 ∀U T w0 a w hv,Ok U T w0 s a w hv→∀(K:Act→World→Prop) (Q:Exit→Act→World→Prop),
  (∀s' v w' hv',S s'→Ok U T w0 s' (a.put o.dst v) w' hv'→(∀id,id∉X→(∃b,look s.heap id=some b)→hv' id=hv id)→K (a.put o.dst v) w')→o.wp P a w K Q
section
variable {P:Program} {s:ASt} {Q:Exit→ASt→Prop}
abbrev Seq (P:Program) (y:Code) (Q:Exit→ASt→Prop):Exit→ASt→Prop:=fun e s=>match e with
 | .normal=>AW P y s Q
 | e=>Q e s
abbrev Block (id:Nat) (Q:Exit→ASt→Prop):Exit→ASt→Prop:=fun e s=>match e with
 | .exit id'=>bif Nat.beq id' id then Q .normal s else Q (.exit id') s
 | e=>Q e s
theorem aw_skip (h:Q .normal s):AW P .skip s Q:=fun n r U T w0 a w hv ok mk=>wpIn_skip ⟨⟨rfl,s,hv,h,ok⟩,mk⟩
theorem aw_ret (h:Q .ret s):AW P .ret s Q:=fun n r U T w0 a w hv ok mk=>wpIn_ret ⟨⟨rfl,s,hv,h,ok⟩,mk⟩
theorem aw_exit {id:Nat} (h:Q (.exit id) s):AW P (.exit id) s Q:=fun n r U T w0 a w hv ok mk=>wpIn_exit ⟨⟨rfl,s,hv,h,ok⟩,mk⟩
theorem aw_seq {x y:Code} (h:AW P x s (Seq P y Q)):AW P (.seq x y) s Q:=fun n r U T w0 a w hv ok mk =>
 wpIn_seq (wpIn_mono (h n r U T w0 a w hv ok mk) fun e a w ⟨⟨hc,s',hv',hq,ok'⟩,mk'⟩=>by
  cases e with
  | normal=>exact hq n r U T w0 a w hv' ok' mk'
  | outgrown=>cases hc
  | _=>exact ⟨⟨rfl,s',hv',hq,ok'⟩,mk'⟩)
theorem aw_block {id:Nat} {c:Code} (h:AW P c s (Block id Q)):AW P (.block id c) s Q:=fun n r U T w0 a w hv ok mk =>
 wpIn_block (wpIn_mono (h n r U T w0 a w hv ok mk) fun e a w ⟨⟨hc,s',hv',hq,ok'⟩,mk'⟩=>by
  cases e with
  | exit id' =>
   simp only [Exit.inBlock]
   have hq':(bif Nat.beq id' id then Q .normal s' else Q (.exit id') s'):=hq
   by_cases hid:id'=id
   ·subst hid
    rw [if_pos rfl]
    rw [Nat.beq_refl] at hq'
    exact ⟨⟨rfl,s',hv',hq',ok'⟩,mk'⟩
   ·rw [if_neg hid]
    cases hb:Nat.beq id' id
    ·rw [hb] at hq';exact ⟨⟨rfl,s',hv',hq',ok'⟩,mk'⟩
    ·exact absurd (Nat.eq_of_beq_eq_true hb) hid
  | outgrown=>cases hc
  | _=>exact ⟨⟨rfl,s',hv',hq,ok'⟩,mk'⟩)
theorem aw_mono {c:Code} {Q':Exit→ASt→Prop} (h:AW P c s Q) (hq:∀e s,Q e s→Q' e s):AW P c s Q':=fun n r U T w0 a w hv ok mk =>
 wpIn_mono (h n r U T w0 a w hv ok mk) fun e a w ⟨⟨hc,s',hv',h1,ok'⟩,mk'⟩=>⟨⟨hc,s',hv',hq _ _ h1,ok'⟩,mk'⟩
def constAV:Value→AV
 | .agg _=>.one .any
 | .tuple _=>.one .any
 | v=>.one (.val v)
def ASt.ev (s:ASt):Operand→AV
 | .tmp t=>get s.env t
 | .const v=>constAV v
 | .func f=>.one (.fn f [])
 | .global _=>.one .any
theorem rep_const (h:Heap) (hv:Nat→Value) (A:Nat→Prop) (w:World) (v:Value):RepV h hv A w (constAV v) v:=by
 cases v<;>first|exact trivial|exact RepC.val _ rfl
theorem M.ev {U:Nat→Prop} {s:ASt} {a:Act} {w:World} {hv:Nat→Value} (m:M U s a w hv) (x:Operand):RepV s.heap hv (fun b=>U b∨mine s.heap hv b) w (s.ev x) (a.eval x):=by
 cases x with
 | tmp t=>exact m.env t
 | const v=>exact rep_const _ _ _ _ v
 | func f=>exact ⟨[],rfl,.nil⟩
 | global g=>exact trivial
theorem rep_val {h:Heap} {hv:Nat→Value} {A:Nat→Prop} {w:World} {v u:Value} (hr:RepV h hv A w (.one (.val v)) u):u=v:=by
 cases (show RepC A w (.val v) u from hr);rfl
theorem aw_cond {c:Operand} {x y:Code} {b:Bool} (hc:s.ev c=.one (.val (.bool b))) (ht:b=true→AW P x s Q) (hf:b=false→AW P y s Q):AW P (.cond c x y) s Q:=fun n r U T w0 a w hv ok mk=>by
 have h:=ok.m.ev c
 rw [hc] at h
 exact wpIn_cond_split ((by cases c<;>rfl:a.eval c=(bare a).eval c).trans (rep_val h)) (fun e=>ht e n r U T w0 a w hv ok mk) (fun e=>hf e n r U T w0 a w hv ok mk)
theorem aw_region {id:Nat} {l:List Oper} (h:AOps P l.toArray l s Q) (hd:noDefer l=true:=by rfl):AW P (.region id l.toArray false) s Q:=fun n r U T w0 a w hv ok mk =>
 wpIn_region_lit (list_in (ds:=a.defers) (a:=bare a) (fun e a' w' h'=>post_in ok mk h') post_calm l hd (h U _ _ _ w hv ok.base))
theorem aops_nil {ops:Array Oper} (h:Q .normal s):AOps P ops [] s Q:=fun U T w0 a w hv ok=>⟨rfl,s,hv,h,ok⟩
theorem aops_step {ops:Array Oper} {o:Oper} {rest:List Oper} {X:List Nat} {S:ASt→Prop} (hg:o.guard=none) (he:Ev P X s o S) (hr:∀s',S s'→AOps P ops rest s' Q):AOps P ops (o::rest) s Q :=
 fun U T w0 a w hv ok=>wpList_plain hg fun K hK=>he U T w0 a w hv ok K _ fun s' v w' hv' hS ok' _=>hK _ _ (hr s' hS U T w0 _ w' hv' ok')
theorem zaa {ops:Array Oper} {o:Oper} {rest:List Oper} {X:List Nat} {s':ASt} (hg:o.guard=none) (he:Ev P X s o (· = s')) (hr:AOps P ops rest s' Q):AOps P ops (o::rest) s Q :=
 aops_step hg he fun _ h=>h▸hr
theorem zhd {U:Nat→Prop} {a:Act} {w:World} {hv:Nat→Value} {ops:Array Oper} {j t:Nat} {b:Bool} (m:M U s a w hv) (hd:(ops[j]?).bind (·.dst)=some t) (ht:get s.env t=.one (.val (.bool b))) (hn:t<s.nt):yielded ops a.tmps j=some b:=by
 have h:=m.env t
 rw [ht] at h
 have hv:=rep_val h
 have hlt:t<a.tmps.size:=by rw [m.nt];exact hn
 have hg:a.tmps[t]?=some (.bool b):=by
  rw [Array.getElem?_eq_getElem hlt]
  congr 1
  rw [←hv]
  simp [Array.getD,hlt]
 simp [yielded,hd,hg]
theorem aops_yes {ops:Array Oper} {o:Oper} {rest:List Oper} {X:List Nat} {s':ASt} {j t:Nat} {b want:Bool} (hg:o.guard=some (j,want)) (hd:(ops[j]?).bind (·.dst)=some t) (ht:get s.env t=.one (.val (.bool b))) (hn:Nat.blt t s.nt=true)
  (hb:b=want) (he:Ev P X s o (· = s')) (hr:AOps P ops rest s' Q):AOps P ops (o::rest) s Q :=
 fun U T w0 a w hv ok=>wpList_step fun K hK=>by
  have hy:=zhd ok.m hd ht (by simpa [Nat.blt_eq] using hn)
  rw [if_pos (by simp [Region.wanted,hg,hy,hb])]
  exact he U T w0 a w hv ok K _ fun s' v w' hv' hS ok' _=>by subst hS;exact hK _ _ (hr U T w0 _ w' hv' ok')
end
end Abs
end Go.Proofs.YtclffekkjfhpdaaGreat

