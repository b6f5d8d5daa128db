import Derived.Test.YtclffekkjfhpdaaGreatQKit
namespace Go.Proofs.YtclffekkjfhpdaaGreat
open Go.ChangeShapes Go.WideShapes Go.RowKit
set_option linter.unusedVariables false
set_option linter.unusedSimpArgs false
namespace Abs
inductive CV where
 | val (v:Value)
 | slc (n:Nat) (elem:Nat→List CV)
 | own (id:Nat)
 | rptr (id sz j o:Nat)
 | ptr (id off:Nat)
 | itp (id:Nat)
 | cptr (cells:List CV)
 | emp0
 | full (n:Nat) (elem:Nat→List CV)
 | ifc
 | fn (f:FuncId) (caps:List CV)
 | any
 deriving Inhabited
inductive AV where
 | one (c:CV)
 | agg (cs:List CV)
 | tup (vs:List AV)
 deriving Inhabited
inductive Thing where
 | str (s:ByteArray)
 | set (keys:List (List UInt8))
def Thing.val:Thing→Nat→Value
 | .str _,b=>.pointer (some ⟨b,0,none⟩)
 | .set _,b=>.map (some b)
def SetIs (keys:List (List UInt8)) (o:Obj):Prop:=∃(es:List MapEntry) (clock:Nat),o=.map es.toArray clock∧es.map (fun e=>(e.key,e.val))=keys.map fun l=>(.string ⟨l.toArray⟩,.bool true)
def Thing.is:Thing→Nat→Obj→Prop
 | .str s,pos,o=>o=.stringIter s pos
 | .set keys,_,o=>SetIs keys o
inductive Blk where
 | box (cells:List CV)
 | row (e:TypeId) (size n:Nat) (elem:Nat→List CV)
 | iter (s:Thing) (pos:Nat)
abbrev Heap:=List (Nat×Option Blk)
def look:Heap→Nat→Option Blk
 | [],_=>none
 | (k,b)::r,id=>bif Nat.beq k id then b else look r id
theorem look_cons (k:Nat) (b:Option Blk) (r:Heap) (id:Nat):look ((k,b)::r) id=if k=id then b else look r id:=by
 show (bif Nat.beq k id then b else look r id)=_
 cases h:Nat.beq k id
 ·rw [if_neg (Nat.ne_of_beq_eq_false h)];rfl
 ·rw [if_pos (Nat.eq_of_beq_eq_true h)];rfl
theorem look_same (k:Nat) (b:Option Blk) (r:Heap):look ((k,b)::r) k=b:=by rw [look_cons,if_pos rfl]
theorem zcQ {k id:Nat} (b:Option Blk) (r:Heap) (h:k≠id):look ((k,b)::r) id=look r id:=by rw [look_cons,if_neg h]
def CV.isC:CV→Bool
 | .cptr _=>true
 | _=>false
inductive RepC (A:Nat→Prop) (w:World):CV→Value→Prop
 | val (v:Value) (h:v.oneCell'=true):RepC A w (.val v) v
 | nil (elem:Nat→List CV):RepC A w (.slc 0 elem) (.slice none 0 0)
 | emp (elem:Nat→List CV) (a:Addr) (cap:Nat) (hm:cap≤maxLen):RepC A w (.slc 0 elem) (.slice (some a) 0 cap)
 | slc (n:Nat) (elem:Nat→List CV) (size b off cap:Nat) (vals:Nat→Nat→Value) (hb:b<w.heap.size) (hA:¬A b) (hc:n≤cap) (hm:cap≤maxLen) (hs:∀i,i<n→(elem i).length=size)
   (hcell:∀i j c,i<n→(elem i)[j]?=some c→w.cell? ⟨b,off+(i*size+j),none⟩=some (vals i j))
   (hrep:∀i j c,i<n→(elem i)[j]?=some c→RepC A w c (vals i j)):RepC A w (.slc n elem) (.slice (some ⟨b,off,none⟩) n cap)
 | emp0 (Ad:Option Addr):RepC A w .emp0 (.slice Ad 0 0)
 | full (n:Nat) (elem:Nat→List CV) (Ad:Option Addr) (h:RepC A w (.slc n elem) (.slice Ad n n)):RepC A w (.full n elem) (.slice Ad n n)
 | ifc (t:TypeId) (p:Value):RepC A w .ifc (.iface t p)
 | fnc (f:FuncId) (caps:List CV) (vs:List Value) (hp:caps.all CV.isC=true) (hl:caps.length=vs.length) (h:∀(j:Nat) (c:CV) (u:Value),caps[j]?=some c→vs[j]?=some u→RepC A w c u):RepC A w (.fn f caps) (.func (.func f) #[] vs.toArray)
 | cptr (cells:List CV) (b off:Nat) (vals:Nat→Value) (hb:b<w.heap.size) (hA:¬A b)
   (hcell:∀j c,cells[j]?=some c→w.cell? ⟨b,off+j,none⟩=some (vals j))
   (hrep:∀j c,cells[j]?=some c→RepC A w c (vals j)):RepC A w (.cptr cells) (.pointer (some ⟨b,off,none⟩))
structure Fr (T:Nat→Prop) (w w':World):Prop where
 os:w'.os=w.os
 tape:w'.tape=w.tape
 output:w'.output=w.output
 size:w.heap.size≤w'.heap.size
 block:∀b,b<w.heap.size→¬T b→w'.heap[b]?=w.heap[b]?
theorem Fr.refl (T:Nat→Prop) (w:World):Fr T w w:=⟨rfl,rfl,rfl,Nat.le_refl _,fun _ _ _=>rfl⟩
theorem Fr.trans {T T':Nat→Prop} {a b c:World} (h:Fr T a b) (k:Fr T' b c) (hT:∀x,x<a.heap.size→T' x→T x):Fr T a c :=
 ⟨k.os.trans h.os,k.tape.trans h.tape,k.output.trans h.output,Nat.le_trans h.size k.size,fun x hx hn=>(k.block x (Nat.lt_of_lt_of_le hx h.size) (fun e=>hn (hT x hx e))).trans (h.block x hx hn)⟩
theorem Fr.mono {T T':Nat→Prop} {a b:World} (h:Fr T a b) (hT:∀x,x<a.heap.size→T x→T' x):Fr T' a b:=⟨h.os,h.tape,h.output,h.size,fun x hx hn=>h.block x hx (fun e=>hn (hT x hx e))⟩
theorem Fr.cell {T:Nat→Prop} {w w':World} (h:Fr T w w') {p:Addr} {v:Value} (hp:¬T p.block) (hc:w.cell? p=some v):w'.cell? p=some v :=
 (World.cell?_of_block (w:=w) (h.block p.block (World.block_lt_of_cell? w p hc) hp)).trans hc
theorem Fr.of_below {w w':World} (h:Below w.heap.size w w'):Fr (fun _=>False) w w':=⟨h.os,h.tape,h.output,h.size,fun b hb _=>h.block b hb⟩
theorem Fr.below {w w':World} (h:Fr (fun _=>False) w w'):Below w.heap.size w w':=⟨h.os,h.tape,h.output,h.size,fun b hb=>h.block b hb (fun e=>e)⟩
theorem Fr.drew (T:Nat→Prop) (w:World):Fr T w w.drew:=⟨rfl,rfl,rfl,Nat.le_refl _,fun _ _ _=>rfl⟩
theorem Fr.alloc (T:Nat→Prop) (w:World) (o:Obj):Fr T w (w.alloc o):=⟨rfl,rfl,rfl,by simp,fun b hb _=>Below.heap_alloc w o b hb⟩
theorem Fr.setCell {T:Nat→Prop} (w:World) (p:Addr) (v:Value) (hp:T p.block):Fr T w (w.setCell p v) :=
 ⟨rfl,rfl,rfl,by simp,fun b _ hn=>Below.heap_setCell w p v b (fun e=>hn (e▸hp))⟩
theorem Fr.grown {T:Nat→Prop} {w w':World} {row:Option Nat} (h:w.grownBy w' row) (hr:∀k,row=some k→T k):Fr T w w' :=
 ⟨h.os,h.tape,h.output,h.size,fun b hb hn=>h.block b hb (fun e=>hn (hr b e.symm))⟩
theorem RepC.keep {A A' T:Nat→Prop} {w w':World} {c:CV} {v:Value} (h:RepC A w c v) (hf:Fr T w w') (hT:∀b,T b→A b) (hA:∀b,b<w.heap.size→A' b→A b):RepC A' w' c v:=by
 induction h with
 | val v h=>exact .val v h
 | nil elem=>exact .nil elem
 | emp elem a cap hm=>exact .emp elem a cap hm
 | emp0 Ad=>exact .emp0 Ad
 | full n el Ad h ih=>exact .full n el Ad ih
 | ifc t p=>exact .ifc t p
 | fnc f caps vs hp hl h ih=>exact .fnc f caps vs hp hl ih
 | slc n elem size b off cap vals hb hAb hc hm hs hcell hrep ih =>
  exact .slc n elem size b off cap vals (Nat.lt_of_lt_of_le hb hf.size) (fun e=>hAb (hA b hb e)) hc hm hs (fun i j c hi hj=>hf.cell (fun e=>hAb (hT b e)) (hcell i j c hi hj)) ih
 | cptr cells b off vals hb hAb hcell hrep ih =>
  exact .cptr _ b off vals (Nat.lt_of_lt_of_le hb hf.size) (fun e=>hAb (hA b hb e)) (fun j c hj=>hf.cell (fun e=>hAb (hT b e)) (hcell j c hj)) ih
inductive All2 {α β:Type} (R:α→β→Prop):List α→List β→Prop
 | nil:All2 R [] []
 | cons {x:α} {y:β} {xs:List α} {ys:List β} (h:R x y) (t:All2 R xs ys):All2 R (x::xs) (y::ys)
section
variable {α β:Type} {R S:α→β→Prop}
theorem All2.length:∀{xs:List α} {ys:List β},All2 R xs ys→xs.length=ys.length
 | _,_,.nil=>rfl
 | _,_,.cons _ t=>by rw [List.length_cons,List.length_cons,All2.length t]
theorem All2.imp (h:∀x y,R x y→S x y):∀{xs:List α} {ys:List β},All2 R xs ys→All2 S xs ys
 | _,_,.nil=>.nil
 | _,_,.cons a t=>.cons (h _ _ a) (All2.imp h t)
theorem All2.impMem:∀{xs:List α} {ys:List β},(∀x y,x∈xs→R x y→S x y)→All2 R xs ys→All2 S xs ys
 | _,_,_,.nil=>.nil
 | _,_,h,.cons a t=>.cons (h _ _ (by simp) a) (All2.impMem (fun x y hx=>h x y (by simp [hx])) t)
theorem All2.get:∀{xs:List α} {ys:List β},All2 R xs ys→∀{j:Nat} {x:α},xs[j]?=some x→∃y,ys[j]?=some y∧R x y
 | _,_,.nil,j,x,h=>by simp at h
 | _,_,.cons a t,0,x,h=>by simp at h;subst h;exact ⟨_,rfl,a⟩
 | _,_,.cons a t,j+1,x,h=>by simp at h;simpa using All2.get t h
theorem All2.drop:∀{xs:List α} {ys:List β},All2 R xs ys→∀k,All2 R (xs.drop k) (ys.drop k)
 | _,_,h,0=>by simpa using h
 | _,_,.nil,k+1=>by simpa using All2.nil
 | _,_,.cons _ t,k+1=>by simpa using All2.drop t k
theorem All2.take:∀{xs:List α} {ys:List β},All2 R xs ys→∀k,All2 R (xs.take k) (ys.take k)
 | _,_,h,0=>by simpa using All2.nil
 | _,_,.nil,k+1=>by simpa using All2.nil
 | _,_,.cons a t,k+1=>by simpa using All2.cons a (All2.take t k)
theorem All2.append:∀{xs:List α} {ys:List β},All2 R xs ys→∀{zs:List α} {us:List β},All2 R zs us→All2 R (xs++zs) (ys++us)
 | _,_,.nil,_,_,h=>h
 | _,_,.cons a t,_,_,h=>.cons a (All2.append t h)
theorem All2.set:∀{xs:List α} {ys:List β},All2 R xs ys→∀(k:Nat) {x:α} {y:β},R x y→All2 R (xs.set k x) (ys.set k y)
 | _,_,.nil,k,_,_,_=>.nil
 | _,_,.cons _ t,0,_,_,h=>.cons h t
 | _,_,.cons a t,k+1,_,_,h=>.cons a (All2.set t k h)
theorem All2.of:∀{xs:List α} {ys:List β},xs.length=ys.length→(∀(j:Nat) (x:α),xs[j]?=some x→∃y,ys[j]?=some y∧R x y)→All2 R xs ys
 | [],[],_,_=>.nil
 | x::xs,y::ys,hl,h=>by
  obtain ⟨y',hy,hr⟩:=h 0 x rfl
  simp at hy
  subst hy
  exact .cons hr (All2.of (by simpa using hl) fun j x hx=>by simpa using h (j+1) x (by simpa using hx))
theorem All2.mapL {γ:Type} (f:α→γ) {R':γ→β→Prop} (h:∀x y,R x y→R' (f x) y):∀{xs:List α} {ys:List β},All2 R xs ys→All2 R' (xs.map f) ys
 | _,_,.nil=>.nil
 | _,_,.cons a t=>.cons (h _ _ a) (All2.mapL f h t)
end
def blockOf:Value→Option Nat
 | .pointer (some a)=>some a.block
 | .slice (some a) _ _=>some a.block
 | .map (some b)=>some b
 | _=>none
theorem Thing.block (s:Thing) (b:Nat):blockOf (s.val b)=some b:=by cases s<;>rfl
def mine (h:Heap) (hv:Nat→Value) (b:Nat):Prop:=∃id blk,look h id=some blk∧blockOf (hv id)=some b
section
variable (h:Heap) (hv:Nat→Value) (A:Nat→Prop) (w:World)
def RepP:CV→Value→Prop
 | .own id,v=>(∃e sz n el,look h id=some (.row e sz n el))∧v=hv id∧∃a n c,v=.slice a n c
 | .rptr id sz j o,v=>(∃e sz n el,look h id=some (.row e sz n el))∧∃b n c,hv id=.slice (some ⟨b,0,none⟩) n c∧v=.pointer (some ⟨b,j*sz+o,none⟩)
 | .ptr id off,v=>(∃cs,look h id=some (.box cs))∧∃b,hv id=.pointer (some ⟨b,0,none⟩)∧v=.pointer (some ⟨b,off,none⟩)
 | .itp id,v=>(∃s p,look h id=some (.iter s p))∧v=hv id∧∃s b,v=Thing.val s b
 | .fn _ _,_=>False
 | .any,_=>True
 | c,v=>RepC A w c v
def RepT:CV→Value→Prop
 | .fn f caps,v=>∃vs:List Value,v=.func (.func f) #[] vs.toArray∧All2 (RepP h hv A w) caps vs
 | c,v=>RepP h hv A w c v
def Rep1:AV→Value→Prop
 | .one c,v=>RepT h hv A w c v
 | .agg cs,v=>∃vs:List Value,v=.agg vs.toArray∧All2 (RepT h hv A w) cs vs
 | .tup _,_=>False
def RepV:AV→Value→Prop
 | .tup xs,v=>∃vs:List Value,v=.tuple vs.toArray∧All2 (Rep1 h hv A w) xs vs
 | x,v=>Rep1 h hv A w x v
def BlkRep (id:Nat):Blk→Prop
 | .box cells=>∃b cs T,hv id=.pointer (some ⟨b,0,none⟩)∧w.heap[b]?=some (.cells cs T (0,0))∧All2 (RepT h hv A w) cells cs.toList
 | .row e sz n el=>∃vs:List Value,w.ownsRow 0 e sz (hv id) n vs∧(∀i,i<n→(el i).length=sz)∧∀i j c,i<n→(el i)[j]?=some c→∃v,vs[i*sz+j]?=some v∧RepC A w c v
 | .iter s pos=>∃b o,hv id=s.val b∧w.heap[b]?=some o∧s.is pos o
end
def tabAt (b:Nat):Option (Array Value→Prop):=none
def Tabs (h:Heap) (hv:Nat→Value) (w:World):Prop:=∀b p,tabAt b=some p→(∃cs T x,w.heap[b]?=some (.cells cs T x)∧p cs)∧¬mine h hv b
theorem tabs_none {h:Heap} {hv:Nat→Value} {w:World}:Tabs h hv w:=fun b cs e=>by cases e
theorem Tabs.sub {h h':Heap} {hv hv':Nat→Value} {w:World} (k:Tabs h hv w) (hm:∀b,mine h' hv' b→mine h hv b):Tabs h' hv' w:=fun b cs e=>⟨(k b cs e).1,fun m=>(k b cs e).2 (hm b m)⟩
theorem Tabs.fr {h h':Heap} {hv hv':Nat→Value} {w w':World} {T1:Nat→Prop} (k:Tabs h hv w) (hf:Fr T1 w w') (hT:∀b,T1 b→mine h hv b) (hm:∀b,mine h' hv' b→b<w.heap.size→mine h hv b):Tabs h' hv' w':=fun b p e=>by
 obtain ⟨⟨cs,T,x,h1,h3⟩,h2⟩:=k b p e
 have hlt:=(Array.getElem?_eq_some_iff.1 h1).1
 exact ⟨⟨cs,T,x,by rw [hf.block b hlt fun e=>h2 (hT b e)];exact h1,h3⟩,fun m=>h2 (hm b m hlt)⟩
structure Pass (h:Heap) (hv:Nat→Value) (h':Heap) (hv':Nat→Value) (id:Nat):Prop where
 row:(∃e sz n el,look h id=some (.row e sz n el))→∃e sz n el,look h' id=some (.row e sz n el)
 box:(∃cs,look h id=some (.box cs))→∃cs,look h' id=some (.box cs)
 hv:(∃b,look h id=some b)→hv' id=hv id
 it:(∃s p,look h id=some (.iter s p))→∃s p,look h' id=some (.iter s p)
def capIds:CV→List Nat
 | .own id=>[id]
 | .ptr id _=>[id]
 | .rptr id _ _ _=>[id]
 | .itp id=>[id]
 | _=>[]
def CV.ids:CV→List Nat
 | .own id=>[id]
 | .ptr id _=>[id]
 | .rptr id _ _ _=>[id]
 | .itp id=>[id]
 | .fn _ caps=>caps.flatMap capIds
 | _=>[]
def AV.ids1:AV→List Nat
 | .one c=>c.ids
 | .agg cs=>cs.flatMap CV.ids
 | .tup _=>[]
def AV.ids:AV→List Nat
 | .tup vs=>vs.flatMap AV.ids1
 | v=>v.ids1
section
variable {h h':Heap} {hv hv':Nat→Value} {A A' T:Nat→Prop} {w w':World}
theorem RepP.keep {c:CV} {v:Value} (hr:RepP h hv A w c v) (hp:∀id,id∈c.ids→Pass h hv h' hv' id) (hf:Fr T w w') (hT:∀b,T b→A b) (hA:∀b,b<w.heap.size→A' b→A b):RepP h' hv' A' w' c v:=by
 cases c with
 | own id=>obtain ⟨h1,h2,h3⟩:=hr;have p:=hp id (by simp [CV.ids]);exact ⟨p.row h1,by rw [p.hv (by obtain ⟨_,_,_,_,e⟩:=h1;exact ⟨_,e⟩)];exact h2,h3⟩
 | ptr id off=>obtain ⟨h1,b,h2,h3⟩:=hr;have p:=hp id (by simp [CV.ids]);exact ⟨p.box h1,b,by rw [p.hv (by obtain ⟨_,e⟩:=h1;exact ⟨_,e⟩)];exact h2,h3⟩
 | rptr id sz j o=>obtain ⟨h1,b,n,c,h2,h3⟩:=hr;have p:=hp id (by simp [CV.ids]);exact ⟨p.row h1,b,n,c,by rw [p.hv (by obtain ⟨_,_,_,_,e⟩:=h1;exact ⟨_,e⟩)];exact h2,h3⟩
 | itp id=>obtain ⟨h1,h2,h3⟩:=hr;have p:=hp id (by simp [CV.ids]);exact ⟨p.it h1,by rw [p.hv (by obtain ⟨_,_,e⟩:=h1;exact ⟨_,e⟩)];exact h2,h3⟩
 | fn f caps=>exact hr.elim
 | val u=>exact RepC.keep hr hf hT hA
 | slc n el=>exact RepC.keep hr hf hT hA
 | cptr cs=>exact RepC.keep hr hf hT hA
 | emp0=>exact RepC.keep hr hf hT hA
 | full n el=>exact RepC.keep hr hf hT hA
 | ifc=>exact RepC.keep hr hf hT hA
 | any=>trivial
theorem RepT.keep {c:CV} {v:Value} (hr:RepT h hv A w c v) (hp:∀id,id∈c.ids→Pass h hv h' hv' id) (hf:Fr T w w') (hT:∀b,T b→A b) (hA:∀b,b<w.heap.size→A' b→A b):RepT h' hv' A' w' c v:=by
 cases c with
 | fn f caps =>
  obtain ⟨vs,rfl,h2⟩:=hr
  refine ⟨vs,rfl,h2.impMem fun x y hx hr=>hr.keep (fun id hid=>hp id ?_) hf hT hA⟩
  simp only [CV.ids,List.mem_flatMap]
  refine ⟨x,hx,?_⟩
  cases x<;>first|exact hid|exact hr.elim
 | own i=>exact RepP.keep (c:=.own i) hr hp hf hT hA
 | ptr i o=>exact RepP.keep (c:=.ptr i o) hr hp hf hT hA
 | rptr i sz j o=>exact RepP.keep (c:=.rptr i sz j o) hr hp hf hT hA
 | itp i=>exact RepP.keep (c:=.itp i) hr hp hf hT hA
 | val u=>exact RepP.keep (c:=.val u) hr hp hf hT hA
 | slc n el=>exact RepP.keep (c:=.slc n el) hr hp hf hT hA
 | cptr cs=>exact RepP.keep (c:=.cptr cs) hr hp hf hT hA
 | emp0=>exact RepP.keep (c:=.emp0) hr hp hf hT hA
 | full n el=>exact RepP.keep (c:=.full n el) hr hp hf hT hA
 | ifc=>exact RepP.keep (c:=.ifc) hr hp hf hT hA
 | any=>trivial
theorem Rep1.keep {c:AV} {v:Value} (hr:Rep1 h hv A w c v) (hp:∀id,id∈c.ids1→Pass h hv h' hv' id) (hf:Fr T w w') (hT:∀b,T b→A b) (hA:∀b,b<w.heap.size→A' b→A b):Rep1 h' hv' A' w' c v:=by
 cases c with
 | one c=>exact RepT.keep hr hp hf hT hA
 | agg cs=>obtain ⟨vs,rfl,h2⟩:=hr;exact ⟨vs,rfl,h2.impMem fun x y hx hr=>RepT.keep hr (fun id hid=>hp id (List.mem_flatMap.2 ⟨x,hx,hid⟩)) hf hT hA⟩
 | tup _=>exact hr.elim
theorem RepV.keep {c:AV} {v:Value} (hr:RepV h hv A w c v) (hp:∀id,id∈c.ids→Pass h hv h' hv' id) (hf:Fr T w w') (hT:∀b,T b→A b) (hA:∀b,b<w.heap.size→A' b→A b):RepV h' hv' A' w' c v:=by
 cases c with
 | tup xs=>obtain ⟨vs,rfl,h2⟩:=hr;exact ⟨vs,rfl,h2.impMem fun x y hx hr=>Rep1.keep hr (fun id hid=>hp id (List.mem_flatMap.2 ⟨x,hx,hid⟩)) hf hT hA⟩
 | one c=>exact Rep1.keep (show Rep1 h hv A w (.one c) v from hr) hp hf hT hA
 | agg cs=>exact Rep1.keep (show Rep1 h hv A w (.agg cs) v from hr) hp hf hT hA
end
end Abs
end Go.Proofs.YtclffekkjfhpdaaGreat

