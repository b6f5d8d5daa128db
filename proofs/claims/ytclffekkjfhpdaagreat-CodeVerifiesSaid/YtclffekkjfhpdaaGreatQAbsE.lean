import Derived.Test.YtclffekkjfhpdaaGreatQAbsC
namespace Go.Proofs.YtclffekkjfhpdaaGreat
open Go.ChangeShapes Go.WideShapes Go.RowKit
set_option linter.unusedVariables false
set_option linter.unusedSimpArgs false
namespace Abs
theorem RepC.cptr_inv {A:Nat→Prop} {w:World} {cs:List CV} {v:Value} (h:RepC A w (.cptr cs) v):∃(b off:Nat) (vals:Nat→Value),v=.pointer (some ⟨b,off,none⟩)∧b<w.heap.size∧¬A b ∧
  (∀(j:Nat) (c:CV),cs[j]?=some c→w.cell? ⟨b,off+j,none⟩=some (vals j))∧∀(j:Nat) (c:CV),cs[j]?=some c→RepC A w c (vals j):=by
 cases h with
 | cptr _ b off vals hb hA hc hr=>exact ⟨b,off,vals,rfl,hb,hA,hc,hr⟩
theorem RepC.empty {A:Nat→Prop} {w:World} {el:Nat→List CV} {Ad:Option Addr} {cap:Nat} (hm:cap≤maxLen) (h:Ad=none→cap=0):RepC A w (.slc 0 el) (.slice Ad 0 cap):=by
 cases Ad with
 | none=>rw [h rfl];exact .nil el
 | some a=>exact .emp el a cap hm
theorem RepC.slc_inv {A:Nat→Prop} {w:World} {n:Nat} {el:Nat→List CV} {v:Value} (h:RepC A w (.slc n el) v):(n=0∧∃(Ad:Option Addr) (cap:Nat),v=.slice Ad 0 cap∧cap≤maxLen∧(Ad=none→cap=0))∨∃(size b off cap:Nat) (vals:Nat→Nat→Value),v=.slice (some ⟨b,off,none⟩) n cap∧b<w.heap.size∧¬A b∧n≤cap∧cap≤maxLen∧(∀i,i<n→(el i).length=size) ∧
  (∀(i j:Nat) (c:CV),i<n→(el i)[j]?=some c→w.cell? ⟨b,off+(i*size+j),none⟩=some (vals i j))∧∀(i j:Nat) (c:CV),i<n→(el i)[j]?=some c→RepC A w c (vals i j):=by
 cases h with
 | nil=>exact .inl ⟨rfl,none,0,rfl,by unfold maxLen;decide,fun _=>rfl⟩
 | emp _ a cap hm=>exact .inl ⟨rfl,some a,cap,rfl,hm,fun e=>by cases e⟩
 | slc _ _ size b off cap vals hb hA hc hm hsz hcell hrep=>exact .inr ⟨size,b,off,cap,vals,rfl,hb,hA,hc,hm,hsz,hcell,hrep⟩
theorem cells_of {A:Nat→Prop} {w:World} {cs:List CV} {b off:Nat} {vals:Nat→Value} (hc:∀(j:Nat) (c:CV),cs[j]?=some c→w.cell? ⟨b,off+j,none⟩=some (vals j)) (hr:∀(j:Nat) (c:CV),cs[j]?=some c→RepC A w c (vals j)) :
  CellsAt w (.pointer (some ⟨b,off,none⟩)) ((List.range cs.length).map vals)∧All2 (RepC A w) cs ((List.range cs.length).map vals):=by
 have key:∀(j:Nat),j<cs.length→((List.range cs.length).map vals)[j]?=some (vals j):=fun j hj=>by simp [hj]
 refine ⟨⟨b,off,rfl,fun j u hu=>?_⟩,All2.of (by simp) fun j c hj=>?_⟩
 ·have hlt:j<cs.length:=by
   obtain ⟨h,_⟩:=List.getElem?_eq_some_iff.1 hu
   simpa using h
  rw [key j hlt] at hu
  injection hu with hu
  rw [←hu]
  exact hc j _ (List.getElem?_eq_getElem hlt)
 ·have hlt:j<cs.length:=(List.getElem?_eq_some_iff.1 hj).1
  exact ⟨_,key j hlt,hr j c hj⟩
theorem rep_of_c {h:Heap} {hv:Nat→Value} {A:Nat→Prop} {w:World} {c:CV} {v:Value} (hr:RepC A w c v):RepV h hv A w (.one c) v:=by
 cases hr with
 | val v h=>exact RepC.val v h
 | nil el=>exact RepC.nil el
 | emp el a cap hm=>exact RepC.emp el a cap hm
 | emp0 Ad=>exact RepC.emp0 Ad
 | full n el Ad h=>exact RepC.full n el Ad h
 | ifc t p=>exact RepC.ifc t p
 | fnc f caps vs hp hl h =>
  refine ⟨vs,rfl,All2.of hl fun j c hj=>?_⟩
  have hjl:j<vs.length:=by rw [←hl];exact (List.getElem?_eq_some_iff.1 hj).1
  refine ⟨vs[j],List.getElem?_eq_getElem hjl,?_⟩
  have h1:=h j c _ hj (List.getElem?_eq_getElem hjl)
  have h2:=List.all_eq_true.1 hp c (List.mem_of_getElem? hj)
  cases c<;>first|exact h1|cases h2
 | slc n el size b off cap vals hb hA hc hm hs hcell hrep=>exact RepC.slc n el size b off cap vals hb hA hc hm hs hcell hrep
 | cptr cs b off vals hb hA hcell hrep=>exact RepC.cptr cs b off vals hb hA hcell hrep
section
variable {P:Program} {s:ASt} {d:Option Nat} {ty t xT yT:TypeId} {pos:String} {af:Array Edge} {g:Option (Nat×Bool)} {x y c:Operand} {id off n f o m sz len bytes e:Nat} {agg:Bool} {cs:List CV} {k:IntKind}
theorem run_field {v:Value} {b off:Nat} [h:TFld P t f o n agg] (h0:Nat.blt 0 n=true) (w:World) (hv:v=.pointer (some ⟨b,off,none⟩)):(Instr.fieldAt t v f).run P w=.ok (.pointer (some ⟨b,off+o,none⟩)) w:=by
 obtain ⟨fs,fd,h1,h2,h3,h4⟩:=TFld.parts (P:=P) (t:=t) (f:=f) (off:=o) (n:=n) (agg:=agg)
 subst hv
 have hn:¬n=0:=by have:=Nat.le_of_ble_eq_true h0;omega
 simp [Instr.fieldAt,run_underlying h1,h2,Instr.sureAddr,fieldPlace,run_size (P:=P) (t:=fd.type) (agg:=agg) (n:=n),hn,add_at,h3]
theorem ev_field (hx:s.ev x=.one (.ptr id off)) [TFld P t f o n agg] (h0:Nat.blt 0 n=true) (hd:dOk s d=true):Ev P [] s ⟨d,.fieldAddr t x f,ty,pos,af,g⟩ (· = s.put d (.one (.ptr id (off+o)))) :=
 ev_of_run hd fun U a w hv M=>by
  have hr:=M.ev x
  rw [hx] at hr
  obtain ⟨h1,b,h2,h3⟩:=hr
  exact ⟨.pointer (some ⟨b,off+o,none⟩),w,by simp [execOp,run_field (P:=P) (o:=o) (n:=n) (agg:=agg) h0 w h3],Fr.refl _ _,h1,b,h2,rfl⟩
theorem zec {j q:Nat} (hx:s.ev x=.one (.rptr id sz j q)) [TFld P t f o n agg] (h0:Nat.blt 0 n=true) (hd:dOk s d=true):Ev P [] s ⟨d,.fieldAddr t x f,ty,pos,af,g⟩ (· = s.put d (.one (.rptr id sz j (q+o)))) :=
 ev_of_run hd fun U a w hv M=>by
  have hr:=M.ev x
  rw [hx] at hr
  obtain ⟨h1,b,n',c,h2,h3⟩:=hr
  exact ⟨.pointer (some ⟨b,j*sz+q+o,none⟩),w,by simp [execOp,run_field (P:=P) (o:=o) (n:=n) (agg:=agg) h0 w h3],Fr.refl _ _,h1,b,n',c,h2,by rw [Nat.add_assoc]⟩
theorem zaM (hx:s.ev x=.one (.cptr cs)) [TFld P t f o n agg] (h0:Nat.blt 0 n=true) (hd:dOk s d=true):Ev P [] s ⟨d,.fieldAddr t x f,ty,pos,af,g⟩ (· = s.put d (.one (.cptr (cs.drop o)))) :=
 ev_of_run hd fun U a w hv M=>by
  have hr:=M.ev x
  rw [hx] at hr
  obtain ⟨b,off,vals,he,hb,hA,hc,hrep⟩:=RepC.cptr_inv hr
  exact ⟨.pointer (some ⟨b,off+o,none⟩),w,by simp [execOp,run_field (P:=P) (o:=o) (n:=n) (agg:=agg) h0 w he],Fr.refl _ _,
   RepC.cptr _ b _ (fun j=>vals (o+j)) hb hA (fun j c hj=>by rw [Nat.add_assoc];exact hc _ c (by simpa using hj)) (fun j c hj=>hrep _ c (by simpa using hj))⟩
theorem zaf {el:Nat→List CV} {i:Int} {j:Nat} (hx:s.ev x=.one (.slc n el)) (hy:s.ev y=.one (.val (.int k i))) (hi:i=(j:Int)) (hj:j<n) [h:TSl P t e sz bytes] (hs:(el j).length=sz) (hd:dOk s d=true) :
  Ev P [] s ⟨d,.indexAddr t x y,ty,pos,af,g⟩ (· = s.put d (.one (.cptr (el j)))) :=
 ev_of_run hd fun U a w hv M=>by
  have hr:=M.ev x
  rw [hx] at hr
  have hE:=(TSl.elem (P:=P) (t:=t) (e:=e) (sz:=sz) (bytes:=bytes))
  rcases RepC.slc_inv hr with ⟨h0,_⟩|⟨size,b,off,cap,vals,hv',hb,hA,hc,hm,hsz,hcell,hrep⟩
  ·omega
  ·have hsize:size=sz:=(hsz j hj).symm.trans hs
   subst hsize
   refine ⟨.pointer (some ⟨b,off+j*size,none⟩),w,?_,Fr.refl _ _,RepC.cptr _ b _ (fun q=>vals j q) hb hA (fun q c hq=>by rw [Nat.add_assoc];exact hcell j q c hj hq) (fun q c hq=>hrep j q c hj hq)⟩
   have h1:(0:Int)≤i∧i<(n:Int):=by omega
   have h2:i.toNat=j:=by omega
   simp [execOp,Instr.indexAt,hv',M.val hy,asIntOf,run_underlying hE.slice,h1.1,h1.2,h2,TSl.run_size (P:=P) (t:=t) (e:=e) (sz:=size) (bytes:=bytes),add_at]
theorem zbI {el:Nat→List CV} {i:Int} {j:Nat} (hx:s.ev x=.one (.own id)) (hb:look s.heap id=some (.row e sz n el)) (hy:s.ev y=.one (.val (.int k i))) (hi:i=(j:Int)) (hj:j<n) [h:TSl P t e sz bytes] (hd:dOk s d=true) :
  Ev P [] s ⟨d,.indexAddr t x y,ty,pos,af,g⟩ (· = s.put d (.one (.rptr id sz j 0))) :=
 ev_of_run hd fun U a w hv M=>by
  have hr:=M.ev x
  rw [hx] at hr
  obtain ⟨h1,h2,_⟩:=hr
  have hE:=(TSl.elem (P:=P) (t:=t) (e:=e) (sz:=sz) (bytes:=bytes))
  obtain ⟨vs,h3,_⟩:=M.hm.blk id _ hb
  rcases h3.2 with ⟨_,h0⟩|⟨q,cap,cur,h4,_,h5,_⟩
  ·omega
  ·refine ⟨.pointer (some ⟨q,j*sz,none⟩),w,?_,Fr.refl _ _,h1,q,n,cap,h4,by simp⟩
   have h6:(0:Int)≤i∧i<(n:Int):=by omega
   have h7:i.toNat=j:=by omega
   simp [execOp,Instr.indexAt,h2,h4,M.val hy,asIntOf,run_underlying hE.slice,h6.1,h6.2,h7,TSl.run_size (P:=P) (t:=t) (e:=e) (sz:=sz) (bytes:=bytes),add_at]
theorem zas (hx:s.ev x=.one (.cptr cs)) [kk:TVar P t false n] {c:CV} (hc:cs[0]?=some c) (hd:dOk s d=true):Ev P [] s ⟨d,.load t x,ty,pos,af,g⟩ (· = s.put d (.one c)) :=
 ev_of_run hd fun U a w hv m=>by
  have hr:=m.ev x
  rw [hx] at hr
  obtain ⟨b,off,vals,e,hb,hA,hcell,hrep⟩:=RepC.cptr_inv hr
  have h0:=hcell 0 c hc
  simp only [Nat.add_zero] at h0
  refine ⟨vals 0,w,?_,Fr.refl _ _,rep_of_c (hrep 0 c hc)⟩
  simp [execOp,e,Instr.loadAt,Instr.sureAddr,loadVar,run_isAgg (P:=P) (t:=t) (agg:=false) (n:=n),h0]
theorem zaI (hx:s.ev x=.one (.cptr cs)) [kk:TVar P t true n] {ds:List CV} (hc:cs.take n=ds) (hl:Nat.ble n cs.length=true) (hd:dOk s d=true):Ev P [] s ⟨d,.load t x,ty,pos,af,g⟩ (· = s.put d (.agg ds)) :=
 ev_of_run hd fun U a w hv m=>by
  have hr:=m.ev x
  rw [hx] at hr
  obtain ⟨b,off,vals,e,hb,hA,hcell,hrep⟩:=RepC.cptr_inv hr
  have hl':=Nat.le_of_ble_eq_true hl
  obtain ⟨hca,hall⟩:=cells_of hcell hrep
  rw [←e] at hca
  have h3:=hall.take n
  obtain ⟨u,h4,h5,_⟩:=zfh (P:=P) (t:=t) (agg:=true) (n:=n) (hca.take n) (by simp;omega) (fun e=>by cases e)
  refine ⟨u,w,?_,Fr.refl _ _,?_⟩
  ·simp only [execOp,Sem.run_bind,h4,Result.andThen_ok,Sem.run_pure]
  ·rw [h5 rfl,←hc]
   exact ⟨_,rfl,h3.imp fun c v hr=>rep_of_c hr⟩
end
end Abs
end Go.Proofs.YtclffekkjfhpdaaGreat
namespace Go.Proofs.YtclffekkjfhpdaaGreat
open Go.ChangeShapes Go.WideShapes Go.RowKit
set_option linter.unusedVariables false
set_option linter.unusedSimpArgs false
namespace Abs
section
variable {U T:Nat→Prop} {w0:Base} {w w':World} {s:ASt} {a:Act} {hv hv':Nat→Value} {h h':Heap} {id:Nat}
theorem Fr.setRow (w:World) (b:Nat) (vs:Array Value):Fr (fun g=>g=b) w (w.setRow b vs):=⟨rfl,rfl,rfl,by simp,fun g _ hn=>setRow_other w b g vs hn⟩
theorem Pass.ofBox {cs cs':List CV} (hb:look h id=some (.box cs)) (j:Nat):Pass h hv ((id,some (.box cs'))::h) hv j:=by
 by_cases hj:id=j
 ·subst hj
  refine ⟨?_,fun _=>⟨cs',look_same _ _ _⟩,fun _=>rfl,?_⟩
  ·rintro ⟨_,_,_,_,e⟩;rw [hb] at e;cases e
  ·rintro ⟨_,_,e⟩;rw [hb] at e;cases e
 ·exact ⟨fun x=>by rw [zcQ _ _ hj];exact x,fun x=>by rw [zcQ _ _ hj];exact x,fun _=>rfl,fun x=>by rw [zcQ _ _ hj];exact x⟩
theorem Pass.ofRow {e sz n:Nat} {el:Nat→List CV} {e' sz' n':Nat} {el':Nat→List CV} (hb:look h id=some (.row e sz n el)) (j:Nat):Pass h hv ((id,some (.row e' sz' n' el'))::h) hv j:=by
 by_cases hj:id=j
 ·subst hj
  refine ⟨fun _=>⟨e',sz',n',el',look_same _ _ _⟩,?_,fun _=>rfl,?_⟩
  ·rintro ⟨_,e⟩;rw [hb] at e;cases e
  ·rintro ⟨_,_,e⟩;rw [hb] at e;cases e
 ·exact ⟨fun x=>by rw [zcQ _ _ hj];exact x,fun x=>by rw [zcQ _ _ hj];exact x,fun _=>rfl,fun x=>by rw [zcQ _ _ hj];exact x⟩
theorem mine_box {cs cs':List CV} (hb:look h id=some (.box cs)) (b:Nat) (hm:mine ((id,some (.box cs'))::h) hv b):mine h hv b:=by
 obtain ⟨i,x,h1,h2⟩:=hm
 by_cases hi:id=i
 ·subst hi;exact ⟨id,_,hb,h2⟩
 ·rw [zcQ _ _ hi] at h1;exact ⟨i,x,h1,h2⟩
theorem Ok.write (ok:Ok U T w0 s a w hv) {cs cs':List CV} (hb:look s.heap id=some (.box cs)) {b:Nat} (hid:hv id=.pointer (some ⟨b,0,none⟩)) {vs':List Value} (hr:All2 (RepT s.heap hv (fun b=>U b∨mine s.heap hv b) w) cs' vs') {d:Option Nat} (hd:dOk s d=true) (v:Value) :
  Ok U T w0 (ASt.put { s with heap:=(id,some (.box cs'))::s.heap } d (.one .any)) (a.put d v) (w.setRow b vs'.toArray) hv:=by
 obtain ⟨b',vs,ty,h3,h4,h5⟩:=ok.m.hm.blk id _ hb
 rw [hid] at h3
 simp only [Value.pointer.injEq,Option.some.injEq,Addr.mk.injEq,and_true] at h3
 subst h3
 have hmb:mine s.heap hv b:=⟨id,_,hb,by rw [hid];rfl⟩
 have hf:=Fr.setRow w b vs'.toArray
 have hput:=ok.m.hm.put (w':=w.setRow b vs'.toArray) (id:=id) (blk:=.box cs') (u:=hv id) hf (fun g hg=>by subst hg;exact ⟨⟨_,hb⟩,by rw [hid];rfl⟩) (fun g hg=>.inr ⟨⟨_,hb⟩,hg⟩) (fun i x _ _ j _=>by rw [upd_self];exact Pass.ofBox hb j) (by
  rw [upd_self]
  refine ⟨b,vs'.toArray,ty,hid,setRow_heap w b vs vs'.toArray ty (0,0) h4,?_⟩
  exact hr.imp fun x y hxy=>hxy.keep (fun j _=>Pass.ofBox hb j) hf (fun g hg=>by subst hg;exact .inr hmb) fun g hlt hg=>hg.imp (fun x=>x) (mine_box hb g))
 rw [upd_self] at hput
 exact ok.next hf (fun g hg=>by subst hg;exact hmb) (fun _ j _=>Pass.ofBox hb j) (fun j _=>Pass.ofBox hb j) hput (fun g hg _=>mine_box hb g hg) trivial hd
end
section
variable {P:Program} {s:ASt} {d:Option Nat} {ty t xT yT:TypeId} {pos:String} {af:Array Edge} {g:Option (Nat×Bool)} {x y c:Operand} {id off n f o m sz len bytes e:Nat} {agg:Bool} {cs:List CV} {k:IntKind}
theorem ev_store {r:AV} {new:List CV} (hx:s.ev x=.one (.ptr id off)) (hb:look s.heap id=some (.box cs)) (hy:s.ev y=r) (hc:r.cells=some new) (hsol:new.all CV.solid=true) [kk:TVar P t agg n] (hn:new.length=n) (hl:Nat.ble (off+n) cs.length=true) (hd:dOk s d=true) :
  Ev P [] s ⟨d,.store t x y,ty,pos,af,g⟩ (· = ASt.put { s with heap:=(id,some (.box (cs.take off++new++cs.drop (off+n))))::s.heap } d (.one .any)) :=
 fun U T w0 a w hv ok K Q hK=>by
  have hr:=ok.m.ev y
  rw [hy] at hr
  obtain ⟨us,hus,h2⟩:=cells_rep hr hc
  have hrx:=ok.m.ev x
  rw [hx] at hrx
  obtain ⟨_,b,h3,h4⟩:=hrx
  obtain ⟨b',vs,ty',h5,h6,h7⟩:=ok.m.hm.blk id _ hb
  rw [h3] at h5
  simp only [Value.pointer.injEq,Option.some.injEq,Addr.mk.injEq,and_true] at h5
  subst h5
  have hlen:=h7.length
  have hlu:=h2.length
  have hl':=Nat.le_of_ble_eq_true hl
  simp only [Array.length_toList] at hlen
  have hone:∀u∈us,u.oneCell'=true:=fun u hu=>by
   obtain ⟨j,hj⟩:=List.mem_iff_getElem?.1 hu
   have hjl:j<new.length:=by rw [hlu];exact (List.getElem?_eq_some_iff.1 hj).1
   obtain ⟨u',h8,h9⟩:=h2.get (List.getElem?_eq_getElem hjl)
   rw [hj] at h8
   injection h8 with h8
   subst h8
   exact RepT.one h9 (List.all_eq_true.1 hsol _ (List.getElem_mem hjl))
  have hst:=run_storeCells_at (P:=P) b off ty' us 0 vs w h6 (by omega) hone
  simp only [Nat.add_zero] at hst
  have hun:us.length=n:=by omega
  rw [hun] at hst
  have hall:All2 (RepT s.heap hv (fun b=>U b∨mine s.heap hv b) w) (cs.take off++new++cs.drop (off+n)) (vs.toList.take off++us++vs.toList.drop (off+n)):=((h7.take off).append h2).append (h7.drop (off+n))
  have hrun:(execOp a.eval ⟨d,.store t x y,ty,pos,af,g⟩).run P w=.ok .skip (w.setRow b (vs.toList.take off++us++vs.toList.drop (off+n)).toArray):=by
   have hsz:us.toArray.size=n:=by simpa using hun
   simp [execOp,Instr.storeAt,h4,Instr.sureAddr,storeVar,hus,run_size (P:=P) (t:=t) (agg:=agg) (n:=n),hun,hst]
  unfold Oper.wp
  rw [hrun]
  exact hK _ undef _ hv rfl (ok.write hb h3 hall hd undef) fun _ _ _=>rfl
theorem zig {vs:List AV} {r:AV} (hx:s.ev x=.tup vs) (hr:vs[n]?=some r) (hd:dOk s d=true):Ev P [] s ⟨d,.extract x n,ty,pos,af,g⟩ (· = s.put d r) :=
 ev_of_run hd fun U a w hv m=>by
  have h:=m.ev x
  rw [hx] at h
  obtain ⟨us,h1,h2⟩:=h
  obtain ⟨u,h3,h4⟩:=h2.get hr
  refine ⟨u,w,by simp [execOp,Instr.extract,h1,h3],Fr.refl _ _,?_⟩
  cases r with
  | tup _=>exact h4.elim
  | one c=>exact h4
  | agg cs=>exact h4
theorem zin {b:ByteArray} {i:Int} {j:Nat} (hx:s.ev x=.one (.val (.string b))) (hy:s.ev y=.one (.val (.int k i))) (hi:i=(j:Int)) (hj:j<b.size) [ht:TStr P t] (hd:dOk s d=true) :
  Ev P [] s ⟨d,.index t x y,ty,pos,af,g⟩ (· = s.put d (.one (.val (.int .u8 (b[j].toNat:Int))))) :=
 ev_of_val hd rfl fun U a w hv m=>by
  have h1:(0:Int)≤i:=by omega
  have h2:i.toNat=j:=by omega
  simp [execOp,Instr.index,m.val hx,m.val hy,asIntOf,run_underlying ht.h,h1,h2,hj]
theorem ziW {b:ByteArray} (hx:s.ev x=.one (.val (.string b))) [ht:TStr P t] (hd:dOk s d=true) :
  Ev P [] s ⟨d,.call { callee:=.builtin .len,args:=#[x],argTypes:=#[t] },ty,pos,af,g⟩ (· = s.put d (.one (.val (.int .i64 (b.size:Int))))) :=
 ev_of_val hd rfl fun U a w hv m=>by
  simp [execOp,resolve,invoke,builtin,Builtin.len_,m.val hx,run_underlying ht.h,goInt]
theorem zeV {el:Nat→List CV} (hx:s.ev x=.one (.slc n el)) [h:TSl P t e sz bytes] (hd:dOk s d=true) :
  Ev P [] s ⟨d,.call { callee:=.builtin .len,args:=#[x],argTypes:=#[t] },ty,pos,af,g⟩ (· = s.put d (.one (.val (.int .i64 (n:Int))))) :=
 ev_of_val hd rfl fun U a w hv m=>by
  have hr:=m.ev x
  rw [hx] at hr
  have hE:=(TSl.elem (P:=P) (t:=t) (e:=e) (sz:=sz) (bytes:=bytes))
  rcases RepC.slc_inv hr with ⟨h0,_,_,hv',_⟩|⟨size,b,off,cap,vals,hv',_⟩
  ·simp [execOp,resolve,invoke,builtin,Builtin.len_,hv',run_underlying hE.slice,goInt,h0]
  ·simp [execOp,resolve,invoke,builtin,Builtin.len_,hv',run_underlying hE.slice,goInt]
theorem ziK (hx:s.ev x=.one (.val (.slice none 0 0))) [h:TSl P t e sz bytes] (hd:dOk s d=true) :
  Ev P [] s ⟨d,.call { callee:=.builtin .len,args:=#[x],argTypes:=#[t] },ty,pos,af,g⟩ (· = s.put d (.one (.val (.int .i64 0)))) :=
 ev_of_val hd rfl fun U a w hv m=>by
  have hE:=(TSl.elem (P:=P) (t:=t) (e:=e) (sz:=sz) (bytes:=bytes))
  simp [execOp,resolve,invoke,builtin,Builtin.len_,m.val hx,run_underlying hE.slice,goInt]
theorem own_len {U:Nat→Prop} {a:Act} {w:World} {hv:Nat→Value} {e':TypeId} {el:Nat→List CV} (m:M U s a w hv) (hx:s.ev x=.one (.own id)) (hb:look s.heap id=some (.row e' sz n el)):∃A c,a.eval x=.slice A n c∧hv id=.slice A n c∧n≤c∧c≤maxLen:=by
 have hr:=m.ev x
 rw [hx] at hr
 obtain ⟨_,h2,_⟩:=hr
 obtain ⟨vs,h3,_⟩:=m.hm.blk id _ hb
 obtain ⟨A,c,h4,h5,h6,_⟩:=Kit.own_slice h3
 exact ⟨A,c,h2.trans h4,h4,h5,h6⟩
theorem zfk {e':TypeId} {el:Nat→List CV} (hx:s.ev x=.one (.own id)) (hb:look s.heap id=some (.row e' sz n el)) {e'' sz'':Nat} [h:TSl P t e'' sz'' bytes] (hd:dOk s d=true) :
  Ev P [] s ⟨d,.call { callee:=.builtin .len,args:=#[x],argTypes:=#[t] },ty,pos,af,g⟩ (· = s.put d (.one (.val (.int .i64 (n:Int))))) :=
 ev_of_val hd rfl fun U a w hv m=>by
  obtain ⟨A,c,h1,_⟩:=own_len m hx hb
  have hE:=(TSl.elem (P:=P) (t:=t) (e:=e'') (sz:=sz'') (bytes:=bytes))
  simp [execOp,resolve,invoke,builtin,Builtin.len_,h1,run_underlying hE.slice,goInt]
theorem ev_min {p:Array TypeId} {i j:Int} (hx:s.ev x=.one (.val (.int k i))) (hy:s.ev y=.one (.val (.int k j))) (hd:dOk s d=true) {q:Int} (hq:(if j<i then j else i)=q) :
  Ev P [] s ⟨d,.call { callee:=.builtin .min,args:=#[x,y],argTypes:=p },ty,pos,af,g⟩ (· = s.put d (.one (.val (.int k q)))) :=
 ev_of_val hd rfl fun U a w hv m=>by
  simp [execOp,resolve,invoke,builtin,Builtin.min_,Builtin.min2,m.val hx,m.val hy,←hq]
theorem ev_max {p:Array TypeId} {i j:Int} (hx:s.ev x=.one (.val (.int k i))) (hy:s.ev y=.one (.val (.int k j))) (hd:dOk s d=true) {q:Int} (hq:(if j>i then j else i)=q) :
  Ev P [] s ⟨d,.call { callee:=.builtin .max,args:=#[x,y],argTypes:=p },ty,pos,af,g⟩ (· = s.put d (.one (.val (.int k q)))) :=
 ev_of_val hd rfl fun U a w hv m=>by
  simp [execOp,resolve,invoke,builtin,Builtin.max_,Builtin.max2,m.val hx,m.val hy,←hq]
end
end Abs
end Go.Proofs.YtclffekkjfhpdaaGreat
namespace Go.Proofs.YtclffekkjfhpdaaGreat
open Go.ChangeShapes Go.WideShapes Go.RowKit
set_option linter.unusedVariables false
set_option linter.unusedSimpArgs false
namespace Abs
def splice {α:Type} (l:List α) (off:Nat) (new:List α):List α:=l.take off++new++l.drop (off+new.length)
theorem fold_set:∀(new:List Value) (off j:Nat) (cs:Array Value),off+j+new.length≤cs.size →
  ((new.zipIdx j).foldl (fun (cs:Array Value) (p:Value×Nat)=>cs.setIfInBounds (off+p.2) p.1) cs).toList=splice cs.toList (off+j) new
 | [],off,j,cs,h=>by simp [splice]
 | v::new,off,j,cs,h=>by
  simp only [List.length_cons] at h
  simp only [List.zipIdx_cons,List.foldl_cons]
  rw [fold_set new off (j+1) _ (by simp;omega)]
  have e:=list_seg_step cs.toList (off+j) v new (by simp;omega)
  simpa [splice,Array.toList_setIfInBounds,Nat.add_assoc,Nat.add_comm 1,Nat.add_left_comm] using e
theorem All2.splice {α β:Type} {R:α→β→Prop} {xs:List α} {ys:List β} (h:All2 R xs ys) (off:Nat) {ns:List α} {ms:List β} (h2:All2 R ns ms):All2 R (splice xs off ns) (splice ys off ms):=by
 unfold Abs.splice
 rw [h2.length]
 exact ((h.take off).append h2).append (h.drop _)
def fillC (place:Nat→Option (Nat×Nat)) (cells:List CV):List (Nat×AV)→Option (List CV)
 | []=>some cells
 | (i,v)::rest =>
  match place i,v.cells with
  | some (off,size),some new=>bif Nat.beq new.length size&&Nat.ble (off+new.length) cells.length then fillC place (splice cells off new) rest else none
  | _,_=>none
theorem fill_rep {R:CV→Value→Prop} {place:Nat→Option (Nat×Nat)} {parts:List (Nat×AV)} {vparts:List (Nat×Value)}
  (hp:All2 (fun p q=>p.1=q.1∧∀new,p.2.cells=some new→∃us:List Value,q.2.cells=us.toArray∧All2 R new us) parts vparts) :
  ∀(cells:List CV) (vcells:Array Value) (out:List CV),All2 R cells vcells.toList→fillC place cells parts=some out→∃vout,Instr.fill place vcells vparts=some vout∧All2 R out vout.toList:=by
 induction hp with
 | nil=>intro cells vcells out h ho;simp only [fillC,Option.some.injEq] at ho;subst ho;exact ⟨vcells,rfl,h⟩
 | @cons p q ps qs hpq t ih =>
  intro cells vcells out h ho
  obtain ⟨i,v⟩:=p
  obtain ⟨i',u⟩:=q
  obtain ⟨hi,hc⟩:=hpq
  simp only at hi hc
  subst hi
  simp only [fillC] at ho
  cases hpl:place i with
  | none=>rw [hpl] at ho;cases ho
  | some os =>
   obtain ⟨off,size⟩:=os
   cases hv:v.cells with
   | none=>rw [hpl,hv] at ho;cases ho
   | some new =>
    rw [hpl,hv] at ho
    simp only at ho
    obtain ⟨us,h1,h2⟩:=hc new hv
    have hlen:=h2.length
    have hcl:=h.length
    simp only [Array.length_toList] at hcl
    cases hb:(Nat.beq new.length size&&Nat.ble (off+new.length) cells.length) with
    | false=>rw [hb] at ho;cases ho
    | true =>
     rw [hb] at ho
     simp only [cond_true] at ho
     rw [Bool.and_eq_true] at hb
     have e1:=Nat.eq_of_beq_eq_true hb.1
     have e2:=Nat.le_of_ble_eq_true hb.2
     have hset:=fold_set us off 0 vcells (by omega)
     simp only [Nat.add_zero] at hset
     have hsz:u.cells.size=us.length:=by rw [h1];simp
     obtain ⟨vout,h3,h4⟩:=ih (splice cells off new) (us.zipIdx.foldl (fun (cs:Array Value) (p:Value×Nat)=>cs.setIfInBounds (off+p.2) p.1) vcells) out (by rw [hset];exact h.splice off h2) ho
     refine ⟨vout,?_,h4⟩
     unfold Instr.fill
     rw [hpl]
     simp only
     have hne:¬(u.cells.size≠size∨off+u.cells.size>vcells.size):=by omega
     rw [if_neg (by simpa using hne)]
     rw [←h3]
     congr 1
     rw [h1]
     simp [←Array.foldl_toList]
def placesOf (P:Program) (t:TypeId):Option (List (Nat×Nat)) :=
 match P.underlying t with
 | some (.struct fs)=>fs.toList.mapM fun f=>(varOf P f.type).map fun (_,n)=>(f.offset,n)
 | _=>none
class TPlaces (P:Program) (t:TypeId) (ps:outParam (List (Nat×Nat))):Prop where
 h:placesOf P t=some ps
theorem ziV {P:Program} (w:World):∀(fs:List Field) (ps:List (Nat×Nat)),(fs.mapM fun f=>(varOf P f.type).map fun (_,n)=>(f.offset,n))=some ps →
  (fs.mapM fun f=>(do pure (f.offset,←sizeOf f.type):Sem (Nat×Nat))).run P w=.ok ps w:=by
 intro fs
 induction fs with
 | nil=>intro ps h;simp at h;subst h;rfl
 | cons f fs ih =>
  intro ps h
  simp only [List.mapM_cons,Option.bind_eq_bind,Option.pure_def] at h
  cases hv:varOf P f.type with
  | none=>rw [hv] at h;simp at h
  | some bn =>
   rw [hv] at h
   obtain ⟨b,n⟩:=bn
   simp only [Option.map_some,Option.bind_some] at h
   cases hr:(fs.mapM fun f=>(varOf P f.type).map fun (x:Bool×Nat)=>(f.offset,x.2)) with
   | none=>rw [hr] at h;simp at h
   | some qs =>
    rw [hr] at h
    simp only [Option.bind_some,Option.some.injEq] at h
    subst h
    have:TVar P f.type b n:=⟨hv⟩
    have ih':=ih qs hr
    simp only [List.mapM_cons,Sem.run_bind,run_size (P:=P) (t:=f.type) (agg:=b) (n:=n),Result.andThen_ok,Sem.run_pure,ih']
section
variable {P:Program} {s:ASt} {d:Option Nat} {ty t xT yT:TypeId} {pos:String} {af:Array Edge} {g:Option (Nat×Bool)} {x y c:Operand} {id off n f o m sz len bytes e:Nat} {agg:Bool} {cs:List CV} {k:IntKind}
theorem parts_rep {U:Nat→Prop} {a:Act} {w:World} {hv:Nat→Value} (m:M U s a w hv):∀(parts:List (Nat×Operand)),
  All2 (fun p q=>p.1=q.1∧∀new,p.2.cells=some new→∃us:List Value,q.2.cells=us.toArray∧All2 (RepT s.heap hv (fun b=>U b∨mine s.heap hv b) w) new us) (parts.map fun p=>(p.1,s.ev p.2)) (parts.map fun p=>(p.1,a.eval p.2))
 | []=>.nil
 | p::ps=>.cons ⟨rfl,fun new hn=>cells_rep (m.ev p.2) hn⟩ (parts_rep m ps)
theorem zhp {fs:Array Field} {ps:List (Nat×Nat)} (hu:P.underlying t=some (.struct fs)) [h:TPlaces P t ps] (w:World) :
  (fs.mapM fun f=>(do pure (f.offset,←sizeOf f.type):Sem (Nat×Nat))).run P w=.ok ps.toArray w:=by
 have h0:=h.h
 unfold placesOf at h0
 rw [hu] at h0
 have:=ziV (P:=P) w fs.toList ps h0
 rw [Array.mapM_eq_mapM_toList]
 show (Sem.run P ((fs.toList.mapM fun f=>(do pure (f.offset,←sizeOf f.type):Sem (Nat×Nat))).bind fun l=>.pure l.toArray) w)=_
 rw [show (Sem.run P ((fs.toList.mapM fun f=>(do pure (f.offset,←sizeOf f.type):Sem (Nat×Nat))).bind fun l=>.pure l.toArray) w)=_ from Sem.run_bind _ _ _ _]
 rw [this]
 rfl
theorem ev_build {parts:List (Nat×Operand)} {out:List CV} {z:Value} [kz:TZero P t z] {zs:List Value} (hz:z.cells=zs.toArray) (hone:zs.all (·.oneCell')=true) {ps:List (Nat×Nat)} [hp:TPlaces P t ps]
  (ho:fillC (fun (i:Nat)=>ps[i]?) (zs.map CV.val) (parts.map fun p=>(p.1,s.ev p.2))=some out) (hd:dOk s d=true):Ev P [] s ⟨d,.build t parts.toArray,ty,pos,af,g⟩ (· = s.put d (.agg out)) :=
 ev_of_run hd fun U a w hv m=>by
  obtain ⟨vout,h1,h2⟩:=fill_rep (parts_rep m parts) (zs.map CV.val) zs.toArray out (by simpa using zero_rep zs fun v hv=>List.all_eq_true.1 hone v hv) ho
  refine ⟨.agg vout,w,?_,Fr.refl _ _,vout.toList,by simp,h2⟩
  have hp0:=hp.h
  unfold placesOf at hp0
  cases hu:P.underlying t with
  | none=>rw [hu] at hp0;cases hp0
  | some dd =>
   cases dd with
   | struct fs =>
    have hpl:=zhp (P:=P) (ps:=ps) hu w
    have hpf:(fun (i:Nat)=>ps.toArray[i]?)=(fun (i:Nat)=>ps[i]?):=by funext i;simp
    have hl:(Array.map (fun (x:Nat×Operand)=>(x.1,a.eval x.2)) parts.toArray).toList=parts.map fun p=>(p.1,a.eval p.2):=by simp
    simp only [execOp,Instr.build,Sem.run_bind,TZero.run,Result.andThen_ok,run_underlying hu,hpl,hz,hpf]
    rw [hl,h1]
    simp
   | _=>rw [hu] at hp0;cases hp0
end
end Abs
end Go.Proofs.YtclffekkjfhpdaaGreat

