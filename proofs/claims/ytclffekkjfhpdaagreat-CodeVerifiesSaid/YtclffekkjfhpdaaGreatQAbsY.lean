import Derived.Test.YtclffekkjfhpdaaGreatQAbsR
import Derived.Test.YtclffekkjfhpdaaGreatQAbsW
import Derived.Laws.MakeOwn
import Derived.Laws.CopyRow
import Derived.Laws.IdiomCopy
import Derived.Laws.OwnMore
import Derived.Lib.AppendStr
namespace Go.Proofs.YtclffekkjfhpdaaGreat
open Go.ChangeShapes Go.WideShapes Go.RowKit
set_option linter.unusedVariables false
set_option linter.unusedSimpArgs false
namespace Abs
def rP {α:Type} (f:α→List CV) (p:α→Prop):Kit.Rel α:=fun w _ x cs=>All2 (RepC NoA w) (f x) cs∧p x
theorem zeu {P:Program} {t:TypeId} (ht:P.underlying t=some (.int .i64)) (hc:P.cellsOf t=1):Kit.Opens P t 1 (rP (fun n:Int=>[.val (.int .i64 n)]) Md.I64) :=
 ⟨hc,fun H enc w base spare held fuel cs x h=>by
  obtain ⟨n,e,_,hw⟩:=DataW.trod_int ht h
  refine ⟨n,by rw [e];exact .cons (.val _ rfl) .nil,?_⟩
  simp [Lit.wf,IntKind.min,IntKind.max,IntKind.bits,IntKind.signed] at hw
  unfold Md.I64
  omega⟩
theorem i64_of {n:Int} (hw:(Lit.int .i64 n).wf=true):Md.I64 n:=by
 simp [Lit.wf,IntKind.min,IntKind.max,IntKind.bits,IntKind.signed] at hw
 unfold Md.I64
 omega
theorem str_of (b:ByteArray):∃l:List UInt8,b=⟨l.toArray⟩:=⟨b.data.toList,by apply ByteArray.ext;simp⟩
theorem zfJ {P:Program} {t:TypeId} (ht:P.underlying t=some .string) (hc:P.cellsOf t=1):Kit.Opens P t 1 (rP (fun l:List UInt8=>[.val (Sv l)]) fun _=>True) :=
 ⟨hc,fun H enc w base spare held fuel cs x h=>by
  obtain ⟨s,e,_,hs⟩:=DataW.trod_string ht h
  obtain ⟨l,rfl⟩:=str_of s
  exact ⟨l,by rw [e];exact .cons (.val _ rfl) .nil,trivial⟩⟩
theorem zdS {α:Type} {P:Program} {t:TypeId} {n:Nat} {f g:α→List CV} {p q:α→Prop} (h:Kit.Opens P t n (rP f p)) (hf:∀x,f x=g x) (hp:∀x,p x→q x):Kit.Opens P t n (rP g q) :=
 ⟨h.1,fun H enc w base spare held fuel cs x k=>by
  obtain ⟨a,h1,h2⟩:=h.2 H enc w base spare held fuel cs x k
  exact ⟨a,by rw [←hf];exact h1,hp a h2⟩⟩
theorem zev {α:Type} [Inhabited α] {P:Program} {t e:TypeId} {size:Nat} {f:α→List CV} {p:α→Prop} (h0:0<size) (hs:∀x,(f x).length=size) (ht:P.underlying t=some (.slice e)) (hc:P.cellsOf t=1) (ho:Kit.Opens P e size (rP f p)):Kit.Opens P t 1 (rP (fun l=>[CV.ls f l]) fun l=>∀x∈l,p x):=by
 refine ⟨hc,fun H enc w base spare held fuel cs x h=>?_⟩
 rcases Deep.open_slice ht h with ⟨e,_⟩|⟨a,len,cap,m,n,D,Pl,e,hb,hl,hm,hmm,hx,hel⟩
 ·exact ⟨[],by rw [e];exact ⟨.cons (.nil _) .nil,fun x hx=>by cases hx⟩⟩
 ·have hml:len≤m:=by rw [hmm];split<;>omega
  rw [ho.1] at hel hx
  have key:∀k,k≤len→∃xs:List α,(∀x∈xs,p x)∧xs.length=k∧∀(i:Nat) (y:α),xs[i]?=some y→∀(j:Nat) (c:CV),(f y)[j]?=some c→∃u,w.cell? (a.add (i*size+j))=some u∧RepC NoA w c u:=by
   intro k
   induction k with
   | zero=>exact fun _=>⟨[],fun x hx=>(by cases hx),rfl,fun i y hy=>by simp at hy⟩
   | succ k ih =>
    intro hk
    obtain ⟨xs,hxp,hxl,hcell⟩:=ih (by omega)
    obtain ⟨cs',hcs,htr⟩:=hel k (by omega)
    obtain ⟨_,hcl,hat⟩:=World.cells?_some hcs
    obtain ⟨y,hy⟩:=ho.2 _ _ _ _ _ _ _ _ _ htr
    have hy':All2 (RepC NoA w) (f y) cs':=hy.1
    refine ⟨xs++[y],fun z hz=>by (rcases List.mem_append.1 hz with hz|hz;exact hxp z hz;rw [List.mem_singleton.1 hz];exact hy.2),by simp [hxl],fun i z hz j c hj=>?_⟩
    by_cases hi:i<xs.length
    ·rw [List.getElem?_append_left hi] at hz
     exact hcell i z hz j c hj
    ·rw [List.getElem?_append_right (by omega)] at hz
     have hi0:i=k:=by
      have:=(List.getElem?_eq_some_iff.1 hz).1
      simp at this
      omega
     subst hi0
     have hzy:y=z:=by rw [hxl,Nat.sub_self] at hz;simpa using hz
     subst hzy
     obtain ⟨u,hu,hr⟩:=hy'.get hj
     have hj2:j<size:=by
      have:=(List.getElem?_eq_some_iff.1 hj).1
      rw [hs] at this
      exact this
     have h3:=hat j hj2
     rw [Deep.add_add,hu] at h3
     exact ⟨u,h3,hr⟩
  obtain ⟨xs,hxp,hxl,hcell⟩:=key len (Nat.le_refl _)
  refine ⟨xs,?_,hxp⟩
  rw [e]
  refine .cons ?_ .nil
  show RepC NoA w (.slc xs.length (lsEl f xs)) (.slice (some a) len cap)
  rw [hxl]
  have hget:∀i,i<len→xs[i]?=some (xs.getD i default):=fun i hi=>by
   have:i<xs.length:=by omega
   simp [List.getD,this]
  rcases Nat.eq_zero_or_pos len with hl0|hl0
  ·rw [hl0];exact .emp _ a cap hm
  ·have hf0:∃c,(f (xs.getD 0 default))[0]?=some c:=⟨_,List.getElem?_eq_getElem (by rw [hs];exact h0)⟩
   obtain ⟨c0,hc0⟩:=hf0
   obtain ⟨u0,hu0,_⟩:=hcell 0 _ (hget 0 hl0) 0 c0 hc0
   have hblk:a.block<w.heap.size:=by
    have:=World.block_lt_of_cell? w _ hu0
    rwa [show (a.add (0*size+0)).block=a.block from by unfold Addr.add;split<;>simp_all] at this
   obtain ⟨b,off,spot⟩:=a
   have hsp:spot=none:=by
    have:=World.cell?_spot hu0
    unfold Addr.add at this
    split at this<;>simp_all
   subst hsp
   have hadd:∀j,(⟨b,off,none⟩:Addr).add j=⟨b,off+j,none⟩:=fun j=>by unfold Addr.add;split<;>simp_all
   refine RepC.slc len _ size b off cap (fun i j=>(w.cell? ⟨b,off+(i*size+j),none⟩).getD undef) hblk (fun h=>h) hl hm (fun i _=>hs _) (fun i j c hi hj=>?_) (fun i j c hi hj=>?_)
   ·obtain ⟨u,hu,_⟩:=hcell i _ (hget i hi) j c hj
    rw [hadd] at hu
    rw [hu];rfl
   ·obtain ⟨u,hu,hr⟩:=hcell i _ (hget i hi) j c hj
    rw [hadd] at hu
    rw [hu];exact hr
theorem all2_join {R:CV→Value→Prop} {xs ys:List CV} {cs:List Value} {o k m:Nat} (h1:All2 R xs ((cs.drop o).take k)) (h2:All2 R ys ((cs.drop (o+k)).take m)):All2 R (xs++ys) ((cs.drop o).take (k+m)):=by
 rw [List.take_add,List.drop_drop]
 exact h1.append h2
theorem zfN {R:CV→Value→Prop} {xs:List CV} {cs:List Value} {n:Nat} (h:All2 R xs ((cs.drop 0).take n)) (hl:cs.length=n):All2 R xs cs:=by
 rw [List.drop_zero,List.take_of_length_le (by omega)] at h
 exact h
theorem field_p {α:Type} {P:Program} {f:Field} {n:Nat} {g:α→List CV} {p:α→Prop} (ho:Kit.Opens P f.type n (rP g p)) {H:Type} {enc:TypeId×Value→H} {w:World} {base:Nat} {spare:Nat→Bool} {held:Bool} {fuel:Nat} {cs:List Value} {ys:List (DataW H×List MemPlace)} {j:Nat}
  (hf:DataW.trod enc P w base spare held fuel f.type ((cs.drop f.offset).take (P.cellsOf f.type))=ys[j]?) (hj:j<ys.length):∃a,All2 (RepC NoA w) (g a) ((cs.drop f.offset).take n)∧p a:=by
 rw [List.getElem?_eq_getElem hj,ho.1] at hf
 exact ho.2 _ _ _ _ _ _ _ _ _ hf
section
variable {w:World}
theorem in_agg {cs:List CV} {v:Array Value} (h:All2 (RepC NoA w) cs v.toList):InV w (.agg cs) (.agg v) :=
 ⟨v.toList,by simp,h.imp fun c u k=>by
  have:=in_c k
  exact this⟩
end
end Abs
end Go.Proofs.YtclffekkjfhpdaaGreat
namespace Go.Proofs.YtclffekkjfhpdaaGreat
open Go.ChangeShapes Go.WideShapes Go.RowKit
open Go.Lib
set_option linter.unusedVariables false
set_option linter.unusedSimpArgs false
namespace Abs
section
variable {U T:Nat→Prop} {w0:Base} {w w':World} {s:ASt} {a:Act} {hv:Nat→Value} {h:Heap} {id e sz n:Nat} {el el':Nat→List CV}
theorem mine_row {e' sz' n':Nat} (hb:look h id=some (.row e sz n el)) (b:Nat) (hm:mine ((id,some (.row e' sz' n' el'))::h) hv b):mine h hv b:=by
 obtain ⟨i,x,h1,h2⟩:=hm
 by_cases hi:id=i
 ·subst hi;exact ⟨id,_,hb,h2⟩
 ·rw [zcQ _ _ hi] at h1;exact ⟨i,x,h1,h2⟩
theorem Ok.rerow (ok:Ok U T w0 s a w hv) (hb:look s.heap id=some (.row e sz n el)) (hf:Fr (fun b=>blockOf (hv id)=some b) w w') {vs':List Value} (ho:w'.ownsRow 0 e sz (hv id) n vs') (hl:∀i,i<n→(el' i).length=sz)
  (hr:∀(i j:Nat) (c:CV),i<n→(el' i)[j]?=some c→∃u,vs'[i*sz+j]?=some u∧RepC (fun b=>U b∨mine s.heap hv b) w' c u) {d:Option Nat} {r:AV} {v:Value} (hrv:∀h' A,RepV h' hv A w' r v) (hd:dOk s d=true) :
  Ok U T w0 (ASt.put { s with heap:=(id,some (.row e sz n el'))::s.heap } d r) (a.put d v) w' hv:=by
 have hput:=ok.m.hm.put (w':=w') (id:=id) (blk:=.row e sz n el') (u:=hv id) hf (fun g hg=>⟨⟨_,hb⟩,hg⟩) (fun g hg=>.inr ⟨⟨_,hb⟩,hg⟩) (fun i x _ _ j _=>by rw [upd_self];exact Pass.ofRow hb j) (by
  rw [upd_self]
  refine ⟨vs',ho,hl,fun i j c hi hj=>?_⟩
  obtain ⟨u,h1,h2⟩:=hr i j c hi hj
  exact ⟨u,h1,h2.keep (Fr.refl (fun _=>False) w') (fun _ e=>e.elim) fun b _ hg=>hg.imp (fun x=>x) (mine_row hb b)⟩)
 rw [upd_self] at hput
 exact ok.next hf (fun g hg=>⟨id,_,hb,hg⟩) (fun _ j _=>Pass.ofRow hb j) (fun j _=>Pass.ofRow hb j) hput (fun g hg _=>mine_row hb g hg) (hrv _ _) hd
end
section
variable {P:Program} {s:ASt} {d:Option Nat} {ty t xT yT:TypeId} {pos:String} {af:Array Edge} {g:Option (Nat×Bool)} {x y c:Operand} {id e sz bytes n:Nat} {el:Nat→List CV} {k k':IntKind} {α:Type} [Inhabited α] {f:α→List CV}
theorem made_get {z:Value} (hz:z.cells=#[z]) (n c:Nat) (h:n≤c):(madeCells z.cells (c*1)).toList.take (n*1)=List.replicate n z:=by
 rw [hz,Nat.mul_one,Nat.mul_one]
 apply List.ext_getElem?
 intro i
 unfold madeCells
 rw [List.getElem?_take,List.getElem?_replicate]
 by_cases hi:i<n
 ·rw [if_pos hi,if_pos hi]
  have h2:i<c:=by omega
  simp [h2,Nat.mod_one]
 ·rw [if_neg hi,if_neg hi]
theorem st_make {z:Value} (id:Nat) (n c:Nat) (x0:α) (hid:look s.heap id=none) (hx:s.ev x=.one (.val (.int k (n:Int)))) (hy:s.ev y=.one (.val (.int k' (c:Int)))) (hnc:n≤c) (hc:c≤16000000) [kk:TSl P t e 1 bytes] [kz:TZero P e z] (hz:z.cells=#[z]) (hone:z.oneCell'=true)
  (hf:f x0=[.val z]) (hs:∀x,(f x).length=1) (hby:bytes≤64) (hd:dOk s d=true) :
  Ev P [] s ⟨d,.makeSlice t x y,ty,pos,af,g⟩ (· = (s.blk id (.row e 1 (List.replicate n x0).length (lsEl f (List.replicate n x0)))).put d (.one (.own id))) :=
 fun U T w0 a w hv ok K Q hK=>by
  have E:=TSl.elem (P:=P) (t:=t) (e:=e) (sz:=1) (bytes:=bytes)
  obtain ⟨i,z',hi,hz',hsize,hbytes,_⟩:=E.info
  have h6:z'=z:=by
   have h7:=kz.h
   rw [hi] at h7
   simp only [Option.bind_some] at h7
   rw [hz'] at h7
   injection h7
  subst h6
  have hbc:(i.bytes:Int)*(c:Int)≤281474976710656:=by
   have h1:i.bytes*c≤64*16000000:=Nat.mul_le_mul (by omega) hc
   rw [←Int.natCast_mul]
   omega
  have hrun:=run_make (P:=P) w t e i z' E.slice hi hz' k k' (n:Int) (c:Int) (by omega) (by omega) hbc (by omega)
  simp only [Int.toNat_natCast] at hrun
  rw [hsize] at hrun
  unfold Oper.wp
  have hrun2:(execOp a.eval ⟨d,.makeSlice t x y,ty,pos,af,g⟩).run P w=.ok (.value (.slice (some ⟨w.heap.size,0,none⟩) n c)) (w.alloc (.cells (madeCells z'.cells (c*1)) e)):=by
   simp only [execOp,ok.m.val hx,ok.m.val hy,Sem.run_bind,hrun,Result.andThen_ok,Sem.run_pure]
  rw [hrun2]
  have hu:∀g,blockOf (.slice (some ⟨w.heap.size,0,none⟩) n c)=some g→w.heap.size≤g:=fun g hg=>by simp [blockOf] at hg;omega
  have hmax:c≤maxLen:=maxLen_ge (by omega)
  refine hK _ _ _ _ rfl (ok.new (blk:=.row e 1 (List.replicate n x0).length (lsEl f (List.replicate n x0))) (u:=.slice (some ⟨w.heap.size,0,none⟩) n c) hid (Fr.alloc _ _ _) hu ⟨List.replicate n z',?_,fun i _=>hs _,fun i j cc hi hj=>?_⟩ ⟨⟨_,_,_,_,look_same _ _ _⟩,(upd_same _ _ _).symm,some ⟨w.heap.size,0,none⟩,n,c,rfl⟩ hd) fun j _ ⟨b,hb⟩=>upd_other fun e=>by subst e;rw [hid] at hb;cases hb
  ·rw [upd_same,List.length_replicate]
   refine ⟨by simp,.inr ⟨w.heap.size,c,_,rfl,Nat.zero_le _,heap_alloc_new w _,hnc,hmax,by rw [size_madeCells],made_get hz n c hnc⟩⟩
  ·rw [List.length_replicate] at hi
   have h1:(List.replicate n x0).getD i default=x0:=by simp [List.getD,hi]
   unfold lsEl at hj
   rw [h1,hf] at hj
   have hj0:j=0:=by
    have:=(List.getElem?_eq_some_iff.1 hj).1
    simpa using this
   subst hj0
   simp only [List.getElem?_cons_zero,Option.some.injEq] at hj
   subst hj
   exact ⟨z',by simp [hi],RepC.val z' hone⟩
theorem zcD {el:Nat→List CV} {j o nn:Nat} {cc:CV} (hx:s.ev x=.one (.rptr id sz j o)) (hb:look s.heap id=some (.row e sz n el)) (hj:j<n) [kk:TVar P t false nn] (hc:(el j)[o]?=some cc) (hd:dOk s d=true):Ev P [] s ⟨d,.load t x,ty,pos,af,g⟩ (· = s.put d (.one cc)) :=
 ev_of_run hd fun U a w hv m=>by
  have hr:=m.ev x
  rw [hx] at hr
  obtain ⟨_,b,n',c',h1,h2⟩:=hr
  obtain ⟨vs,h3,h4,h5⟩:=m.hm.blk id _ hb
  obtain ⟨u,h6,h7⟩:=h5 j o cc hj hc
  have h8:=h3.cells (g:=b) (by rw [h1];rfl) _ _ h6
  rw [add_at,Nat.zero_add] at h8
  refine ⟨u,w,?_,Fr.refl _ _,rep_of_c h7⟩
  simp [execOp,h2,Instr.loadAt,Instr.sureAddr,loadVar,run_isAgg (P:=P) (t:=t) (agg:=false) (n:=nn),h8]
theorem lsEl_set {l:List α} {j:Nat} (hj:j<l.length) (y:α) (i:Nat):lsEl f (l.set j y) i=if i=j then f y else lsEl f l i:=by
 unfold lsEl
 rw [List.getD_eq_getElem?_getD,List.getElem?_set,List.getD_eq_getElem?_getD]
 by_cases h:i=j
 ·subst h
  simp [hj]
 ·rw [if_neg (fun e=>h e.symm),if_neg h]
theorem zhx {l:List α} {j nn:Nat} {cc:CV} (y0:α) (hs:∀x,(f x).length=1) (hx:s.ev x=.one (.rptr id 1 j 0)) (hb:look s.heap id=some (.row e 1 l.length (lsEl f l))) (hj:j<l.length) (hy:s.ev y=.one cc) (hf:f y0=[cc]) (hrd:cc.read=true) [kk:TVar P t false nn] (hn:nn=1) (hd:dOk s d=true) :
  Ev P [] s ⟨d,.store t x y,ty,pos,af,g⟩ (· = (s.blk id (.row e 1 (l.set j y0).length (lsEl f (l.set j y0)))).put d (.one .any)) :=
 fun U T w0 a w hv ok K Q hK=>by
  have hr:=ok.m.ev x
  rw [hx] at hr
  obtain ⟨_,b,n',c',h1,h2⟩:=hr
  obtain ⟨vs,h3,h4,h5⟩:=ok.m.hm.blk id _ hb
  have hry:=ok.m.ev y
  rw [hy] at hry
  have hrc:RepC (fun b=>U b∨mine s.heap hv b) w cc (a.eval y):=RepT.read (show RepT _ _ _ _ cc _ from hry) hrd
  have hone:=hrc.one
  have h3':=h3
  rw [h1] at h3'
  have hn':n'=l.length:=by
   rcases h3'.2 with ⟨h6,_⟩|⟨g',cap,cur,h6,_⟩
   ·cases h6
   ·injection h6
  subst hn'
  obtain ⟨h6,h7⟩:=h3'.stored j (a.eval y)
  have hcell:w.cell? ⟨b,j,none⟩=some (vs.getD j undef):=by
   obtain ⟨u,e1,_⟩:=h5 j 0 ((lsEl f l j)[0]'(by rw [h4 j hj];exact Nat.one_pos)) hj (List.getElem?_eq_getElem _)
   have h8:=h3.cells (g:=b) (by rw [h1];rfl) _ _ e1
   rw [add_at,Nat.zero_add] at h8
   simp only [Nat.mul_one,Nat.add_zero] at h8 e1
   rw [h8,List.getD,e1]
   rfl
  have hfro:w.frozen? ⟨b,j,none⟩=false:=by
   rcases h3'.2 with ⟨h6,_⟩|⟨g',cap,cur,h6,_,hg,_⟩
   ·cases h6
   ·simp only [Value.slice.injEq,Option.some.injEq,Addr.mk.injEq,and_true] at h6
    obtain ⟨rfl,_⟩:=h6
    simp [World.frozen?,hg]
  have hcs:(a.eval y).cells=#[a.eval y]:=by
   cases hv':a.eval y<;>first|rfl|(rw [hv'] at hone;simp [Value.oneCell'] at hone)
  have hrun:(execOp a.eval ⟨d,.store t x y,ty,pos,af,g⟩).run P w=.ok .skip (w.setCell ⟨b,j,none⟩ (a.eval y)):=by
   have hadd:(⟨b,j*1+0,none⟩:Addr)=⟨b,j,none⟩:=by simp
   simp only [Nat.mul_one,Nat.add_zero] at h2
   have hadd2:(⟨b,j,none⟩:Addr).add 0=⟨b,j,none⟩:=by simp [Addr.add]
   simp [execOp,Instr.storeAt,h2,Instr.sureAddr,storeVar,hcs,run_size (P:=P) (t:=t) (agg:=false) (n:=nn),hn,storeCells,hadd2,run_store P w _ _ _ hone,hcell,hfro]
  unfold Oper.wp
  rw [hrun]
  have hf2:Fr (fun g=>blockOf (hv id)=some g) w (w.setCell ⟨b,j,none⟩ (a.eval y)):=Fr.setCell w _ _ (by rw [h1];rfl)
  have hmine:blockOf (hv id)=some b:=by rw [h1];rfl
  have hlen:(l.set j y0).length=l.length:=List.length_set
  refine hK _ undef _ hv rfl ?_ fun _ _ _=>rfl
  have key:=ok.rerow (w':=w.setCell ⟨b,j,none⟩ (a.eval y)) (el':=lsEl f (l.set j y0)) (d:=d) (r:=.one .any) (v:=undef) hb hf2 (by rw [h1];exact h6) (fun i _=>hs _) (fun i q c' hi hq=>?_) (fun _ _=>trivial) hd
  ·show Ok U T w0 (ASt.put { s with heap:=(id,some (.row e 1 (l.set j y0).length (lsEl f (l.set j y0))))::s.heap } d (.one .any)) _ _ _
   rw [hlen]
   exact key
  ·have hkeep:∀{c:CV} {u:Value},RepC (fun b=>U b∨mine s.heap hv b) w c u→RepC (fun b=>U b∨mine s.heap hv b) (w.setCell ⟨b,j,none⟩ (a.eval y)) c u:=fun hr=>hr.keep hf2 (fun g hg=>.inr ⟨id,_,hb,hg⟩) fun _ _ h=>h
   rw [lsEl_set hj] at hq
   have hvl:vs.length=l.length:=by have:=h3.1;omega
   by_cases hij:i=j
   ·subst hij
    rw [if_pos rfl,hf] at hq
    have hq0:q=0:=by
     have:=(List.getElem?_eq_some_iff.1 hq).1
     simpa using this
    subst hq0
    simp only [List.getElem?_cons_zero,Option.some.injEq] at hq
    subst hq
    refine ⟨a.eval y,?_,hkeep hrc⟩
    rw [List.getElem?_set]
    simp
    omega
   ·rw [if_neg hij] at hq
    obtain ⟨u,e1,e2⟩:=h5 i q c' hi hq
    refine ⟨u,?_,hkeep e2⟩
    have hq0:q=0:=by
     have:=(List.getElem?_eq_some_iff.1 hq).1
     rw [h4 i hi] at this
     omega
    subst hq0
    simp only [Nat.mul_one,Nat.add_zero] at e1 ⊢
    rw [List.getElem?_set_ne (fun e=>hij e.symm)]
    exact e1
theorem ziz (w:World) {u:TypeId} {i:TypeInfo} (ht:P.underlying t=some (.slice e)) (hu:P.underlying u=some .string) (hi:P.info? e=some i) (hz:i.zero=some (.int .u8 0)) (hsize:i.size=1) (hby:i.bytes=1)
  (v:Value) (xs:List Value) (hown:w.ownsRow 0 e 1 v n xs) (b:ByteArray) (h63:n+b.size≤maxLen) (hbytes:n+b.size≤140737488355328) :
  ∃v' w',(Builtin.append_ #[t,u] ty #[v,.string b]).run P w=.ok v' w'∧w'.ownsRow 0 e 1 v' (n+b.size) (xs++strCells b)∧w.grownBy w' v.ownBlock∧(v'.ownBlock=v.ownBlock∨v'.ownBlock=some w.heap.size):=by
 obtain ⟨v',w',hr,h2,h3,h4⟩:=run_append_own_string (P:=P) w 0 t u ty e i ht hu hi hz hsize hby v n xs hown b h63 hbytes (Nat.zero_le _)
 refine ⟨v',w',hr,h2,h3,?_⟩
 have hxl:xs.length=n:=by simpa using hown.1
 rcases hown.2 with ⟨rfl,rfl⟩|⟨g,cap,cur,rfl,hbg,hg,hnc,hcm,hcs,htake⟩
 ·by_cases hm:b.size=0
  ·rw [h4.2 ⟨rfl,hm⟩];exact .inl rfl
  ·have hr2:=run_append_nil_string (P:=P) w t u ty e i (.int .u8 0) ht hu hi hz b (by omega) (by omega) (by rw [hby];omega)
   have h5:=hr.symm.trans hr2
   injection h5 with h5 _
   rw [h5]
   exact .inr rfl
 ·by_cases hroom:n+b.size≤cap
  ·have hcs':cur.size=cap:=by simpa using hcs
   have hr2:=run_append_room_string (P:=P) w t u ty e i ht hu hi hsize g n cap cur hg b hroom (by omega)
   have h5:=hr.symm.trans hr2
   injection h5 with h5 _
   rw [h5]
   exact .inl rfl
  ·have holds:∀j u,xs[j]?=some u→w.cell? ((⟨g,0,none⟩:Addr).add j)=some u:=hown.cells (g:=g) rfl
   have hr2:=run_append_grow_string (P:=P) w t u ty e i (.int .u8 0) ht hu hi hz ⟨g,0,none⟩ n cap xs (by rw [hsize];simpa using hxl) holds b (by omega) (by simp only [maxLen] at h63;omega) (by rw [hby];exact growslice_fits (by omega) (by omega))
   have h5:=hr.symm.trans hr2
   injection h5 with h5 _
   rw [h5]
   exact .inr rfl
theorem ziM {u:TypeId} (l1 l2:List UInt8) (hx:s.ev x=.one (.own id)) (hb:look s.heap id=some (.row e 1 l1.length (lsEl byC l1))) (hy:s.ev y=.one (.val (Sv l2))) [kk:TSl P t e 1 1] [kz:TZero P e (.int .u8 0)] [ks:TStr P u]
  (hg:l1.length+l2.length≤4000000) (hd:dOk s d=true) :
  Ev P [id] s ⟨d,.call { callee:=.builtin .append,args:=#[x,y],argTypes:=#[t,u] },ty,pos,af,g⟩ (· = ((s.kill id).blk id (.row e 1 (l1++l2).length (lsEl byC (l1++l2)))).put d (.one (.own id))) :=
 fun U T w0 a w hv ok K Q hK=>by
  have E:=TSl.elem (P:=P) (t:=t) (e:=e) (sz:=1) (bytes:=1)
  obtain ⟨i,z',hi,hz',hsize,hbytes,_⟩:=E.info
  have h6:z'=.int .u8 0:=by
   have h7:=kz.h
   rw [hi] at h7
   simp only [Option.bind_some] at h7
   rw [hz'] at h7
   injection h7
  subst h6
  obtain ⟨vs,h1,h2,h3⟩:=ok.m.hm.blk id _ hb
  have hx':=ok.m.ev x
  rw [hx] at hx'
  obtain ⟨_,hxv,_⟩:=hx'
  have hbs:(⟨l2.toArray⟩:ByteArray).size=l2.length:=rfl
  obtain ⟨v',w',hrun,ho,hg2,hv'⟩:=ziz (P:=P) (ty:=ty) w E.slice ks.h hi hz' hsize hbytes (hv id) vs h1 ⟨l2.toArray⟩ (by rw [hbs];exact maxLen_ge (by omega)) (by rw [hbs];omega)
  rw [show (Value.string ⟨l2.toArray⟩)=a.eval y from (ok.m.val hy).symm,←hxv] at hrun
  unfold Oper.wp
  rw [zeX (v:=undef) hrun]
  have hT:∀b,some b=(hv id).ownBlock→(U b∨mine s.heap hv b):=fun b hb2=>.inr ⟨id,_,hb,by
   obtain ⟨A,c,h4,_⟩:=Kit.own_slice h1
   rw [h4] at hb2 ⊢
   cases A with
   | none=>cases hb2
   | some a=>exact hb2.symm⟩
  have hlen:l1.length+l2.length=(l1++l2).length:=List.length_append.symm
  rw [hbs,hlen] at ho
  have hf:Fr (fun b=>some b=(hv id).ownBlock) w w':=Fr.grown hg2 fun k hk=>hk.symm
  refine hK _ _ _ _ rfl (ok.regrow hb hg2 hv' ho (fun i hi=>rfl) (fun A' i j c hA' hi hj=>?_) hd) fun j hj hal=>upd_other fun e=>hj (by simp [e])
  rw [zgy] at hj
  split at hj
  ·rename_i hlt
   obtain ⟨u,hu1,hu2⟩:=h3 i j c hlt hj
   exact ⟨u,by rw [List.getElem?_append_left (List.getElem?_eq_some_iff.1 hu1).1];exact hu1,hu2.keep hf hT hA'⟩
  ·rename_i hlt
   have hil:i - l1.length<l2.length:=by omega
   have hj0:j=0:=by
    have:=(List.getElem?_eq_some_iff.1 hj).1
    simpa [lsEl,byC] using this
   subst hj0
   simp only [lsEl,byC,List.getElem?_cons_zero,Option.some.injEq] at hj
   subst hj
   refine ⟨_,?_,RepC.val _ rfl⟩
   have hvl:vs.length=l1.length:=by have:=h1.1;omega
   rw [Nat.mul_one,Nat.add_zero,List.getElem?_append_right (by omega),hvl]
   simp [strCells,hil]
theorem st_copy {u:TypeId} (l1 l2:List α) (hs:∀x,(f x).length=1) (hx:s.ev x=.one (.own id)) (hb:look s.heap id=some (.row e 1 l1.length (lsEl f l1))) (hy:s.ev y=.one (.slc l2.length (lsEl f l2))∨∃i2 e2,s.ev y=.one (.own i2)∧look s.heap i2=some (.row e2 1 l2.length (lsEl f l2)))
  [kk:TSl P t e 1 bytes] (hd:dOk s d=true) :
  Ev P [] s ⟨d,.call { callee:=.builtin .copy,args:=#[x,y],argTypes:=#[t,u] },ty,pos,af,g⟩ (· = (s.blk id (.row e 1 (l2.take l1.length++l1.drop l2.length).length (lsEl f (l2.take l1.length++l1.drop l2.length)))).put d (.one (.val (.int .i64 ((min l2.length l1.length:Nat):Int))))) :=
 fun U T w0 a w hv ok K Q hK=>by
  have E:=TSl.elem (P:=P) (t:=t) (e:=e) (sz:=1) (bytes:=bytes)
  obtain ⟨i,z',hi,hz',hsize,hbytes,_⟩:=E.info
  have hs1:(P.info? e).map (·.size)=some 1:=by rw [hi];simp [hsize]
  obtain ⟨vs,h1,h2,h3⟩:=ok.m.hm.blk id _ hb
  obtain ⟨Ad,cap,news,hv2,_,_,hfl,hlen,hone,hrep⟩:=ok.m.src hy (fun i _=>hs _) Nat.one_pos
  have hx':=ok.m.ev x
  rw [hx] at hx'
  obtain ⟨_,hxv,_⟩:=hx'
  obtain ⟨A1,c1,h4,_⟩:=Kit.own_slice h1
  have hvl:vs.length=l1.length:=by have:=h1.1;omega
  have hnl:news.length=l2.length:=by omega
  have hlen3:(l2.take l1.length++l1.drop l2.length).length=l1.length:=by simp;omega
  have fin:∀w',(Builtin.copy_ #[t,u] ty #[hv id,.slice Ad l2.length cap]).run P w=.ok (goInt (min l2.length l1.length:Nat)) w'→Fr (fun b=>blockOf (hv id)=some b) w w'→w'.ownsRow 0 e 1 (hv id) l1.length (news.take l1.length++vs.drop l2.length) →
    (execOp a.eval ⟨d,.call { callee:=.builtin .copy,args:=#[x,y],argTypes:=#[t,u] },ty,pos,af,g⟩).run P w=.ok (.value (goInt (min l2.length l1.length:Nat))) w'→K (a.put d (goInt (min l2.length l1.length:Nat))) w':=fun w' hrun hf ho _=>by
   have key:=ok.rerow (w':=w') (el':=lsEl f (l2.take l1.length++l1.drop l2.length)) (d:=d) (r:=.one (.val (.int .i64 ((min l2.length l1.length:Nat):Int)))) (v:=goInt (min l2.length l1.length:Nat)) hb hf ho (fun i _=>hs _) (fun i j c hi hj=>?_) (fun _ _=>RepC.val _ rfl) hd
   ·refine hK _ _ w' hv ?_ key fun _ _ _=>rfl
    show _=ASt.put { s with heap:=(id,some (.row e 1 (l2.take l1.length++l1.drop l2.length).length (lsEl f (l2.take l1.length++l1.drop l2.length))))::s.heap } d _
    rw [hlen3]
   ·have hkeep:∀{c:CV} {u:Value},RepC (fun b=>U b∨mine s.heap hv b) w c u→RepC (fun b=>U b∨mine s.heap hv b) w' c u:=fun hr=>hr.keep hf (fun g hg=>.inr ⟨id,_,hb,hg⟩) fun _ _ h=>h
    rw [zgy,List.length_take] at hj
    split at hj
    ·rename_i hlt
     have hil:i<l2.length:=by omega
     have hg1:lsEl f (l2.take l1.length) i=lsEl f l2 i:=by
      unfold lsEl
      rw [List.getD_eq_getElem?_getD,List.getElem?_take,if_pos (by omega),List.getD_eq_getElem?_getD]
     rw [hg1] at hj
     obtain ⟨u,hu1,hu2⟩:=hrep i j c hil hj
     have hj0:j=0:=by
      have:=(List.getElem?_eq_some_iff.1 hj).1
      rw [show (lsEl f l2 i).length=1 from hs _] at this
      omega
     subst hj0
     refine ⟨u,?_,hkeep hu2⟩
     rw [List.getElem?_append_left (by rw [List.length_take];omega),List.getElem?_take,if_pos (by omega)]
     exact hu1
    ·rename_i hlt
     have hil:l2.length≤i:=by
      rcases Nat.le_total l1.length l2.length with h|h
      ·rw [Nat.min_eq_left h] at hlt;omega
      ·rw [Nat.min_eq_right h] at hlt;omega
     have hmin:min l1.length l2.length=l2.length:=Nat.min_eq_right (by omega)
     have hg1:lsEl f (l1.drop l2.length) (i - min l1.length l2.length)=lsEl f l1 i:=by
      unfold lsEl
      rw [hmin,List.getD_eq_getElem?_getD,List.getElem?_drop,List.getD_eq_getElem?_getD,show l2.length+(i - l2.length)=i by omega]
     rw [hg1] at hj
     obtain ⟨u,hu1,hu2⟩:=h3 i j c hi hj
     have hj0:j=0:=by
      have:=(List.getElem?_eq_some_iff.1 hj).1
      rw [show (lsEl f l1 i).length=1 from hs _] at this
      omega
     subst hj0
     refine ⟨u,?_,hkeep hu2⟩
     rw [List.getElem?_append_right (by rw [List.length_take];omega),List.getElem?_drop,List.length_take]
     rw [←hu1]
     congr 1
     omega
  have hop:∀w',(Builtin.copy_ #[t,u] ty #[hv id,.slice Ad l2.length cap]).run P w=.ok (goInt (min l2.length l1.length:Nat)) w'→(execOp a.eval ⟨d,.call { callee:=.builtin .copy,args:=#[x,y],argTypes:=#[t,u] },ty,pos,af,g⟩).run P w=.ok (.value (goInt (min l2.length l1.length:Nat))) w':=fun w' hr=>by
   rw [←hv2,←hxv] at hr
   simp only [execOp,resolve,invoke,builtin,Sem.run_bind,Sem.run_pure,Result.andThen_ok,List.map_toArray,List.map_cons,List.map_nil,hr]
  by_cases hm:min l2.length l1.length=0
  ·have hrun:=run_copy_none (P:=P) w t u ty e A1 Ad l1.length c1 l2.length cap E.slice hs1 hm
   rw [←h4] at hrun
   have hrun':(Builtin.copy_ #[t,u] ty #[hv id,.slice Ad l2.length cap]).run P w=.ok (goInt (min l2.length l1.length:Nat)) w:=by rw [hrun,hm];rfl
   unfold Oper.wp
   rw [hop w hrun']
   refine fin w hrun' (Fr.refl _ _) ?_ (hop w hrun')
   have hnv:news.take l1.length++vs.drop l2.length=vs:=by
    rcases Nat.eq_zero_or_pos l2.length with h0|h0
    ·have:news=[]:=List.eq_nil_of_length_eq_zero (by omega)
     rw [this,h0];simp
    ·have h01:l1.length=0:=by omega
     have:vs=[]:=List.eq_nil_of_length_eq_zero (by omega)
     rw [this,h01];simp
   rw [hnv]
   exact h1
  ·have hnn:news≠[]:=fun e0=>by rw [e0] at hnl;simp at hnl;omega
   obtain ⟨b2,o2,rfl,hb2,hc2⟩:=hfl hnn
   rcases h1.2 with ⟨_,h5⟩|⟨g1,cap1,cur,h5,h6,h7,h8,h9,h10,h11⟩
   ·omega
   ·have hcl:(news.take (min l2.length l1.length)).length=Nat.min l2.length l1.length:=by
     rw [List.length_take]
     show min (min l2.length l1.length) news.length=min l2.length l1.length
     omega
    have hrun:=run_copy_row (P:=P) w t u ty e g1 0 l1.length cap1 ⟨b2,o2,none⟩ l2.length cap cur e (news.take (min l2.length l1.length)) E.slice hs1 h7 hcl (fun j v hv3=>by
     rw [add_at]
     refine hc2 j v ?_
     rw [List.getElem?_take] at hv3
     split at hv3
     ·exact hv3
     ·cases hv3) (by rw [hcl];show 0+min _ _≤_;omega) (fun v hv3=>hone v (List.mem_of_mem_take hv3))
    rw [hcl] at hrun
    rw [←h5] at hrun
    have hmm:Nat.min l2.length l1.length=min l2.length l1.length:=rfl
    rw [hmm] at hrun
    unfold Oper.wp
    rw [hop _ hrun]
    refine fin _ hrun ((Fr.setRow w g1 _).mono fun b _ hbb=>by rw [hbb,h5];rfl) ?_ (hop _ hrun)
    rw [h5]
    refine ⟨by rw [List.length_append,List.length_take,List.length_drop];omega,.inr ⟨g1,cap1,_,rfl,h6,setRow_heap w g1 cur _ e _ h7,h8,h9,?_,?_⟩⟩
    ·simp only [List.size_toArray,List.length_append,List.length_take,List.length_drop,Array.length_toList]
     omega
    ·have hcur:vs=cur.toList.take l1.length:=by rw [←h11,Nat.mul_one]
     have hL:(news.take l1.length++vs.drop l2.length).length=l1.length:=by rw [List.length_append,List.length_take,List.length_drop];omega
     rw [hcur] at hL ⊢
     apply List.ext_getElem?
     intro q
     simp only [List.take_zero,List.nil_append,Nat.zero_add,Nat.mul_one]
     by_cases hq:q<l1.length
     ·rw [List.getElem?_take,if_pos hq]
      by_cases hq2:q<l2.length
      ·rw [List.getElem?_append_left (by rw [List.length_take];omega),List.getElem?_append_left (by rw [List.length_take];omega),List.getElem?_take,List.getElem?_take,if_pos (by omega),if_pos (by omega)]
      ·rw [List.getElem?_append_right (by rw [List.length_take];omega),List.getElem?_append_right (by rw [List.length_take];omega),List.getElem?_drop,List.getElem?_drop,List.getElem?_take,List.length_take,List.length_take]
       rw [if_pos (by omega)]
       congr 1
       omega
     ·rw [List.getElem?_take,if_neg hq,List.getElem?_eq_none]
      rw [hL]
      omega
end
end Abs
end Go.Proofs.YtclffekkjfhpdaaGreat

